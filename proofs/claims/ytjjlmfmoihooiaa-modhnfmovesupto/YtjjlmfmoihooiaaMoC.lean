/- Part 3 of 7 of the proof that the law ModhnfMoves returns true for every input of bulk at most 1048576 and leaves its arguments as they were: here the contracts of the functions that it calls, and plain lemmas. -/
import Derived.RangeFuncNested
import Derived.RangeFuncBound
import Derived.RangeFuncCalls
import Derived.RangeFuncLeaves
import Derived.Shelf.Abstract
import Derived.Shelf.RegionOpen
import Derived.WalkKit
import Derived.OwnWalkIn
import Derived.TacticsInMore
import Derived.LoopNIn
import Derived.LoopIn
import Derived.Maps.AppendAt
import Derived.Deep.RegionLaw
import Derived.Deep.Onto
import Derived.Deep.AppendSrc
import Derived.Deep.Upon
import Derived.Test.YtjjlmfmoihooiaaMoB
set_option linter.all false
namespace Go.Proofs.Ytjjlmfmoihooiaa
open Go.RowKit
theorem mb (a b : Int) : bU a b ∣ a /\ bU a b ∣ b /\ (a ≠ 0 -> bU a b ≠ 0) /\ 0 <= bU a b := by
 have h := j6 a b;unfold ec at h;by_cases hb : b = 0
 · rw [if_pos hb] at h;rw [h.1, hb];refine ⟨Int.natAbs_dvd.2 (Int.dvd_refl a), Int.dvd_zero _, fun ha => by omega, by omega⟩
 · rw [if_neg hb] at h;rw [h.1];refine ⟨Int.gcd_dvd_left .., Int.gcd_dvd_right .., fun ha h0 => ?_, by omega⟩;have : Int.gcd a b = 0 := by omega
   exact ha (Int.gcd_eq_zero_iff.1 this).1
theorem sA (a b : Int) : (ef a b).natAbs <= b.natAbs + 1 := by
 have h := j6 a b;have hg := mb a b;unfold ec at h;by_cases hb : b = 0
 · rw [if_pos hb] at h;rw [h.2.1];have := Int.natAbs_sign a;rcases Int.lt_trichotomy a 0 with h1 | h1 | h1
   · rw [Int.sign_eq_neg_one_of_neg h1]; simp
   · subst h1; simp
   · rw [Int.sign_eq_one_of_pos h1]; simp
 · rw [if_neg hb] at h;obtain ⟨h1, h2, h3, h4⟩ := h;have hg1 : 1 <= bU a b := by
    have h0 : bU a b ≠ 0 := by
     rw [h1]; intro h0;have : Int.gcd a b = 0 := by omega
     exact hb (Int.gcd_eq_zero_iff.1 this).2
    have := hg.2.2.2;omega
   have : ef a b * 1 <= ef a b * bU a b := Int.mul_le_mul_of_nonneg_left hg1 h2;omega
theorem vS (a b : Int) : (gL a b).natAbs <= a.natAbs + 1 := by
 have h := j6 a b;have hx := sA a b;unfold ec at h;by_cases hb : b = 0
 · rw [if_pos hb] at h;rw [h.2.2]; simp
 · rw [if_neg hb] at h;obtain ⟨h1, h2, h3, h4⟩ := h;have hg := (mb a b).2.2.2;have hgb : (bU a b).natAbs <= b.natAbs := by
    rw [h1];simp only [Int.natAbs_natCast];exact Nat.le_of_dvd (by omega) (Int.natAbs_dvd_natAbs.2 (Int.gcd_dvd_right a b) |> fun h => by simpa using h)
   have hg1 : 1 <= bU a b := by
    have h0 : bU a b ≠ 0 := by
     rw [h1]; intro h0;have : Int.gcd a b = 0 := by omega
     exact hb (Int.gcd_eq_zero_iff.1 this).2
    omega
   have hxl : (ef a b).natAbs <= b.natAbs := by
    have : ef a b * 1 <= ef a b * bU a b := Int.mul_le_mul_of_nonneg_left hg1 h2;omega
   have h5 : b * gL a b = bU a b - a * ef a b := by omega
   have h6 : b.natAbs * (gL a b).natAbs <= b.natAbs * (a.natAbs + 1) := by
    rw [<- Int.natAbs_mul, h5];have h7 : (bU a b - a * ef a b).natAbs <= (bU a b).natAbs + (a * ef a b).natAbs := Int.natAbs_sub_le ..;have h8 : (a * ef a b).natAbs <= a.natAbs * b.natAbs := by rw [Int.natAbs_mul]; exact Nat.mul_le_mul_left _ hxl
    rw [Nat.mul_add, Nat.mul_one, Nat.mul_comm b.natAbs a.natAbs];omega
   exact Nat.le_of_mul_le_mul_left h6 (by omega)
def me (R : List Hd) (i j : Nat) (a b c d : Int) : List Hd := if h : i < R.length /\ j < R.length then tq R i j a b c d h.1 h.2 else R
theorem x2 {R : List Hd} {i j : Nat} {a b c d : Int} (hi : i < R.length) (hj : j < R.length) : me R i j a b c d = tq R i j a b c d hi hj := by unfold me; rw [dif_pos ⟨hi, hj⟩]
def cM (R : List Hd) (k n j : Nat) : List Hd := jg R n k (-((az R n j).fdiv (az R k j)))
def fI (R : List Hd) (k n j : Nat) : List Hd :=
 if (az R n j).fmod (az R k j) = 0 then cM R k n j
 else me (cM R k n j) k n (ef (az (cM R k n j) k j) (az (cM R k n j) n j)) (gL (az (cM R k n j) k j) (az (cM R k n j) n j))
  (-(az (cM R k n j) n j / bU (az (cM R k n j) k j) (az (cM R k n j) n j))) (az (cM R k n j) k j / bU (az (cM R k n j) k j) (az (cM R k n j) n j))
def gS (R : List Hd) (i : Nat) : List Hd := if h : i < R.length then qh R i h else R
def swapT (R : List Hd) (i j : Nat) : List Hd := if h : i < R.length /\ j < R.length then mC R i j h.1 h.2 else R
theorem uR {R : List Hd} {i : Nat} (hi : i < R.length) : gS R i = qh R i hi := by unfold gS; rw [dif_pos hi]
theorem uK {R : List Hd} {i j : Nat} (hi : i < R.length) (hj : j < R.length) : swapT R i j = mC R i j hi hj := by unfold swapT; rw [dif_pos ⟨hi, hj⟩]
theorem nk (R : List Hd) (i : Nat) : (gS R i).length = R.length := by
 unfold gS; split
 · unfold qh; rw [bI]
 · rfl
theorem cI (R : List Hd) (i j : Nat) : (swapT R i j).length = R.length := by
 unfold swapT; split
 · exact gg ..
 · rfl
theorem og (R : List Hd) (i j : Nat) (a b c d : Int) : (me R i j a b c d).length = R.length := by
 unfold me; split
 · unfold tq; rw [bI, bI]
 · rfl
theorem o4 (R : List Hd) (k n j : Nat) : (fI R k n j).length = R.length := by
 unfold fI cM; split
 · exact dK ..
 · rw [og]; exact dK ..
def eB (at_ : Nat) : Nat -> List Hd -> List Hd
 | 0, R => R
 | i + 1, R => if i + 1 <= at_ then R else eB at_ i (swapT R (i + 1) i)
inductive nA (B c n : Nat) : Nat -> Int -> List Hd -> Bool -> List Hd -> Prop
 | zero {at_ : Nat} {last : Int} {R R' : List Hd} (hF : Fit B c R) (h : aQ R n = c ∨ (aQ R n : Int) <= last) (hs : r8 B c (iE R n) n n R R') : nA B c n at_ last R false R'
 | stop {at_ : Nat} {last : Int} {R R' : List Hd} (hF : Fit B c R) (h1 : aQ R n < c) (h2 : last < aQ R n) (a : Nat) (ha : at_ <= a) (hn : a <= n) (hlt : ∀ i, at_ <= i -> i < a -> aQ R i < aQ R n) (hb : a = n ∨ aQ R n < aQ R a)
  (hF2 : Fit B c (eB a n (if az R n (aQ R n) < 0 then gS R n else R)))
  (hs : r8 B c (iE (eB a n (if az R n (aQ R n) < 0 then gS R n else R)) (n + 1)) (n + 1) (n + 1) (eB a n (if az R n (aQ R n) < 0 then gS R n else R)) R') : nA B c n at_ last R true R'
 | meet {at_ : Nat} {last : Int} {R R' : List Hd} {b : Bool} (hF : Fit B c R) (h1 : aQ R n < c) (h2 : last < aQ R n) (a : Nat) (ha : at_ <= a) (hn : a < n) (hlt : ∀ i, at_ <= i -> i < a -> aQ R i < aQ R n) (hj : aQ R a = aQ R n)
  (hp : az R a (aQ R n) ≠ 0) (hF1 : Fit B c (cM R a n (aQ R n))) (hp1 : az (cM R a n (aQ R n)) a (aQ R n) ≠ 0)
  (hs : nA B c n a (aQ R n) (fI R a n (aQ R n)) b R') : nA B c n at_ last R b R'
def oH : Nat -> Nat -> List Hd -> List Hd
 | 0, _, R => R
 | k + 1, i, R => oH k (i + 1) (swapT R i (i + 1))
inductive re (B c : Nat) : Nat -> Nat -> List Hd -> Nat -> List Hd -> Prop
 | fin {d e : Nat} {R : List Hd} (h : e <= d) : re B c d e R d R
 | ok {d e k : Nat} {R R1 R' : List Hd} (h : d < e) (hp : nA B c d 0 (-1) R true R1) (hs : re B c (d + 1) e R1 k R') : re B c d e R k R'
 | zero {d e k : Nat} {R R1 R' : List Hd} (h : d < e) (hp : nA B c d 0 (-1) R false R1) (hs : re B c d (e - 1) (oH (e - 1 - d) d R1) k R') : re B c d e R k R'
theorem iK (a : Nat) : ∀ (i : Nat) (R : List Hd), (eB a i R).length = R.length
 | 0, R => rfl
 | i + 1, R => by
  unfold eB; split
  · rfl
  · rw [iK a i, cI]
end Go.Proofs.Ytjjlmfmoihooiaa
namespace Go.Proofs.Ytjjlmfmoihooiaa
def sm : Nat -> (Nat -> Int) -> Int
 | 0, _ => 0
 | n + 1, f => sm n f + f n
theorem aj {n : Nat} {f g : Nat -> Int} (h : ∀ k, k < n -> f k = g k) : sm n f = sm n g := by
 induction n with
 | zero => rfl
 | succ n ih => unfold sm; rw [ih (fun k hk => h k (by omega)), h n (by omega)]
theorem bf {n : Nat} {f : Nat -> Int} (h : ∀ k, k < n -> f k = 0) : sm n f = 0 := by
 induction n with
 | zero => rfl
 | succ n ih => unfold sm; rw [ih (fun k hk => h k (by omega)), h n (by omega)]; rfl
theorem fy (n : Nat) (f g : Nat -> Int) : sm n (fun k => f k + g k) = sm n f + sm n g := by
 induction n with
 | zero => rfl
 | succ n ih => simp only [sm, ih]; omega
theorem jM (n : Nat) (f g : Nat -> Int) : sm n (fun k => f k - g k) = sm n f - sm n g := by
 induction n with
 | zero => rfl
 | succ n ih => simp only [sm, ih]; omega
theorem bC (n : Nat) (c : Int) (f : Nat -> Int) : sm n (fun k => c * f k) = c * sm n f := by
 induction n with
 | zero => simp [sm]
 | succ n ih => simp only [sm, ih, Int.mul_add]
theorem dR (n : Nat) (c : Int) (f : Nat -> Int) : sm n (fun k => f k * c) = sm n f * c := by
 induction n with
 | zero => simp [sm]
 | succ n ih => simp only [sm, ih, Int.add_mul]
theorem iD (n m : Nat) (f : Nat -> Nat -> Int) : sm n (fun i => sm m (fun j => f i j)) = sm m (fun j => sm n (fun i => f i j)) := by
 induction n with
 | zero => exact (bf (fun _ _ => rfl)).symm
 | succ n ih => simp only [sm, ih, fy]
theorem dv {n : Nat} {f : Nat -> Int} (i : Nat) (hi : i < n) (h : ∀ k, k < n -> k ≠ i -> f k = 0) : sm n f = f i := by
 induction n with
 | zero => omega
 | succ n ih =>
  unfold sm;by_cases e : i = n
  · subst e; rw [bf (fun k hk => h k (by omega) (by omega))]; omega
  · rw [ih (by omega) (fun k hk hne => h k (by omega) hne), h n (by omega) (fun e' => e e'.symm)]; omega
theorem lW {n : Nat} {f : Nat -> Int} {B : Nat} (h : ∀ k, k < n -> (f k).natAbs <= B) : (sm n f).natAbs <= n * B := by
 induction n with
 | zero => simp [sm]
 | succ n ih =>
  unfold sm;have h1 := ih (fun k hk => h k (by omega));have h2 := h n (by omega);have h3 := Int.natAbs_add_le (sm n f) (f n);rw [Nat.succ_mul]; omega
theorem fP (n m : Nat) (f : Nat -> Int) : sm (n + m) f = sm n f + sm m (fun k => f (n + k)) := by
 induction m with
 | zero => simp [sm]
 | succ m ih => rw [<- Nat.add_assoc]; simp only [sm, ih]; omega
theorem nO : ∀ (n : Nat) (f : Nat -> Nat), (∀ i, i <= n -> f i < n) -> ∃ i j, i < j /\ j <= n /\ f i = f j
 | 0, f, h => by have := h 0 (Nat.le_refl _); omega
 | n + 1, f, h => by
  by_cases hc : ∃ i, i <= n /\ f i = f (n + 1)
  · obtain ⟨i, hi, he⟩ := hc;exact ⟨i, n + 1, by omega, Nat.le_refl _, he⟩
  · have hn : ∀ i, i <= n -> f i ≠ f (n + 1) := fun i hi he => hc ⟨i, hi, he⟩;obtain ⟨i, j, hij, hj, he⟩ := nO n (fun i => if f i = n then f (n + 1) else f i) (fun i hi => by
     have h1 := h i (by omega);have h2 := h (n + 1) (Nat.le_refl _);have h3 := hn i hi;split <;> omega)
    refine ⟨i, j, hij, by omega, ?_⟩;have h1 := hn i (by omega);have h2 := hn j hj;split at he <;> split at he <;> omega
def iH (Q : Nat) (v : Nat -> Nat) : Nat -> Nat
 | 0 => 0
 | s + 1 => iH Q v s + v s * Q ^ s
theorem kE {Q : Nat} {v : Nat -> Nat} : ∀ {s : Nat}, (∀ j, j < s -> v j < Q) -> iH Q v s < Q ^ s
 | 0, _ => by simp [iH]
 | s + 1, h => by
  have h1 := kE (s := s) (fun j hj => h j (by omega));have h2 := h s (by omega);have h3 : (v s + 1) * Q ^ s <= Q * Q ^ s := Nat.mul_le_mul_right _ h2;rw [Nat.succ_mul] at h3;rw [Nat.pow_succ, Nat.mul_comm];unfold iH; omega
theorem qt {Q : Nat} {u v : Nat -> Nat} : ∀ {s : Nat}, (∀ j, j < s -> u j < Q) -> (∀ j, j < s -> v j < Q) -> iH Q u s = iH Q v s -> ∀ j, j < s -> u j = v j
 | 0, _, _, _, j, hj => by omega
 | s + 1, hu, hv, he, j, hj => by
  have h1 := kE (s := s) (fun j hj => hu j (by omega));have h2 := kE (s := s) (fun j hj => hv j (by omega));have hp : 0 < Q ^ s := by omega
  unfold iH at he;have d1 : (iH Q u s + u s * Q ^ s) / Q ^ s = u s := by rw [Nat.add_mul_div_right _ _ hp, Nat.div_eq_of_lt h1, Nat.zero_add]
  have d2 : (iH Q v s + v s * Q ^ s) / Q ^ s = v s := by rw [Nat.add_mul_div_right _ _ hp, Nat.div_eq_of_lt h2, Nat.zero_add]
  have hs : u s = v s := by rw [<- d1, <- d2, he]
  by_cases e : j = s
  · subst e; exact hs
  · rw [hs] at he;exact qt (s := s) (fun j hj => hu j (by omega)) (fun j hj => hv j (by omega)) (by omega) j (by omega)
theorem gP (Q n : Nat) : ∀ s, iH Q (fun k => n / Q ^ k % Q) s = n % Q ^ s
 | 0 => by simp [iH, Nat.mod_one]
 | s + 1 => by
  unfold iH;rw [gP Q n s, Nat.mod_pow_succ, Nat.mul_comm]
theorem yD (r s M : Nat) (A : Nat -> Nat -> Int) (hs : s < r) (hA : ∀ k j, k < r -> j < s -> (A k j).natAbs <= M) :
 ∃ x : Nat -> Int, (∃ k, k < r /\ x k ≠ 0) /\ (∀ k, k < r -> (x k).natAbs <= (2 * r * M + 1) ^ s) /\ ∀ j, j < s -> sm r (fun k => x k * A k j) = 0 := by
 obtain ⟨T, hT⟩ : ∃ T, (2 * r * M + 1) ^ s = T := ⟨_, rfl⟩;obtain ⟨V, hV⟩ : ∃ V, r * (T * M) = V := ⟨_, rfl⟩;have hTp : 0 < T := by rw [<- hT]; exact Nat.pow_pos (by omega)
 have hy : ∀ n j, j < s -> (sm r (fun k => ((n / (T + 1) ^ k % (T + 1) : Nat) : Int) * A k j)).natAbs <= V := by
  intro n j hj;rw [<- hV];refine lW (fun k hk => ?_);rw [Int.natAbs_mul, Int.natAbs_natCast];have h1 : n / (T + 1) ^ k % (T + 1) < T + 1 := Nat.mod_lt _ (by omega);exact Nat.mul_le_mul (by omega) (hA k j hk hj)
 have hQ : (2 * V + 1) ^ s < (T + 1) ^ r := by
  have h1 : 2 * V + 1 <= (2 * r * M + 1) * (T + 1) := by
   have e1 : (2 * r * M + 1) * (T + 1) = 2 * r * M * T + 2 * r * M + T + 1 := by
    rw [Nat.mul_add, Nat.add_mul]; omega
   have e2 : 2 * r * M * T = 2 * V := by
    rw [<- hV]; simp only [Nat.mul_assoc, Nat.mul_comm, Nat.mul_left_comm]
   omega
  have h2 : (2 * V + 1) ^ s <= T * (T + 1) ^ s := by
   rw [<- hT, <- Nat.mul_pow, hT]; exact Nat.pow_le_pow_left h1 s
  have h3 : T * (T + 1) ^ s < (T + 1) ^ (s + 1) := by
   rw [Nat.pow_succ, Nat.mul_comm];exact Nat.mul_lt_mul_of_pos_left (by omega) (Nat.pow_pos (by omega))
  have h4 : (T + 1) ^ (s + 1) <= (T + 1) ^ r := Nat.pow_le_pow_right (by omega) hs;omega
 obtain ⟨i, j, hij, hj, he⟩ := nO ((2 * V + 1) ^ s) (fun n => iH (2 * V + 1) (fun q => (sm r (fun k => ((n / (T + 1) ^ k % (T + 1) : Nat) : Int) * A k q) + V).toNat % (2 * V + 1)) s) (fun i _ => kE (fun q _ => Nat.mod_lt _ (by omega)));have hq := qt (fun q _ => Nat.mod_lt _ (by omega)) (fun q _ => Nat.mod_lt _ (by omega)) he;refine ⟨fun k => ((j / (T + 1) ^ k % (T + 1) : Nat) : Int) - ((i / (T + 1) ^ k % (T + 1) : Nat) : Int), ?_, ?_, ?_⟩
 · by_cases hc : ∃ k, k < r /\ j / (T + 1) ^ k % (T + 1) ≠ i / (T + 1) ^ k % (T + 1)
   · obtain ⟨k, hk, hne⟩ := hc;refine ⟨k, hk, ?_⟩
     revert hne
     dsimp only;generalize j / (T + 1) ^ k % (T + 1) = a;generalize i / (T + 1) ^ k % (T + 1) = b;omega
   · exfalso;have hall : ∀ k, k < r -> j / (T + 1) ^ k % (T + 1) = i / (T + 1) ^ k % (T + 1) := fun k hk => Classical.byContradiction fun h => hc ⟨k, hk, h⟩;have e1 := gP (T + 1) i r;have e2 := gP (T + 1) j r;have e3 : ∀ s', s' <= r -> iH (T + 1) (fun k => j / (T + 1) ^ k % (T + 1)) s' = iH (T + 1) (fun k => i / (T + 1) ^ k % (T + 1)) s' := by
      intro s' hs';induction s' with
      | zero => rfl
      | succ q ih => simp only [iH]; rw [ih (by omega), hall q (by omega)]
     have e4 := e3 r (Nat.le_refl _);rw [e1, e2, Nat.mod_eq_of_lt (by omega), Nat.mod_eq_of_lt (by omega)] at e4;omega
 · intro k hk;have h1 : j / (T + 1) ^ k % (T + 1) < T + 1 := Nat.mod_lt _ (by omega);have h2 : i / (T + 1) ^ k % (T + 1) < T + 1 := Nat.mod_lt _ (by omega);rw [hT]
   revert h1 h2
   dsimp only;generalize j / (T + 1) ^ k % (T + 1) = a;generalize i / (T + 1) ^ k % (T + 1) = b;omega
 · intro q hq';have h1 := hq q hq';have h2 := hy i q hq';have h3 := hy j q hq';have h4 : sm r (fun k => (((j / (T + 1) ^ k % (T + 1) : Nat) : Int) - ((i / (T + 1) ^ k % (T + 1) : Nat) : Int)) * A k q) = sm r (fun k => ((j / (T + 1) ^ k % (T + 1) : Nat) : Int) * A k q) - sm r (fun k => ((i / (T + 1) ^ k % (T + 1) : Nat) : Int) * A k q) := by
    rw [<- jM]; exact aj (fun k _ => Int.sub_mul ..)
   dsimp only at h1 ⊢;rw [h4];generalize sm r (fun k => ((j / (T + 1) ^ k % (T + 1) : Nat) : Int) * A k q) = a at *;generalize sm r (fun k => ((i / (T + 1) ^ k % (T + 1) : Nat) : Int) * A k q) = b at *;rw [Nat.mod_eq_of_lt (by omega), Nat.mod_eq_of_lt (by omega)] at h1;omega
def Sp (n : Nat) (E : Nat -> Nat -> Int) (v : Nat -> Int) : Prop := ∃ x : Nat -> Int, ∀ j, v j = sm n (fun k => x k * E k j)
theorem Sp.zero (n : Nat) (E : Nat -> Nat -> Int) : Sp n E (fun _ => 0) := ⟨fun _ => 0, fun j => (bf (fun k _ => Int.zero_mul _)).symm⟩
theorem Sp.congr {n : Nat} {E : Nat -> Nat -> Int} {v w : Nat -> Int} (h : Sp n E v) (e : ∀ j, w j = v j) : Sp n E w := by
 obtain ⟨x, hx⟩ := h;exact ⟨x, fun j => (e j).trans (hx j)⟩
theorem Sp.add {n : Nat} {E : Nat -> Nat -> Int} {v w : Nat -> Int} (h : Sp n E v) (k : Sp n E w) : Sp n E (fun j => v j + w j) := by
 obtain ⟨x, hx⟩ := h; obtain ⟨y, hy⟩ := k;refine ⟨fun k => x k + y k, fun j => ?_⟩;show v j + w j = _;rw [hx, hy, <- fy]; exact aj (fun k _ => (Int.add_mul ..).symm)
theorem Sp.smul {n : Nat} {E : Nat -> Nat -> Int} {v : Nat -> Int} (c : Int) (h : Sp n E v) : Sp n E (fun j => c * v j) := by
 obtain ⟨x, hx⟩ := h;refine ⟨fun k => c * x k, fun j => ?_⟩;show c * v j = _;rw [hx, <- bC]; exact aj (fun k _ => (Int.mul_assoc ..).symm)
theorem Sp.sub {n : Nat} {E : Nat -> Nat -> Int} {v w : Nat -> Int} (h : Sp n E v) (k : Sp n E w) : Sp n E (fun j => v j - w j) :=
 (h.add (k.smul (-1))).congr (fun j => by omega)
theorem Sp.row {n : Nat} (E : Nat -> Nat -> Int) {k : Nat} (hk : k < n) : Sp n E (E k) := by
 refine ⟨fun i => if i = k then 1 else 0, fun j => ?_⟩;rw [dv k hk (fun i _ hne => by simp [hne])]; simp
theorem Sp.sm {n m : Nat} {E : Nat -> Nat -> Int} {F : Nat -> Nat -> Int} {x : Nat -> Int} (h : ∀ k, k < m -> Sp n E (F k)) : Sp n E (fun j => sm m (fun k => x k * F k j)) := by
 induction m with
 | zero => exact Sp.zero n E
 | succ m ih => exact (ih (fun k hk => h k (by omega))).add ((h m (by omega)).smul (x m))
theorem Sp.trans {n m : Nat} {E F : Nat -> Nat -> Int} {v : Nat -> Int} (hv : Sp m F v) (h : ∀ k, k < m -> Sp n E (F k)) : Sp n E v := by
 obtain ⟨x, hx⟩ := hv;exact (Sp.sm (x := x) h).congr hx
def aO (n : Nat) (E : Nat -> Nat -> Int) (m : Nat) (F : Nat -> Nat -> Int) : Prop := (∀ k, k < n -> Sp m F (E k)) /\ ∀ k, k < m -> Sp n E (F k)
theorem aO.refl (n : Nat) (E : Nat -> Nat -> Int) : aO n E n E := ⟨fun k hk => Sp.row E hk, fun k hk => Sp.row E hk⟩
theorem aO.symm {n m : Nat} {E F : Nat -> Nat -> Int} (h : aO n E m F) : aO m F n E := ⟨h.2, h.1⟩
theorem aO.trans {n m l : Nat} {E F G : Nat -> Nat -> Int} (h : aO n E m F) (k : aO m F l G) : aO n E l G :=
 ⟨fun i hi => (h.1 i hi).trans k.1, fun i hi => (k.2 i hi).trans h.2⟩
theorem aO.of_eq {n : Nat} {E F : Nat -> Nat -> Int} (h : ∀ k, k < n -> ∀ j, E k j = F k j) : aO n E n F :=
 ⟨fun k hk => (Sp.row F hk).congr (h k hk), fun k hk => (Sp.row E hk).congr (fun j => (h k hk j).symm)⟩
structure Ech (n c : Nat) (E : Nat -> Nat -> Int) (l : Nat -> Nat) : Prop where
 inc : ∀ i k, i < k -> k < n -> l i < l k
 lt : ∀ i, i < n -> l i < c
 zero : ∀ i, i < n -> ∀ j, j < l i -> E i j = 0
 pos : ∀ i, i < n -> 0 < E i (l i)
structure du (n c : Nat) (E : Nat -> Nat -> Int) (l : Nat -> Nat) : Prop extends Ech n c E l where
 red : ∀ i k, i < k -> k < n -> 0 <= E i (l k) /\ E i (l k) < E k (l k)
theorem Ech.at {n c : Nat} {E : Nat -> Nat -> Int} {l : Nat -> Nat} (h : Ech n c E l) (x : Nat -> Int) {k : Nat} (hk : k < n) (h0 : ∀ i, i < k -> x i = 0) : sm n (fun i => x i * E i (l k)) = x k * E k (l k) := by
 refine dv k hk (fun i hi hne => ?_);rcases Nat.lt_or_gt_of_ne hne with hlt | hgt
 · rw [h0 i hlt, Int.zero_mul]
 · rw [h.zero i hi _ (h.inc k i hgt hi), Int.mul_zero]
theorem Ech.small {n c : Nat} {E : Nat -> Nat -> Int} {l : Nat -> Nat} (h : Ech n c E l) (x : Nat -> Int) : ∀ m, m <= n -> (∀ k, k < m -> (sm n (fun i => x i * E i (l k))).natAbs < (E k (l k)).natAbs) -> ∀ k, k < m -> x k = 0
 | 0, _, _, k, hk => by omega
 | m + 1, hm, hs, k, hk => by
  have ih := Ech.small h x m (by omega) (fun k hk => hs k (by omega));by_cases e : k = m
  · subst e;have h1 := hs k (by omega);rw [h.at x (by omega) ih, Int.natAbs_mul] at h1;have h2 : ¬ 0 < (x k).natAbs := fun h3 => by
     have := Nat.mul_le_mul_right (E k (l k)).natAbs h3;omega
    omega
  · exact ih k (by omega)
theorem Ech.none {n c : Nat} {E : Nat -> Nat -> Int} {l : Nat -> Nat} (h : Ech n c E l) {v : Nat -> Int} (hv : Sp n E v) (hs : ∀ k, k < n -> (v (l k)).natAbs < (E k (l k)).natAbs) (j : Nat) : v j = 0 := by
 obtain ⟨x, hx⟩ := hv;have h0 := h.small x n (Nat.le_refl _) (fun k hk => by rw [<- hx]; exact hs k hk);rw [hx, bf (fun k hk => by rw [h0 k hk, Int.zero_mul])]
theorem Ech.y5 {n c : Nat} {E : Nat -> Nat -> Int} {l : Nat -> Nat} (h : Ech n c E l) {v : Nat -> Int} (hv : Sp n E v) (hs : ∀ k, k < n -> v (l k) = 0) (j : Nat) : v j = 0 :=
 h.none hv (fun k hk => by have := h.pos k hk; rw [hs k hk]; omega) j
theorem Ech.lead {n c : Nat} {E : Nat -> Nat -> Int} {l : Nat -> Nat} (h : Ech n c E l) {v : Nat -> Int} (hv : Sp n E v) {q : Nat} (hq : v q ≠ 0) (h0 : ∀ j, j < q -> v j = 0) : ∃ k, k < n /\ l k = q /\ E k q ∣ v q := by
 obtain ⟨x, hx⟩ := hv;have key : ∀ m, m <= n -> (∃ k, k < m /\ l k = q /\ E k q ∣ v q) ∨ (∀ k, k < m -> x k = 0 ∨ q < l k) := by
  intro m;induction m with
  | zero => exact fun _ => .inr (fun k hk => by omega)
  | succ m ih =>
   intro hm;rcases ih (by omega) with h1 | h1
   · obtain ⟨k, hk, h2⟩ := h1; exact .inl ⟨k, by omega, h2⟩
   · by_cases hlt : q < l m
     · exact .inr (fun k hk => by
        by_cases e : k = m
        · subst e; exact .inr hlt
        · exact h1 k (by omega))
     · have hz : ∀ i, i < m -> x i = 0 := fun i hi => (h1 i hi).elim id (fun h2 => by have := h.inc i m hi (by omega); omega);have h3 := h.at x (by omega : m < n) hz;rw [<- hx] at h3;by_cases e : l m = q
       · refine .inl ⟨m, by omega, e, ?_⟩;rw [e] at h3; rw [h3]; exact Int.dvd_mul_left ..
       · have h4 : v (l m) = 0 := h0 _ (by omega);rw [h4] at h3;have h5 := h.pos m (by omega);have h6 : x m = 0 := by
          rcases Int.mul_eq_zero.1 h3.symm with h7 | h7
          · exact h7
          · omega
         exact .inr (fun k hk => by
          by_cases e : k = m
          · subst e; exact .inl h6
          · exact .inl (hz k (by omega)))
 rcases key n (Nat.le_refl _) with h1 | h1
 · exact h1
 · exfalso;apply hq;rw [hx];refine bf (fun k hk => ?_);rcases h1 k hk with h2 | h2
   · rw [h2, Int.zero_mul]
   · rw [h.zero k hk _ h2, Int.mul_zero]
theorem Ech.same {n m c c' : Nat} {E F : Nat -> Nat -> Int} {l l' : Nat -> Nat} (h : Ech n c E l) (h' : Ech m c' F l') (hs : aO n E m F) : n = m /\ ∀ k, k < n -> l k = l' k /\ E k (l k) = F k (l k) := by
 have one : ∀ {n m c c' : Nat} {E F : Nat -> Nat -> Int} {l l' : Nat -> Nat}, Ech n c E l -> Ech m c' F l' -> aO n E m F -> ∀ k, (∀ i, i < k -> i < n -> i < m -> l i = l' i) -> k < n -> (∀ i, i < k -> i < m) -> k < m /\ l' k <= l k /\ ∀ t, t < m -> l' t = l k -> F t (l k) ∣ E k (l k) := by
  intro n m c c' E F l l' h h' hs k ih hk hkm;obtain ⟨t, ht, e, hd⟩ := h'.lead (hs.1 k hk) (q := l k) (by have := h.pos k hk; omega) (h.zero k hk);have h1 : k <= t := by
   by_cases h2 : k <= t
   · exact h2
   · exfalso;have h3 := ih t (by omega) (by omega) ht;have h4 := h.inc t k (by omega) hk;omega
  have h2 : k < m := by omega
  refine ⟨h2, ?_, ?_⟩
  · rcases Nat.lt_or_eq_of_le h1 with h3 | h3
    · have := h'.inc k t h3 ht; omega
    · subst h3; omega
  · intro t' ht' e';have : t' = t := by
     rcases Nat.lt_trichotomy t' t with h3 | h3 | h3
     · have := h'.inc t' t h3 ht; omega
     · exact h3
     · have := h'.inc t t' h3 ht'; omega
    subst this; exact hd
 have all : ∀ k, (k < n ↔ k < m) /\ (k < n -> l k = l' k /\ E k (l k) = F k (l k)) := by
  intro k;induction k using Nat.strongRecOn with
  | _ k ih =>
   have h1 : k < n -> k < m := fun hk => (one h h' hs k (fun i hi hn _ => ((ih i hi).2 hn).1) hk (fun i hi => (ih i hi).1.1 (by omega))).1;have h2 : k < m -> k < n := fun hk => (one h' h hs.symm k (fun i hi hm _ => ((ih i hi).2 ((ih i hi).1.2 hm)).1.symm) hk (fun i hi => (ih i hi).1.2 (by omega))).1;refine ⟨⟨h1, h2⟩, fun hk => ?_⟩;have h3 := one h h' hs k (fun i hi hn _ => ((ih i hi).2 hn).1) hk (fun i hi => (ih i hi).1.1 (by omega));have h4 := one h' h hs.symm k (fun i hi hm _ => ((ih i hi).2 ((ih i hi).1.2 hm)).1.symm) (h1 hk) (fun i hi => (ih i hi).1.2 (by omega));have e : l k = l' k := by omega
   refine ⟨e, ?_⟩;have d1 := h3.2.2 k (h1 hk) e.symm;have d2 := h4.2.2 k hk e;rw [<- e] at d2;have p1 := h.pos k hk;have p2 := h'.pos k (h1 hk);rw [<- e] at p2;exact Int.dvd_antisymm (Int.le_of_lt p1) (Int.le_of_lt p2) d2 d1
 refine ⟨?_, fun k hk => (all k).2 hk⟩;have h1 := (all n).1;have h2 := (all m).1;omega
theorem du.unique {n m c c' : Nat} {E F : Nat -> Nat -> Int} {l l' : Nat -> Nat} (h : du n c E l) (h' : du m c' F l') (hs : aO n E m F) : n = m /\ (∀ k, k < n -> l k = l' k) /\ ∀ k, k < n -> ∀ j, E k j = F k j := by
 obtain ⟨hnm, hl⟩ := h.toEch.same h'.toEch hs;refine ⟨hnm, fun k hk => (hl k hk).1, fun i hi j => ?_⟩;have hw : Sp n E (fun j => E i j - F i j) := (Sp.row E hi).sub (hs.2 i (by omega));have := h.toEch.none hw (fun k hk => ?_) j
 · omega
 · have hlk := hl k hk;have hp := h.pos k hk;rcases Nat.lt_trichotomy k i with h1 | h1 | h1
   · have e1 : E i (l k) = 0 := h.zero i hi _ (h.inc k i h1 hi);have e2 : F i (l k) = 0 := h'.zero i (by omega) _ (by rw [hlk.1]; exact h'.inc k i h1 (by omega));rw [e1, e2]; omega
   · subst h1;have := hlk.2; omega
   · have r1 := h.red i k h1 hk;have r2 := h'.red i k h1 (by omega);rw [<- hlk.1, <- hlk.2] at r2;omega
def pa (n : Nat) (a : Nat -> Nat -> Int) : Prop := ∀ x : Nat -> Int, (∀ j, sm n (fun k => x k * a k j) = 0) -> ∀ k, k < n -> x k = 0
theorem common : ∀ (n : Nat) (Y : Nat -> Int), (∀ k, k < n -> Y k ≠ 0) -> ∃ d : Int, d ≠ 0 /\ ∀ k, k < n -> Y k ∣ d
 | 0, _, _ => ⟨1, by omega, fun k hk => by omega⟩
 | n + 1, Y, h => by
  obtain ⟨d, hd, hk⟩ := common n Y (fun k hk => h k (by omega));refine ⟨d * Y n, fun e => ?_, fun k hk' => ?_⟩
  · rcases Int.mul_eq_zero.1 e with e | e
    · exact hd e
    · exact h n (by omega) e
  · by_cases e : k = n
    · subst e; exact Int.dvd_mul_left ..
    · exact Int.dvd_mul_of_dvd_left (hk k (by omega))
def rY (n M : Nat) : Nat := n * (n * ((2 * n * M + 1) ^ (n - 1) * M)) * (n * ((2 * n * M + 1) ^ (n - 1) * M))
theorem du.bound {n c M : Nat} {E : Nat -> Nat -> Int} {l : Nat -> Nat} (h : du n c E l) {a : Nat -> Nat -> Int} (ha : ∀ k, k < n -> Sp n E (a k)) (hi : pa n a) (hM : ∀ k j, k < n -> (a k j).natAbs <= M) : ∀ i j, i < n -> (E i j).natAbs <= rY n M := by
 obtain ⟨D, hD⟩ : ∃ D, n * ((2 * n * M + 1) ^ (n - 1) * M) = D := ⟨_, rfl⟩;have hy : ∀ i, i < n -> ∃ y : Nat -> Int, Sp n E y /\ (∀ j, (y j).natAbs <= D) /\ (∀ k, k < n -> k ≠ i -> y (l k) = 0) /\ y (l i) ≠ 0 := by
  intro i hin;obtain ⟨x, ⟨k0, hk0, hx0⟩, hxb, hxz⟩ := yD n (n - 1) M (fun k q => a k (l (if q < i then q else q + 1))) (by omega) (fun k j hk _ => hM k _ hk);have hz : ∀ k, k < n -> k ≠ i -> sm n (fun t => x t * a t (l k)) = 0 := by
   intro k hk hne;rcases Nat.lt_or_gt_of_ne hne with h1 | h1
   · have := hxz k (by omega);simpa [h1] using this
   · have := hxz (k - 1) (by omega);have e : ¬ k - 1 < i := by omega
     have e2 : k - 1 + 1 = k := by omega
     simpa [e, e2] using this
  have hsp : Sp n E (fun j => sm n (fun k => x k * a k j)) := Sp.sm ha;refine ⟨fun j => sm n (fun k => x k * a k j), hsp, fun j => ?_, hz, fun e => ?_⟩
  · rw [<- hD];refine lW (fun k hk => ?_);rw [Int.natAbs_mul];exact Nat.mul_le_mul (hxb k hk) (hM k j hk)
  · have h0 := h.toEch.y5 hsp (fun k hk => by
     by_cases e' : k = i
     · subst e'; exact e
     · exact hz k hk e')
    exact hx0 (hi x h0 k0 hk0)
 have hpiv : ∀ i, i < n -> (E i (l i)).natAbs <= D := by
  intro i hin;obtain ⟨y, hs, hb, hz, hn⟩ := hy i hin;obtain ⟨x, hx⟩ := hs;have h0 : ∀ k, k < i -> x k = 0 := h.toEch.small x i (by omega) (fun k hk => by
   rw [<- hx, hz k (by omega) (by omega)]; have := h.pos k (by omega); omega)
  have h1 := h.toEch.at x hin h0;rw [<- hx] at h1;have h2 := hb (l i);rw [h1, Int.natAbs_mul] at h2;have h3 : 1 <= (x i).natAbs := by
   have : x i ≠ 0 := fun e => hn (by rw [h1, e, Int.zero_mul]);omega
  have h4 := Nat.mul_le_mul_right (E i (l i)).natAbs h3;omega
 have hent : ∀ i k, i < n -> k < n -> (E i (l k)).natAbs <= D := by
  intro i k hin hk;rcases Nat.lt_trichotomy i k with h1 | h1 | h1
  · have := h.red i k h1 hk; have := hpiv k hk; omega
  · subst h1; exact hpiv i hin
  · rw [h.zero i hin _ (h.inc k i h1 hin)]; simp
 intro i j hin;obtain ⟨y, hY⟩ : ∃ y : Nat -> Nat -> Int, ∀ i, i < n -> Sp n E (y i) /\ (∀ j, (y i j).natAbs <= D) /\ (∀ k, k < n -> k ≠ i -> y i (l k) = 0) /\ y i (l i) ≠ 0 := by
  refine ⟨fun i => if hin : i < n then Classical.choose (hy i hin) else fun _ => 0, fun i hin => ?_⟩;simp only [hin, dif_pos];exact Classical.choose_spec (hy i hin)
 obtain ⟨d, hd, hdv⟩ := common n (fun k => y k (l k)) (fun k hk => (hY k hk).2.2.2);obtain ⟨q, hq⟩ : ∃ q : Nat -> Int, ∀ k, k < n -> d = q k * y k (l k) := by
  refine ⟨fun k => d / y k (l k), fun k hk => ?_⟩;exact (Int.ediv_mul_cancel (hdv k hk)).symm
 have hsp : Sp n E (fun j => d * E i j - sm n (fun k => (E i (l k) * q k) * y k j)) := ((Sp.row E hin).smul d).sub (Sp.sm (fun k hk => (hY k hk).1));have h0 := h.toEch.y5 hsp (fun m hm => by
  rw [dv m hm (fun k hk hne => by rw [(hY k hk).2.2.1 m hm (fun e => hne e.symm), Int.mul_zero])];rw [Int.mul_assoc, <- hq m hm, Int.mul_comm]; omega) j
 have hb : (sm n (fun k => (E i (l k) * q k) * y k j)).natAbs <= n * (D * d.natAbs * D) := by
  refine lW (fun k hk => ?_);rw [Int.natAbs_mul, Int.natAbs_mul];have h1 : (q k).natAbs <= d.natAbs := by
   have e := congrArg Int.natAbs (hq k hk);rw [Int.natAbs_mul] at e;have h2 : 1 <= (y k (l k)).natAbs := by have := (hY k hk).2.2.2; omega
   have h3 := Nat.mul_le_mul_left (q k).natAbs h2;omega
  exact Nat.mul_le_mul (Nat.mul_le_mul (hent i k hin hk) h1) ((hY k hk).2.1 j)
 have h1 : (d * E i j).natAbs <= n * (D * d.natAbs * D) := by
  have : d * E i j = sm n (fun k => (E i (l k) * q k) * y k j) := by omega
  rw [this]; exact hb
 rw [Int.natAbs_mul] at h1;have h2 : n * (D * d.natAbs * D) = d.natAbs * (n * D * D) := by
  simp only [Nat.mul_comm, Nat.mul_left_comm, Nat.mul_assoc]
 rw [h2] at h1;have h3 := Nat.le_of_mul_le_mul_left h1 (by omega : 0 < d.natAbs);unfold rY;rw [hD]; exact h3
theorem gG (xs : List Int) {i : Nat} (d : Int) (h : i < xs.length) : xs.getD i d = xs[i] := by simp [h]
theorem er (xs : List Int) {i : Nat} (d : Int) (h : xs.length <= i) : xs.getD i d = d := by simp [h]
def Sh (c : Nat) (R : List Hd) : Prop := ∀ h ∈ R, h.xs.length = c
theorem bY {R : List Hd} {i : Nat} (hi : i < R.length) (j : Nat) : az R i j = R[i].xs.getD j 0 := by
 unfold az; simp [hi]
theorem ej {R : List Hd} {i : Nat} (hi : R.length <= i) (j : Nat) : az R i j = 0 := by
 unfold az; rw [List.getElem?_eq_none hi]; rfl
theorem Sh.get {c : Nat} {R : List Hd} (h : Sh c R) {i : Nat} (hi : i < R.length) : R[i].xs.length = c := h _ (List.getElem_mem hi)
theorem Sh.wide {c : Nat} {R : List Hd} (h : Sh c R) (i : Nat) {j : Nat} (hj : c <= j) : az R i j = 0 := by
 by_cases hi : i < R.length
 · rw [bY hi, er _ _ (by rw [h.get hi]; exact hj)]
 · exact ej (by omega) j
theorem Sh.nr {c : Nat} {R : List Hd} (h : Sh c R) (i : Nat) {xs : List Int} (hx : xs.length = c) : Sh c (gQ R i xs) := by
 intro r hr;obtain ⟨j, hj, rfl⟩ := List.getElem_of_mem hr;rw [bI] at hj;rw [jH hj];split
 · exact hx
 · exact h.get hj
theorem ix {R : List Hd} {i : Nat} (hi : i < R.length) (xs : List Int) (a b : Nat) : az (gQ R i xs) a b = if a = i then xs.getD b 0 else az R a b := by
 by_cases ha : a < R.length
 · rw [bY (by rw [bI]; exact ha), jH ha];by_cases e : i = a
   · subst e; simp
   · rw [if_neg e, if_neg (fun h => e h.symm), bY ha]
 · rw [ej (by rw [bI]; omega), if_neg (by omega), ej (by omega)]
theorem fX {f : Int -> Int -> Int} (hf : f 0 0 = 0) {xs ys : List Int} (h : xs.length = ys.length) (b : Nat) : (List.zipWith f xs ys).getD b 0 = f (xs.getD b 0) (ys.getD b 0) := by
 by_cases hb : b < xs.length
 · have hb2 : b < ys.length := by omega
   have hb3 : b < (List.zipWith f xs ys).length := by simp; omega
   rw [gG _ _ hb3, gG _ _ hb, gG _ _ hb2, List.getElem_zipWith]
 · rw [er _ _ (by simp; omega), er _ _ (by omega), er _ _ (by omega), hf]
theorem kZ {c : Nat} {R : List Hd} (hs : Sh c R) {i j : Nat} (hi : i < R.length) (hj : j < R.length) (k : Int) (a b : Nat) : az (jg R i j k) a b = if a = i then k * az R j b + az R i b else az R a b := by
 rw [x8 hi hj]; unfold ve;rw [ix hi];unfold qR;rw [fX (by simp) (by rw [hs.get hi, hs.get hj]), <- bY hi, <- bY hj]
theorem Sh.rT {c : Nat} {R : List Hd} (hs : Sh c R) (i j : Nat) (k : Int) : Sh c (jg R i j k) := by
 unfold jg;split
 · rename_i h;unfold ve;exact hs.nr i (by unfold qR; rw [List.length_zipWith, hs.get h.1, hs.get h.2]; omega)
 · exact hs
theorem jz (R : List Hd) (i j : Nat) (k : Int) : (jg R i j k).map Hd.blk = R.map Hd.blk := by
 unfold jg; split
 · exact jP ..
 · rfl
theorem vb {c : Nat} {R : List Hd} (hs : Sh c R) {i j : Nat} (hi : i < R.length) (hj : j < R.length) (hij : i ≠ j) (p q r s : Int) (a b : Nat) : az (me R i j p q r s) a b = if a = i then p * az R i b + q * az R j b else if a = j then r * az R i b + s * az R j b else az R a b := by
 rw [x2 hi hj]; unfold tq;rw [ix (by rw [bI]; exact hj), ix hi];have hl : R[i].xs.length = R[j].xs.length := by rw [hs.get hi, hs.get hj]
 unfold nf;rw [fX (by simp) hl, fX (by simp) hl, <- bY hi, <- bY hj];by_cases e : a = i
 · subst e; rw [if_neg hij, if_pos rfl, if_pos rfl]
 · rw [if_neg e, if_neg e]
theorem Sh.mixT_ {c : Nat} {R : List Hd} (hs : Sh c R) (i j : Nat) (p q r s : Int) : Sh c (me R i j p q r s) := by
 unfold me;split
 · rename_i h;unfold tq;refine (hs.nr i ?_).nr j ?_ <;> (unfold nf; rw [List.length_zipWith, hs.get h.1, hs.get h.2]; omega)
 · exact hs
theorem vA (R : List Hd) (i j : Nat) (p q r s : Int) : (me R i j p q r s).map Hd.blk = R.map Hd.blk := by
 unfold me; split
 · unfold tq; rw [jP, jP]
 · rfl
theorem mP {R : List Hd} {i : Nat} (hi : i < R.length) (a b : Nat) : az (gS R i) a b = if a = i then - az R i b else az R a b := by
 rw [uR hi]; unfold qh;rw [ix hi, bY hi];split
 · unfold qX;by_cases hb : b < R[i].xs.length
   · rw [gG _ _ (by simpa using hb), gG _ _ hb]; simp
   · rw [er _ _ (by simp; omega), er _ _ (by omega)]; rfl
 · rfl
theorem Sh.zd {c : Nat} {R : List Hd} (hs : Sh c R) (i : Nat) : Sh c (gS R i) := by
 unfold gS;split
 · rename_i h;unfold qh;exact hs.nr i (by simp [qX, hs.get h])
 · exact hs
theorem ta {R : List Hd} {i j m : Nat} (hi : i < R.length) (hj : j < R.length) (hm : m < R.length) : (swapT R i j)[m]'(by rw [cI]; exact hm) = R[swp i j m]'(vB hi hj hm) := by
 have := mW hi hj hm;rw [<- this]; congr 1; exact uK hi hj
theorem mB {R : List Hd} {i j : Nat} (hi : i < R.length) (hj : j < R.length) (a b : Nat) : az (swapT R i j) a b = az R (swp i j a) b := by
 by_cases ha : a < R.length
 · rw [bY (by rw [cI]; exact ha), ta hi hj ha, bY]
 · rw [ej (by rw [cI]; omega), ej];unfold swp; split
   · omega
   · split <;> omega
theorem Sh.uv {c : Nat} {R : List Hd} (hs : Sh c R) (i j : Nat) : Sh c (swapT R i j) := by
 unfold swapT;split
 · rename_i h;intro r hr;obtain ⟨m, hm, rfl⟩ := List.getElem_of_mem hr;rw [gg] at hm;rw [mW h.1 h.2 hm];exact hs.get _
 · exact hs
theorem oP {R : List Hd} {i : Nat} (hi : i < R.length) {c : Nat} (hs : Sh c R) : (aQ R i <= c) /\ (∀ b, b < aQ R i -> az R i b = 0) /\ (aQ R i < c -> az R i (aQ R i) ≠ 0) := by
 rw [tb hi];have key : ∀ xs : List Int, (∀ b, b < lead xs -> xs.getD b 0 = 0) /\ (lead xs < xs.length -> xs.getD (lead xs) 0 ≠ 0) := by
  intro xs;induction xs with
  | nil => exact ⟨fun b _ => by simp, fun h => by simp at h⟩
  | cons x xs ih =>
   unfold lead;by_cases hx : x = 0
   · rw [if_pos hx];refine ⟨fun b hb => ?_, fun h => ?_⟩
     · cases b with
       | zero => simpa using hx
       | succ b => rw [List.getD_cons_succ]; exact ih.1 b (by omega)
     · rw [List.getD_cons_succ]; exact ih.2 (by simpa using h)
   · rw [if_neg hx];exact ⟨fun b hb => by omega, fun _ => by simpa using hx⟩
 have hl := hs.get hi;have h1 := key R[i].xs;refine ⟨hl ▸ sM _, fun b hb => ?_, fun h => ?_⟩
 · rw [bY hi]; exact h1.1 b hb
 · rw [bY hi]; exact h1.2 (by omega)
theorem mM {R : List Hd} {i : Nat} (hi : i < R.length) {c : Nat} (hs : Sh c R) {j : Nat} (h0 : ∀ b, b < j -> az R i b = 0) (hj : az R i j ≠ 0) : aQ R i = j := by
 have h1 := oP hi hs;have hjc : j < c := by
  by_cases h : j < c
  · exact h
  · exact absurd (hs.wide i (by omega)) hj
 rcases Nat.lt_trichotomy (aQ R i) j with h | h | h
 · exact absurd (h0 _ h) (h1.2.2 (by omega))
 · exact h
 · exact absurd (h1.2.1 _ h) hj
theorem Fit.of {B c : Nat} {R : List Hd} (hs : Sh c R) (h : ∀ a b, (az R a b).natAbs < W ^ B) : Fit B c R := by
 refine ⟨hs, fun r hr x hx => ?_⟩;obtain ⟨i, hi, rfl⟩ := List.getElem_of_mem hr;obtain ⟨j, hj, rfl⟩ := List.getElem_of_mem hx;have := h i j;rw [bY hi, gG _ _ hj] at this;exact an this
/-! Bounds by powers of the base. -/
theorem vj {u v : Nat} (h : u <= v) : W ^ u <= W ^ v := Nat.pow_le_pow_right aS h
theorem gO {n u v : Nat} (h : n < W ^ u) (k : u <= v) : n < W ^ v := Nat.lt_of_lt_of_le h (vj k)
theorem gx (u : Nat) : 0 < W ^ u := Nat.pow_pos aS
theorem n8 {k y x u d : Nat} (hk : k < W ^ u) (hy : y < W ^ d) (hx : x < W ^ u) : k * y + x < W ^ (u + d) := by
 have h1 : (k + 1) * W ^ d <= W ^ u * W ^ d := Nat.mul_le_mul_right _ hk;have h2 : k * (y + 1) <= k * W ^ d := Nat.mul_le_mul_left _ hy;rw [Nat.pow_add];rw [Nat.succ_mul] at h1;rw [Nat.mul_add, Nat.mul_one] at h2;have h3 : W ^ u <= W ^ u * W ^ d := by have := Nat.mul_le_mul_left (W ^ u) (gx d); omega
 by_cases hk0 : k = 0
 · subst hk0; omega
 · have h4 : k * y + k <= k * W ^ d := h2;have h5 : (W ^ u - 1) * y + (W ^ u - 1) <= (W ^ u - 1) * W ^ d := by
    have := Nat.mul_le_mul_left (W ^ u - 1) hy;rw [Nat.mul_succ] at this; exact this
   have h6 : k * y <= (W ^ u - 1) * y := Nat.mul_le_mul_right _ (by omega);have h7 : (W ^ u - 1) * W ^ d < W ^ u * W ^ d := Nat.mul_lt_mul_of_pos_right (by have := gx u; omega) (gx d);omega
theorem iN (k y x : Int) : (k * y + x).natAbs <= k.natAbs * y.natAbs + x.natAbs := by
 have := Int.natAbs_add_le (k * y) x
 rwa [Int.natAbs_mul] at this
theorem rZ {x y : Int} (hy : 0 < y) : (x.fdiv y).natAbs <= x.natAbs := by
 rw [Int.fdiv_eq_ediv_of_nonneg _ (Int.le_of_lt hy)];exact Int.natAbs_ediv_le_natAbs x y
theorem oS {x y : Int} (hy : 0 < y) : 0 <= x.fmod y /\ x.fmod y < y := by
 rw [Int.fmod_eq_emod_of_nonneg _ (Int.le_of_lt hy)];exact ⟨Int.emod_nonneg _ (by omega), Int.emod_lt_of_pos _ hy⟩
theorem mO {x y : Int} (hy : 0 < y) : -(x.fdiv y) * y + x = x.fmod y := by
 rw [Int.fdiv_eq_ediv_of_nonneg _ (Int.le_of_lt hy), Int.fmod_eq_emod_of_nonneg _ (Int.le_of_lt hy), Int.emod_def, Int.mul_comm y, Int.neg_mul]; omega
/-! settle. -/
def j2 (ls : List Nat) (i : Nat) : Nat -> Nat -> List Hd -> List Hd
 | 0, _, R => R
 | f + 1, k, R => j2 ls i f (k + 1) (jg R i k (-((az R i (ls.getD k 0)).fdiv (az R k (ls.getD k 0)))))
def sy (ls : List Nat) (n : Nat) : Nat -> List Hd -> List Hd
 | 0, R => R
 | m + 1, R => sy ls n m (j2 ls m (n - (m + 1)) (m + 1) R)
theorem aO.add {n : Nat} {E F : Nat -> Nat -> Int} {i k : Nat} (hi : i < n) (hk : k < n) (hik : i ≠ k) (q : Int) (h : ∀ a b, F a b = if a = i then q * E k b + E i b else E a b) : aO n E n F := by
 refine ⟨fun a ha => ?_, fun a ha => ?_⟩
 · by_cases e : a = i
   · subst e;refine ((Sp.row F ha).add ((Sp.row F hk).smul (-q))).congr (fun j => ?_);rw [h a j, if_pos rfl, h k j, if_neg (fun e => hik e.symm), Int.neg_mul]; omega
   · exact (Sp.row F ha).congr (fun j => by rw [h, if_neg e])
 · by_cases e : a = i
   · subst e;refine (((Sp.row E hk).smul q).add (Sp.row E ha)).congr (fun j => ?_);rw [h, if_pos rfl]
   · exact (Sp.row E ha).congr (fun j => by rw [h, if_neg e])
structure uL (n c i k : Nat) (l : Nat -> Nat) (R R' : List Hd) : Prop where
 same : ∀ a, a ≠ i -> ∀ b, az R' a b = az R a b
 low : ∀ b, (∀ m, k <= m -> m < n -> b < l m) -> az R' i b = az R i b
 red : ∀ m, k <= m -> m < n -> 0 <= az R' i (l m) /\ az R' i (l m) < az R m (l m)
 sh : Sh c R'
 len : R'.length = R.length
 blk : R'.map Hd.blk = R.map Hd.blk
 sp : aO n (az R) n (az R')
theorem Ech.add {n c : Nat} {E F : Nat -> Nat -> Int} {l : Nat -> Nat} (h : Ech n c E l) {i k : Nat} (hik : i < k) (hk : k < n) (q : Int) (e : ∀ a b, F a b = if a = i then q * E k b + E i b else E a b) : Ech n c F l := by
 refine ⟨h.inc, h.lt, fun a ha j hj => ?_, fun a ha => ?_⟩
 · rw [e]; split
   · rename_i e'; subst e';rw [h.zero k hk j (by have := h.inc a k hik hk; omega), h.zero a ha j hj]; simp
   · exact h.zero a ha j hj
 · rw [e]; split
   · rename_i e'; subst e';rw [h.zero k hk _ (h.inc a k hik hk)]; have := h.pos a ha; simpa using this
   · exact h.pos a ha
theorem nC {n c i : Nat} {l : Nat -> Nat} {ls : List Nat} (hls : ∀ k, k < n -> ls.getD k 0 = l k) : ∀ (f k : Nat) (R : List Hd), k + f = n -> i < k -> Sh c R -> n <= R.length -> Ech n c (az R) l -> uL n c i k l R (j2 ls i f k R)
 | 0, k, R, hf, hik, hs, hn, hE => ⟨fun _ _ _ => rfl, fun _ _ => rfl, fun m h1 h2 => by omega, hs, rfl, rfl, aO.refl _ _⟩
 | f + 1, k, R, hf, hik, hs, hn, hE => by
  have hk : k < n := by omega
  have he := fun (a b : Nat) => kZ hs (i := i) (j := k) (by omega) (by omega) (-((az R i (ls.getD k 0)).fdiv (az R k (ls.getD k 0)))) a b;have ih := nC (i := i) hls f (k + 1) (jg R i k (-((az R i (ls.getD k 0)).fdiv (az R k (ls.getD k 0))))) (by omega) (by omega) (hs.rT i k _) (by rw [dK]; exact hn) (hE.add hik hk _ he);rw [hls k hk] at he;have hp := hE.pos k hk;refine ⟨fun a ha b => ?_, fun b hb => ?_, fun m hm hmn => ?_, ih.sh, ih.len.trans (dK ..), ih.blk.trans (jz ..), (aO.add (by omega) hk (by omega) _ he).trans (by rw [<- hls k hk]; exact ih.sp)⟩
  · show az (j2 ls i f (k + 1) _) a b = _;rw [ih.same a ha b, hls k hk, he, if_neg ha]
  · show az (j2 ls i f (k + 1) _) i b = _;rw [ih.low b (fun m h1 h2 => hb m (by omega) h2), hls k hk, he, if_pos rfl, hE.zero k hk b (hb k (Nat.le_refl _) hk)]; omega
  · by_cases e : m = k
    · subst e;show 0 <= az (j2 ls i f (m + 1) _) i (l m) /\ az (j2 ls i f (m + 1) _) i (l m) < _;rw [ih.low (l m) (fun q h1 h2 => hE.inc m q (by omega) h2), hls m hk, he, if_pos rfl, mO hp];exact oS hp
    · have h1 := ih.red m (by omega) hmn;rw [hls k hk, he m, if_neg (by omega)] at h1;show 0 <= az (j2 ls i f (k + 1) _) i (l m) /\ az (j2 ls i f (k + 1) _) i (l m) < _;rw [hls k hk];exact h1
theorem Ech.congr {n c : Nat} {E F : Nat -> Nat -> Int} {l : Nat -> Nat} (h : Ech n c E l) (e : ∀ a, a < n -> ∀ b, F a b = E a b) : Ech n c F l :=
 ⟨h.inc, h.lt, fun a ha j hj => (e a ha j).trans (h.zero a ha j hj), fun a ha => by rw [e a ha]; exact h.pos a ha⟩
theorem uL.pD {n c i k : Nat} {l : Nat -> Nat} {R R' : List Hd} (h : uL n c i k l R R') (hE : Ech n c (az R) l) (hik : i < k) (hin : i < n) : Ech n c (az R') l := by
 have hlow : ∀ b, b <= l i -> az R' i b = az R i b := fun b hb => h.low b (fun m h1 h2 => by have := hE.inc i m (by omega) h2; omega);refine ⟨hE.inc, hE.lt, fun a ha j hj => ?_, fun a ha => ?_⟩
 · by_cases e : a = i
   · subst e; rw [hlow j (by omega)]; exact hE.zero a ha j hj
   · rw [h.same a e]; exact hE.zero a ha j hj
 · by_cases e : a = i
   · subst e; rw [hlow _ (Nat.le_refl _)]; exact hE.pos a ha
   · rw [h.same a e]; exact hE.pos a ha
structure vu (n c m : Nat) (l : Nat -> Nat) (R R' : List Hd) : Prop where
 same : ∀ a, m <= a -> ∀ b, az R' a b = az R a b
 herm : du n c (az R') l
 sh : Sh c R'
 len : R'.length = R.length
 blk : R'.map Hd.blk = R.map Hd.blk
 sp : aO n (az R) n (az R')
theorem je {n c : Nat} {l : Nat -> Nat} {ls : List Nat} (hls : ∀ k, k < n -> ls.getD k 0 = l k) : ∀ (m : Nat) (R : List Hd), m <= n -> Sh c R -> n <= R.length -> Ech n c (az R) l -> (∀ i k, m <= i -> i < k -> k < n -> 0 <= az R i (l k) /\ az R i (l k) < az R k (l k)) -> vu n c m l R (sy ls n m R)
 | 0, R, hm, hs, hn, hE, hr => ⟨fun _ _ _ => rfl, ⟨hE, fun i k => hr i k (Nat.zero_le _)⟩, hs, rfl, rfl, aO.refl _ _⟩
 | m + 1, R, hm, hs, hn, hE, hr => by
  have h1 := nC (i := m) hls (n - (m + 1)) (m + 1) R (by omega) (by omega) hs hn hE;have h2 := je hls m (j2 ls m (n - (m + 1)) (m + 1) R) (by omega) h1.sh (by rw [h1.len]; exact hn) (h1.pD hE (by omega) (by omega)) (fun i k hi hik hk => by
   by_cases e : i = m
   · subst e;rw [h1.same k (by omega)];exact h1.red k (by omega) hk
   · rw [h1.same i e, h1.same k (by omega)];exact hr i k (by omega) hik hk)
  exact ⟨fun a ha b => (h2.same a (by omega) b).trans (h1.same a (by omega) b), h2.herm, h2.sh, h2.len.trans h1.len, h2.blk.trans h1.blk, h1.sp.trans h2.sp⟩
theorem uq {n c i B δ : Nat} {l : Nat -> Nat} {ls : List Nat} (hls : ∀ k, k < n -> ls.getD k 0 = l k) : ∀ (f k u : Nat) (R : List Hd), k + f = n -> i < k -> Sh c R -> n <= R.length -> Ech n c (az R) l ->
 (∀ a b, (az R a b).natAbs < W ^ B) -> (∀ b, (az R i b).natAbs < W ^ u) -> (∀ a, k <= a -> a < n -> ∀ b, (az R a b).natAbs < W ^ δ) -> u + f * δ <= B -> SIn B c ls i n k R (j2 ls i f k R)
 | 0, k, u, R, hf, hik, hs, hn, hE, hB, hu, hd, hb => .done (by omega)
 | f + 1, k, u, R, hf, hik, hs, hn, hE, hB, hu, hd, hb => by
  have hk : k < n := by omega
  have he := fun (a b : Nat) => kZ hs (i := i) (j := k) (by omega) (by omega) (-((az R i (ls.getD k 0)).fdiv (az R k (ls.getD k 0)))) a b;have hp := hE.pos k hk;have hq : ((az R i (ls.getD k 0)).fdiv (az R k (ls.getD k 0))).natAbs < W ^ u := by
   rw [hls k hk];exact Nat.lt_of_le_of_lt (rZ hp) (hu _)
  have hrow : ∀ b, (az (jg R i k (-((az R i (ls.getD k 0)).fdiv (az R k (ls.getD k 0))))) i b).natAbs < W ^ (u + δ) := by
   intro b;rw [he, if_pos rfl];refine Nat.lt_of_le_of_lt (iN _ _ _) ?_;rw [Int.natAbs_neg];exact n8 hq (hd k (Nat.le_refl _) hk b) (hu b)
  have e1 : (f + 1) * δ = f * δ + δ := Nat.succ_mul ..;refine .step hk (Fit.of hs hB) (by rw [hls k hk]; exact hE.lt k hk) (by rw [hls k hk]; omega) ?_;refine uq (δ := δ) hls f (k + 1) (u + δ) _ (by omega) (by omega) (hs.rT i k _) (by rw [dK]; exact hn) (hE.add hik hk _ he) (fun a b => ?_) hrow (fun a h1 h2 b => ?_) (by omega)
  · by_cases e : a = i
    · subst e; exact gO (hrow b) (by omega)
    · rw [he, if_neg e]; exact hB a b
  · rw [he, if_neg (by omega)]; exact hd a (by omega) h2 b
theorem sK {n c B δ u : Nat} {l : Nat -> Nat} {ls : List Nat} (hls : ∀ k, k < n -> ls.getD k 0 = l k) (hb : u + n * δ <= B) : ∀ (m : Nat) (R : List Hd), m <= n -> Sh c R -> n <= R.length -> Ech n c (az R) l -> (∀ i k, m <= i -> i < k -> k < n -> 0 <= az R i (l k) /\ az R i (l k) < az R k (l k)) ->
 (∀ a b, (az R a b).natAbs < W ^ B) -> (∀ a, a < m -> ∀ b, (az R a b).natAbs < W ^ u) -> (∀ a, a < n -> ∀ b, (az (sy ls n m R) a b).natAbs < W ^ δ) -> r8 B c ls n m R (sy ls n m R)
 | 0, R, hm, hs, hn, hE, hr, hB, hu, hd => .done
 | m + 1, R, hm, hs, hn, hE, hr, hB, hu, hd => by
  have hout := je hls (m + 1) R hm hs hn hE hr;have h1 := nC (i := m) hls (n - (m + 1)) (m + 1) R (by omega) (by omega) hs hn hE;have hr1 : ∀ i k, m <= i -> i < k -> k < n -> 0 <= az (j2 ls m (n - (m + 1)) (m + 1) R) i (l k) /\ az (j2 ls m (n - (m + 1)) (m + 1) R) i (l k) < az (j2 ls m (n - (m + 1)) (m + 1) R) k (l k) := fun i k hi hik hk => by
   by_cases e : i = m
   · subst e;rw [h1.same k (by omega)];exact h1.red k (by omega) hk
   · rw [h1.same i e, h1.same k (by omega)];exact hr i k (by omega) hik hk
  have h2 := je hls m (j2 ls m (n - (m + 1)) (m + 1) R) (by omega) h1.sh (by rw [h1.len]; exact hn) (h1.pD hE (by omega) (by omega)) hr1;have hmul : (n - (m + 1)) * δ <= n * δ := Nat.mul_le_mul_right _ (by omega);have hδ : δ <= n * δ := by have := Nat.mul_le_mul_right δ (show 1 <= n by omega); omega
  refine .step (uq (δ := δ) hls (n - (m + 1)) (m + 1) u R (by omega) (by omega) hs hn hE hB (fun b => hu m (by omega) b) (fun a h3 h4 b => ?_) (by omega)) ?_
  · rw [<- hout.same a h3 b]; exact hd a h4 b
  · refine sK hls hb m _ (by omega) h1.sh (by rw [h1.len]; exact hn) (h1.pD hE (by omega) (by omega)) hr1 (fun a b => ?_) (fun a ha b => ?_) hd
    · by_cases e : a = m
      · subst e;rw [<- h2.same a (Nat.le_refl _) b];exact gO (hd a (by omega) b) (by omega)
      · rw [h1.same a e]; exact hB a b
    · rw [h1.same a (by omega)]; exact hu a (by omega) b
/-! meet. -/
theorem yQ (a b : Int) (hb : b ≠ 0) : a * ef a b + b * gL a b = bU a b := by
 have h := j6 a b;unfold ec at h;rw [if_neg hb] at h;exact h.2.2.2
theorem aO.two {N : Nat} {E F : Nat -> Nat -> Int} {k n : Nat} (hk : k < N) (hn : n < N) (hkn : k ≠ n) (hs : ∀ a, a ≠ k -> a ≠ n -> ∀ b, F a b = E a b)
 {x y z t x' y' z' t' : Int} (h1 : ∀ b, F k b = x * E k b + y * E n b) (h2 : ∀ b, F n b = z * E k b + t * E n b) (h3 : ∀ b, E k b = x' * F k b + y' * F n b) (h4 : ∀ b, E n b = z' * F k b + t' * F n b) : aO N E N F := by
 refine ⟨fun a ha => ?_, fun a ha => ?_⟩
 · by_cases e : a = k
   · subst e; exact (((Sp.row F hk).smul x').add ((Sp.row F hn).smul y')).congr h3
   · by_cases e' : a = n
     · subst e'; exact (((Sp.row F hk).smul z').add ((Sp.row F hn).smul t')).congr h4
     · exact (Sp.row F ha).congr (fun j => (hs a e e' j).symm)
 · by_cases e : a = k
   · subst e; exact (((Sp.row E hk).smul x).add ((Sp.row E hn).smul y)).congr h1
   · by_cases e' : a = n
     · subst e'; exact (((Sp.row E hk).smul z).add ((Sp.row E hn).smul t)).congr h2
     · exact (Sp.row E ha).congr (fun j => hs a e e' j)
structure yr (c k n j δ u : Nat) (R R' : List Hd) : Prop where
 same : ∀ a, a ≠ k -> a ≠ n -> ∀ b, az R' a b = az R a b
 low : ∀ b, b < j -> az R' k b = 0
 piv : 0 < az R' k j
 gone : ∀ b, b <= j -> az R' n b = 0
 comb : ∃ t s : Int, t ≠ 0 /\ ∀ b, az R' n b = t * az R n b + s * az R k b
 sp : ∀ N, k < N -> n < N -> aO N (az R) N (az R')
 bk : ∀ b, (az R' k b).natAbs < W ^ (u + 2 * δ + 1)
 bn : ∀ b, (az R' n b).natAbs < W ^ (u + 2 * δ + 1)
 sh : Sh c R'
 len : R'.length = R.length
 blk : R'.map Hd.blk = R.map Hd.blk
theorem jL {c : Nat} {R : List Hd} (hs : Sh c R) {k n : Nat} (hk : k < R.length) (hn : n < R.length) (j a b : Nat) : az (cM R k n j) a b = if a = n then -((az R n j).fdiv (az R k j)) * az R k b + az R n b else az R a b :=
 kZ hs hn hk _ a b
theorem yM {x y z t u d : Nat} (hx : x <= W ^ d) (hy : y < W ^ d) (hz : z <= W ^ d) (ht : t < W ^ (u + d)) : x * y + z * t < W ^ (u + 2 * d + 1) := by
 have h1 : x * y <= W ^ d * W ^ d := Nat.mul_le_mul hx (Nat.le_of_lt hy);have h2 : z * t <= W ^ d * W ^ (u + d) := Nat.mul_le_mul hz (Nat.le_of_lt ht);have e1 : W ^ d * W ^ d <= W ^ (u + 2 * d) := by rw [<- Nat.pow_add]; exact vj (by omega)
 have e2 : W ^ d * W ^ (u + d) = W ^ (u + 2 * d) := by rw [<- Nat.pow_add]; congr 1; omega
 have e3 : W ^ (u + 2 * d) * 2 < W ^ (u + 2 * d + 1) := by
  rw [Nat.pow_succ];exact Nat.mul_lt_mul_of_pos_left (by unfold W; omega) (gx _)
 omega
theorem ki {c : Nat} {R : List Hd} (hs : Sh c R) {k n j δ u : Nat} (hk : k < R.length) (hn : n < R.length) (hp : 0 < az R k j) (hbk : ∀ b, (az R k b).natAbs < W ^ δ) (hbn : ∀ b, (az R n b).natAbs < W ^ u) (b : Nat) : (az (cM R k n j) n b).natAbs < W ^ (u + δ) := by
 rw [jL hs hk hn, if_pos rfl];refine Nat.lt_of_le_of_lt (iN _ _ _) ?_;rw [Int.natAbs_neg];exact n8 (Nat.lt_of_le_of_lt (rZ hp) (hbn j)) (hbk b) (hbn b)
theorem tJ (R : List Hd) (k n j : Nat) : (fI R k n j).map Hd.blk = R.map Hd.blk := by
 unfold fI cM; split
 · exact jz ..
 · rw [vA]; exact jz ..
theorem xK {c k n j δ u : Nat} {R : List Hd} (hs : Sh c R) (hk : k < R.length) (hn : n < R.length) (hkn : k ≠ n) (hp : 0 < az R k j) (h0 : ∀ b, b < j -> az R k b = 0) (h1 : ∀ b, b < j -> az R n b = 0)
 (hbk : ∀ b, (az R k b).natAbs < W ^ δ) (hbn : ∀ b, (az R n b).natAbs < W ^ u) : yr c k n j δ u R (fI R k n j) := by
 have hA := jL hs hk hn j;have hAn := fun b => (hA n b).trans (if_pos rfl);have hAk := fun b => (hA k b).trans (if_neg hkn);have hAs := fun a b (h : a ≠ n) => (hA a b).trans (if_neg h);have hsA : Sh c (cM R k n j) := hs.rT n k _;have hlA : (cM R k n j).length = R.length := dK ..;have hbA := ki hs hk hn hp hbk hbn;have hr : az (cM R k n j) n j = (az R n j).fmod (az R k j) := by rw [hAn, mO hp]
 have hrr := oS (x := az R n j) hp;by_cases hz : (az R n j).fmod (az R k j) = 0
 · have e : fI R k n j = cM R k n j := by unfold fI; rw [if_pos hz]
   rw [e];refine ⟨fun a _ h b => hAs a b h, fun b hb => (hAk b).trans (h0 b hb), by rw [hAk]; exact hp, fun b hb => ?_, ⟨1, -((az R n j).fdiv (az R k j)), by omega, fun b => ?_⟩, fun N hkN hnN => aO.add hnN hkN (fun e => hkn e.symm) _ hA, fun b => ?_, fun b => gO (hbA b) (by omega), hsA, hlA, jz ..⟩
   · rcases Nat.lt_or_eq_of_le hb with h | h
     · rw [hAn, h0 b h, h1 b h]; simp
     · subst h; rw [hr, hz]
   · rw [hAn, Int.one_mul]; omega
   · rw [hAk]; exact gO (hbk b) (by omega)
 · obtain ⟨M, hM⟩ : ∃ M, cM R k n j = M := ⟨_, rfl⟩;rw [hM] at hAn hAk hAs hsA hlA hbA hr;have e : fI R k n j = me M k n (ef (az M k j) (az M n j)) (gL (az M k j) (az M n j)) (-(az M n j / bU (az M k j) (az M n j))) (az M k j / bU (az M k j) (az M n j)) := by
    unfold fI; rw [if_neg hz, hM]
   obtain ⟨p, hp'⟩ : ∃ p, az M k j = p := ⟨_, rfl⟩;obtain ⟨r, hr'⟩ : ∃ r, az M n j = r := ⟨_, rfl⟩;have hpp : p = az R k j := hp'.symm.trans (hAk j);rw [hr'] at hr;rw [hp', hr'] at e;have hrne : r ≠ 0 := by rw [hr]; exact hz
   rw [<- hr, <- hpp] at hrr;have hrp : 0 < r := by omega
   have hg := mb p r;have hx := yQ p r hrne;have hxl := sA p r;have hyl := vS p r;obtain ⟨g, hgd⟩ : ∃ g, bU p r = g := ⟨_, rfl⟩;obtain ⟨x, hxd⟩ : ∃ x, ef p r = x := ⟨_, rfl⟩;obtain ⟨y, hyd⟩ : ∃ y, gL p r = y := ⟨_, rfl⟩;rw [hgd] at hg hx e;rw [hxd] at hx hxl e;rw [hyd] at hx hyl e;have hgp : 0 < g := by have := hg.2.2.1 (by omega); have := hg.2.2.2; omega
   obtain ⟨p', hp1⟩ := hg.1;obtain ⟨r', hr1⟩ := hg.2.1;have hpd : p / g = p' := by rw [hp1, Int.mul_ediv_cancel_left _ (by omega)]
   have hrd : r / g = r' := by rw [hr1, Int.mul_ediv_cancel_left _ (by omega)]
   rw [hpd, hrd] at e;have hk1 : p' * x + r' * y = 1 := by
    have : g * (p' * x + r' * y) = g * 1 := by
     rw [Int.mul_add, <- Int.mul_assoc, <- Int.mul_assoc, <- hp1, <- hr1, hx]; omega
    exact Int.eq_of_mul_eq_mul_left (by omega) this
   have hp0 : p' ≠ 0 := fun h => by rw [h, Int.mul_zero] at hp1; omega
   have hmix := vb hsA (by omega : k < M.length) (by omega : n < M.length) hkn x y (-r') p';rw [<- e] at hmix;have hmk := fun b => (hmix k b).trans (if_pos rfl);have hmn := fun b => ((hmix n b).trans (if_neg (fun h => hkn h.symm))).trans (if_pos rfl);have hms := fun a b (h : a ≠ k) (h' : a ≠ n) => ((hmix a b).trans (if_neg h)).trans (if_neg h');have hM0 : ∀ b, b < j -> az M n b = 0 := fun b hb => by rw [hAn, h0 b hb, h1 b hb]; simp
   have hpD : p.natAbs < W ^ δ := by rw [hpp]; exact hbk j
   have hrD : r.natAbs < W ^ δ := by omega
   have hp'D : p'.natAbs <= W ^ δ := by
    have h2 : p'.natAbs <= p.natAbs := by
     rw [hp1, Int.natAbs_mul];have := Nat.mul_le_mul_right p'.natAbs (show 1 <= g.natAbs by omega);omega
    omega
   have hr'D : r'.natAbs <= W ^ δ := by
    have h2 : r'.natAbs <= r.natAbs := by
     rw [hr1, Int.natAbs_mul];have := Nat.mul_le_mul_right r'.natAbs (show 1 <= g.natAbs by omega);omega
    omega
   have bnd : ∀ (s t : Int) b, s.natAbs <= W ^ δ -> t.natAbs <= W ^ δ -> (s * az M k b + t * az M n b).natAbs < W ^ (u + 2 * δ + 1) := by
    intro s t b hs' ht';refine Nat.lt_of_le_of_lt (Int.natAbs_add_le _ _) ?_;rw [Int.natAbs_mul, Int.natAbs_mul];exact yM hs' (by rw [hAk]; exact hbk b) ht' (hbA b)
   have hspA : ∀ N, k < N -> n < N -> aO N (az R) N (az M) := fun N hkN hnN => by
    rw [<- hM]; exact aO.add hnN hkN (fun e => hkn e.symm) _ hA
   refine ⟨fun a h h' b => ?_, fun b hb => ?_, ?_, fun b hb => ?_, ?_, fun N hkN hnN => ?_, fun b => ?_, fun b => ?_, ?_, ?_, tJ ..⟩
   · rw [hms a b h h', hAs a b h']
   · rw [hmk, hAk, h0 b hb, hM0 b hb]; simp
   · rw [hmk, hp', hr', Int.mul_comm x, Int.mul_comm y, hx]; exact hgp
   · rw [hmn];rcases Nat.lt_or_eq_of_le hb with h | h
     · rw [hAk, h0 b h, hM0 b h]; simp
     · subst h;rw [hp', hr', hp1, hr1, Int.neg_mul, Int.mul_left_comm r', Int.mul_left_comm p', Int.mul_comm r' p']; omega
   · refine ⟨p', -r' + p' * (-((az R n j).fdiv (az R k j))), hp0, fun b => ?_⟩;rw [hmn, hAk, hAn, Int.mul_add, Int.add_mul, <- Int.mul_assoc]; omega
   · refine (hspA N hkN hnN).trans (aO.two hkN hnN hkn (fun a h h' b => hms a b h h') hmk hmn (x' := p') (y' := -y) (z' := r') (t' := x) (fun b => ?_) (fun b => ?_))
     · rw [hmk, hmn];have : p' * (x * az M k b + y * az M n b) + -y * (-r' * az M k b + p' * az M n b) = (p' * x + r' * y) * az M k b := by
        simp only [Int.mul_add, Int.add_mul, Int.neg_mul, Int.mul_neg, Int.neg_neg];have a1 : p' * (y * az M n b) = y * (p' * az M n b) := Int.mul_left_comm ..;have a2 : y * (r' * az M k b) = r' * y * az M k b := by rw [<- Int.mul_assoc, Int.mul_comm y]
        have a3 : p' * (x * az M k b) = p' * x * az M k b := (Int.mul_assoc ..).symm;omega
       rw [this, hk1, Int.one_mul]
     · rw [hmk, hmn];have : r' * (x * az M k b + y * az M n b) + x * (-r' * az M k b + p' * az M n b) = (p' * x + r' * y) * az M n b := by
        simp only [Int.mul_add, Int.add_mul, Int.neg_mul, Int.mul_neg];have a1 : r' * (x * az M k b) = x * (r' * az M k b) := Int.mul_left_comm ..;have a2 : r' * (y * az M n b) = r' * y * az M n b := (Int.mul_assoc ..).symm;have a3 : x * (p' * az M n b) = p' * x * az M n b := by rw [<- Int.mul_assoc, Int.mul_comm x]
        omega
       rw [this, hk1, Int.one_mul]
   · rw [hmk]; exact bnd x y b (by omega) (by omega)
   · rw [hmn]; exact bnd (-r') p' b (by rw [Int.natAbs_neg]; exact hr'D) hp'D
   · rw [e]; exact hsA.mixT_ k n _ _ _ _
   · exact o4 ..
/-! put. -/
theorem pF (R : List Hd) {n k : Nat} (hk : k < n) : (iE R n).getD k 0 = aQ R k := by
 unfold iE; simp [hk]
theorem n7 {c n B δ u : Nat} {l : Nat -> Nat} {R : List Hd} (hs : Sh c R) (hn : n <= R.length) (hE : Ech n c (az R) l) (hu : ∀ a b, (az R a b).natAbs < W ^ u) (hb : u + n * δ <= B)
 (hD : ∀ E', du n c E' l -> aO n (az R) n E' -> ∀ i, i < n -> ∀ j, (E' i j).natAbs < W ^ δ) : ∃ R', r8 B c (iE R n) n n R R' /\ vu n c n l R R' := by
 have hls : ∀ k, k < n -> (iE R n).getD k 0 = l k := fun k hk => by
  rw [pF R hk];exact mM (by omega) hs (hE.zero k hk) (by have := hE.pos k hk; omega)
 have h1 := je hls n R (Nat.le_refl _) hs hn hE (fun i k h1 h2 h3 => by omega);exact ⟨_, sK (δ := δ) (u := u) hls hb n R (Nat.le_refl _) hs hn hE (fun i k h1 h2 h3 => by omega) (fun a b => gO (hu a b) (by omega)) (fun a _ b => hu a b) (hD _ h1.herm h1.sp), h1⟩
theorem lI {a : Nat} : ∀ (n : Nat) (R : List Hd), a <= n -> n < R.length -> ∀ i b, az (eB a n R) i b = if i < a then az R i b else if i = a then az R n b else if i <= n then az R (i - 1) b else az R i b
 | 0, R, ha, hn, i, b => by
  obtain rfl : a = 0 := by omega
  unfold eB;by_cases h : i = 0
  · subst h; simp
  · rw [if_neg (by omega), if_neg h, if_neg (by omega)]
 | n + 1, R, ha, hn, i, b => by
  unfold eB;by_cases h : n + 1 <= a
  · obtain rfl : a = n + 1 := by omega
    rw [if_pos h];by_cases h1 : i < n + 1
    · rw [if_pos h1]
    · rw [if_neg h1];by_cases h2 : i = n + 1
      · subst h2; rw [if_pos rfl]
      · rw [if_neg h2, if_neg (by omega)]
  · rw [if_neg h, lI n _ (by omega) (by rw [cI]; omega)];have hsw := fun x => mB (R := R) (i := n + 1) (j := n) hn (by omega) x b;rw [hsw, hsw, hsw];by_cases h1 : i < a
    · rw [if_pos h1, if_pos h1];unfold swp; rw [if_neg (by omega), if_neg (by omega)]
    · rw [if_neg h1, if_neg h1];by_cases h2 : i = a
      · rw [if_pos h2, if_pos h2];unfold swp; rw [if_pos rfl]
      · rw [if_neg h2, if_neg h2];by_cases h3 : i <= n
        · rw [if_pos h3, if_pos (by omega)];unfold swp; rw [if_neg (by omega), if_neg (by omega)]
        · rw [if_neg h3];by_cases h4 : i = n + 1
          · subst h4; rw [if_pos (by omega)];unfold swp; rw [if_neg (by omega), if_pos rfl]; rfl
          · rw [if_neg (by omega : ¬ i <= n + 1)];unfold swp; rw [if_neg (by omega), if_neg h4]
theorem pQ {c a : Nat} : ∀ (n : Nat) (R : List Hd), Sh c R -> Sh c (eB a n R)
 | 0, R, h => h
 | n + 1, R, h => by
  unfold eB; split
  · exact h
  · exact pQ n _ (h.uv _ _)
structure PI (c n δ u s : Nat) (l : Nat -> Nat) (last : Int) (E0 : Nat -> Nat -> Int) (v0 : Nat -> Int) (Ro R : List Hd) : Prop where
 sh : Sh c R
 len : R.length = Ro.length
 pD : Ech n c (az R) l
 sn : s <= n
 lo : ∀ i, i < s -> (l i : Int) <= last
 hi : ∀ i, s <= i -> i < n -> last < (l i : Int)
 un : ∀ i, s <= i -> i < n -> ∀ b, az R i b = E0 i b
 z : ∀ b : Nat, (b : Int) <= last -> az R n b = 0
 bd : ∀ a b, (az R a b).natAbs < W ^ u
 cb : ∃ (t : Int) (w : Nat -> Int), t ≠ 0 /\ Sp n E0 w /\ ∀ b, az R n b = t * v0 b + w b
 sp : aO (n + 1) (az Ro) (n + 1) (az R)
 oth : ∀ a, n < a -> ∀ b, az R a b = az Ro a b
structure uQ (c n : Nat) (E0 : Nat -> Nat -> Int) (v0 : Nat -> Int) (Ro : List Hd) (b : Bool) (R' : List Hd) : Prop where
 sh : Sh c R'
 len : R'.length = Ro.length
 oth : ∀ a, n < a -> ∀ b, az R' a b = az Ro a b
 no : b = false -> (∃ l', du n c (az R') l') /\ (∀ b, az R' n b = 0) /\ aO (n + 1) (az Ro) n (az R')
 yes : b = true -> (∃ l', du (n + 1) c (az R') l') /\ aO (n + 1) (az Ro) (n + 1) (az R') /\ ∀ s : Int, Sp n E0 (fun j => s * v0 j) -> s = 0
theorem ud {n s j : Nat} {l : Nat -> Nat} (h : s <= n) : ∃ a, s <= a /\ a <= n /\ (∀ i, s <= i -> i < a -> l i < j) /\ (a = n ∨ (a < n /\ j <= l a)) := by
 obtain ⟨f, hf⟩ : ∃ f, n - s = f := ⟨_, rfl⟩;induction f generalizing s with
 | zero => exact ⟨s, Nat.le_refl _, h, fun i h1 h2 => by omega, .inl (by omega)⟩
 | succ f ih =>
  by_cases hj : j <= l s
  · exact ⟨s, Nat.le_refl _, h, fun i h1 h2 => by omega, .inr ⟨by omega, hj⟩⟩
  · obtain ⟨a, h1, h2, h3, h4⟩ := ih (s := s + 1) (by omega) (by omega);refine ⟨a, by omega, h2, fun i hi hia => ?_, h4⟩;by_cases e : i = s
    · subst e; omega
    · exact h3 i (by omega) hia
theorem rK {c n a j : Nat} {l : Nat -> Nat} {E F : Nat -> Nat -> Int} (h : Ech n c E l) (ha : a <= n) (hlo : ∀ i, i < a -> l i < j) (hhi : ∀ i, a <= i -> i < n -> j < l i) (hj : j < c) (h0 : ∀ b, b < j -> E n b = 0) (hp : 0 < E n j)
 (hF : ∀ i b, i <= n -> F i b = if i < a then E i b else if i = a then E n b else E (i - 1) b) : Ech (n + 1) c F (fun i => if i < a then l i else if i = a then j else l (i - 1)) := by
 refine ⟨fun i k hik hk => ?_, fun i hi => ?_, fun i hi b hb => ?_, fun i hi => ?_⟩
 · show (if i < a then l i else if i = a then j else l (i - 1)) < (if k < a then l k else if k = a then j else l (k - 1));by_cases h1 : k < a
   · rw [if_pos h1, if_pos (by omega)]; exact h.inc i k hik (by omega)
   · rw [if_neg h1];by_cases h2 : k = a
     · rw [if_pos h2, if_pos (by omega)]; exact hlo i (by omega)
     · rw [if_neg h2];by_cases h3 : i < a
       · rw [if_pos h3]; exact h.inc i (k - 1) (by omega) (by omega)
       · rw [if_neg h3];by_cases h4 : i = a
         · rw [if_pos h4]; exact hhi (k - 1) (by omega) (by omega)
         · rw [if_neg h4]; exact h.inc (i - 1) (k - 1) (by omega) (by omega)
 · show (if i < a then l i else if i = a then j else l (i - 1)) < c;split
   · exact h.lt i (by omega)
   · split
     · exact hj
     · exact h.lt (i - 1) (by omega)
 · rw [hF i b (by omega)];have hb : b < (if i < a then l i else if i = a then j else l (i - 1)) := hb;split at hb
   · rename_i h1; rw [if_pos h1]; exact h.zero i (by omega) b hb
   · rename_i h1; rw [if_neg h1];split at hb
     · rename_i h2; rw [if_pos h2]; exact h0 b hb
     · rename_i h2; rw [if_neg h2]; exact h.zero (i - 1) (by omega) b hb
 · rw [hF i _ (by omega)];show 0 < (if i < a then E i (if i < a then l i else if i = a then j else l (i - 1)) else if i = a then E n (if i < a then l i else if i = a then j else l (i - 1)) else E (i - 1) (if i < a then l i else if i = a then j else l (i - 1)));split
   · exact h.pos i (by omega)
   · split
     · exact hp
     · exact h.pos (i - 1) (by omega)
theorem aO.perm {n a : Nat} {E F : Nat -> Nat -> Int} (ha : a <= n) (hF : ∀ i b, i <= n -> F i b = if i < a then E i b else if i = a then E n b else E (i - 1) b) : aO (n + 1) E (n + 1) F := by
 refine ⟨fun k hk => ?_, fun k hk => ?_⟩
 · by_cases h1 : k < a
   · exact (Sp.row F hk).congr (fun b => by rw [hF k b (by omega), if_pos h1])
   · by_cases h2 : k = n
     · subst h2;exact (Sp.row F (show a < k + 1 by omega)).congr (fun b => by rw [hF a b (by omega), if_neg (by omega), if_pos rfl])
     · exact (Sp.row F (show k + 1 < n + 1 by omega)).congr (fun b => by rw [hF (k + 1) b (by omega), if_neg (by omega), if_neg (by omega)]; rfl)
 · by_cases h1 : k < a
   · exact (Sp.row E hk).congr (fun b => by rw [hF k b (by omega), if_pos h1])
   · by_cases h2 : k = a
     · exact (Sp.row E (show n < n + 1 by omega)).congr (fun b => by rw [hF k b (by omega), if_neg h1, if_pos h2])
     · exact (Sp.row E (show k - 1 < n + 1 by omega)).congr (fun b => by rw [hF k b (by omega), if_neg h1, if_neg h2])
theorem aO.neg {N n : Nat} {E F : Nat -> Nat -> Int} (hn : n < N) (hs : ∀ a, a ≠ n -> ∀ b, F a b = E a b) (h : ∀ b, F n b = - E n b) : aO N E N F := by
 refine ⟨fun k hk => ?_, fun k hk => ?_⟩
 · by_cases e : k = n
   · subst e; exact ((Sp.row F hk).smul (-1)).congr (fun b => by rw [h]; omega)
   · exact (Sp.row F hk).congr (fun b => (hs k e b).symm)
 · by_cases e : k = n
   · subst e; exact ((Sp.row E hk).smul (-1)).congr (fun b => by rw [h]; omega)
   · exact (Sp.row E hk).congr (fun b => hs k e b)
theorem kk {c n δ B U : Nat} {l : Nat -> Nat} {E0 : Nat -> Nat -> Int} {v0 : Nat -> Int} {Ro : List Hd} (hn : n < Ro.length) (hH0 : Ech n c E0 l) (hδ : ∀ a, a < n -> ∀ b, (E0 a b).natAbs < W ^ δ) (hUB : U + (n + 1) * δ <= B)
 (hZ : ∀ E' l', du n c E' l' -> aO (n + 1) (az Ro) n E' -> ∀ i, i < n -> ∀ j, (E' i j).natAbs < W ^ δ)
 (hS : (∀ s : Int, Sp n E0 (fun j => s * v0 j) -> s = 0) -> ∀ E' l', du (n + 1) c E' l' -> aO (n + 1) (az Ro) (n + 1) E' -> ∀ i, i < n + 1 -> ∀ j, (E' i j).natAbs < W ^ δ)
 (s u at_ : Nat) (last : Int) (R : List Hd) (hI : PI c n δ u s l last E0 v0 Ro R) (hat : at_ <= s) (hu : u + (n - s) * (2 * δ + 1) <= U)
 (hnext : ∀ a, s <= a -> a < n -> ∀ R1 u1, PI c n δ u1 (a + 1) l (l a) E0 v0 Ro R1 -> u1 + (n - (a + 1)) * (2 * δ + 1) <= U -> ∃ b R', nA B c n a (l a) R1 b R' /\ uQ c n E0 v0 Ro b R') :
 ∃ b R', nA B c n at_ last R b R' /\ uQ c n E0 v0 Ro b R' := by
 have hnR : n < R.length := by rw [hI.len]; exact hn
 have hle := oP hnR hI.sh;have huB : u <= B := by have := Nat.zero_le ((n - s) * (2 * δ + 1)); have := Nat.zero_le ((n + 1) * δ); omega
 have hFit : Fit B c R := Fit.of hI.sh (fun a b => gO (hI.bd a b) huB);have hnδ : n * δ <= (n + 1) * δ := Nat.mul_le_mul_right _ (by omega);have huU : u <= U := by have := Nat.zero_le ((n - s) * (2 * δ + 1)); omega
 by_cases hc : aQ R n = c
 · -- nothing is left
   have hz : ∀ b, az R n b = 0 := fun b => by
    by_cases h : b < c
    · exact hle.2.1 b (by omega)
    · exact hI.sh.wide n (by omega)
   have hspz : aO (n + 1) (az R) n (az R) := by
    refine ⟨fun k hk => ?_, fun k hk => Sp.row _ (by omega)⟩;by_cases e : k = n
    · subst e; exact (Sp.zero _ _).congr hz
    · exact Sp.row _ (by omega)
   obtain ⟨R', h1, h2⟩ := n7 (B := B) (δ := δ) hI.sh (by omega : n <= R.length) hI.pD hI.bd (by omega) (fun E' hE' hsp => hZ E' l hE' (hI.sp.trans (hspz.trans hsp)));exact ⟨false, R', .zero hFit (.inl hc) h1, h2.sh, h2.len.trans hI.len, fun a ha b => (h2.same a (by omega) b).trans (hI.oth a ha b), fun _ => ⟨⟨l, h2.herm⟩, fun b => (h2.same n (Nat.le_refl _) b).trans (hz b), hI.sp.trans (hspz.trans h2.sp)⟩, fun h => by cases h⟩
 · have hjc : aQ R n < c := by have := hle.1; omega
   obtain ⟨j, hj⟩ : ∃ j, aQ R n = j := ⟨_, rfl⟩;rw [hj] at hjc hc hle;have hvj := hle.2.2 hjc;have hlast : last < (j : Int) := by
    by_cases h : last < (j : Int)
    · exact h
    · exact absurd (hI.z j (by omega)) hvj
   obtain ⟨a, hsa, han, hlt, hend⟩ := ud (l := l) (j := j) hI.sn;have hlead : ∀ i, i < n -> aQ R i = l i := fun i hi => mM (by omega) hI.sh (hI.pD.zero i hi) (by have := hI.pD.pos i hi; omega);have hlo : ∀ i, i < a -> l i < j := fun i hi => by
    by_cases h : s <= i
    · exact hlt i h hi
    · have := hI.lo i (by omega); omega
   by_cases hm : a < n /\ l a = j
   · obtain ⟨ha, hla⟩ := hm;have hrow : ∀ b, (az R a b).natAbs < W ^ δ := fun b => by rw [hI.un a hsa ha]; exact hδ a ha b
     have hp : 0 < az R a j := by rw [<- hla]; exact hI.pD.pos a ha
     have h0a : ∀ b, b < j -> az R a b = 0 := fun b hb => hI.pD.zero a ha b (by omega);have hok := xK (j := j) hI.sh (by omega : a < R.length) hnR (by omega) hp h0a hle.2.1 hrow (hI.bd n);have hA := jL hI.sh (by omega : a < R.length) hnR j;have hbA := ki (j := j) hI.sh (by omega : a < R.length) hnR hp hrow (hI.bd n);have h2n : (n - s) * (2 * δ + 1) = (n - (a + 1)) * (2 * δ + 1) + (a + 1 - s) * (2 * δ + 1) := by rw [<- Nat.add_mul]; congr 1; omega
     have h2a : 2 * δ + 1 <= (a + 1 - s) * (2 * δ + 1) := by have := Nat.mul_le_mul_right (2 * δ + 1) (show 1 <= a + 1 - s by omega); omega
     have hbud : u + 2 * δ + 1 + (n - (a + 1)) * (2 * δ + 1) <= U := by omega
     have hudB : u + 2 * δ + 1 <= B := by
      have := Nat.zero_le ((n - (a + 1)) * (2 * δ + 1)); have := Nat.zero_le ((n + 1) * δ); omega
     have hFitA : Fit B c (cM R a n j) := Fit.of (hI.sh.rT n a _) (fun x b => by
      by_cases e : x = n
      · subst e; exact gO (hbA b) (by omega)
      · rw [hA, if_neg e]; exact gO (hI.bd x b) huB)
     have hpA : az (cM R a n j) a j ≠ 0 := by rw [hA, if_neg (by omega)]; omega
     have hPI : PI c n δ (u + 2 * δ + 1) (a + 1) l (l a) E0 v0 Ro (fI R a n j) := by
      refine ⟨hok.sh, hok.len.trans hI.len, ?_, by omega, ?_, ?_, ?_, ?_, ?_, ?_, hI.sp.trans (hok.sp (n + 1) (by omega) (by omega)), ?_⟩
      · refine ⟨hI.pD.inc, hI.pD.lt, fun i hi b hb => ?_, fun i hi => ?_⟩
        · by_cases e : i = a
          · subst e; exact hok.low b (by omega)
          · rw [hok.same i e (by omega)]; exact hI.pD.zero i hi b hb
        · by_cases e : i = a
          · subst e; rw [hla]; exact hok.piv
          · rw [hok.same i e (by omega)]; exact hI.pD.pos i hi
      · intro i hi;by_cases e : i = a
        · subst e; exact Int.le_refl _
        · have := hI.pD.inc i a (by omega) ha; omega
      · intro i hi hin;have := hI.pD.inc a i (by omega) hin; omega
      · intro i hi hin b;rw [hok.same i (by omega) (by omega)]; exact hI.un i (by omega) hin b
      · intro b hb;exact hok.gone b (by omega)
      · intro x b;by_cases e : x = a
        · subst e; exact hok.bk b
        · by_cases e' : x = n
          · subst e'; exact hok.bn b
          · rw [hok.same x e e']; exact gO (hI.bd x b) (by omega)
      · obtain ⟨t, w, ht, hw, hv⟩ := hI.cb;obtain ⟨t', s', ht', hv'⟩ := hok.comb;refine ⟨t' * t, fun b => t' * w b + s' * E0 a b, fun e => ?_, (hw.smul t').add ((Sp.row E0 ha).smul s'), fun b => ?_⟩
        · rcases Int.mul_eq_zero.1 e with e | e
          · exact ht' e
          · exact ht e
        · show az (fI R a n j) n b = t' * t * v0 b + (t' * w b + s' * E0 a b);rw [hv', hv, hI.un a hsa ha, Int.mul_add, Int.mul_assoc]; omega
      · intro x hx b;rw [hok.same x (by omega) (by omega)]; exact hI.oth x hx b
     obtain ⟨b, R', h1, h2⟩ := hnext a hsa ha (fI R a n j) (u + 2 * δ + 1) hPI hbud;refine ⟨b, R', .meet hFit (by rw [hj]; exact hjc) (by rw [hj]; exact hlast) a (by omega) ha (fun i h3 h4 => ?_) ?_ ?_ ?_ ?_ ?_, h2⟩
     · rw [hj, hlead i (by omega)]; exact hlo i h4
     · rw [hj, hlead a ha, hla]
     · rw [hj]; omega
     · rw [hj]; exact hFitA
     · rw [hj]; exact hpA
     · rw [hj]; rw [hla] at h1; exact h1
   · have hhi : ∀ i, a <= i -> i < n -> j < l i := fun i h1 h2 => by
      rcases hend with h3 | ⟨h3, h4⟩
      · omega
      · by_cases e : i = a
        · subst e;have : l i ≠ j := fun h => hm ⟨h3, h⟩;omega
        · have := hI.pD.inc a i (by omega) h2; omega
     obtain ⟨R1, hR1⟩ : ∃ R1, (if az R n (aQ R n) < 0 then gS R n else R) = R1 := ⟨_, rfl⟩;have hR1e : ∀ x, x ≠ n -> ∀ b, az R1 x b = az R x b := fun x hx b => by
      rw [<- hR1]; split
      · rw [mP hnR, if_neg hx]
      · rfl
     have hR1n : (∀ b, (az R1 n b).natAbs = (az R n b).natAbs) /\ 0 < az R1 n j /\ ((∀ b, az R1 n b = az R n b) ∨ (∀ b, az R1 n b = - az R n b)) := by
      rw [<- hR1]; split
      · rename_i h;rw [hj] at h;have h1 := fun b => (mP hnR n b).trans (if_pos rfl);exact ⟨fun b => by rw [h1, Int.natAbs_neg], by rw [h1]; omega, .inr h1⟩
      · rename_i h;rw [hj] at h;exact ⟨fun b => rfl, by omega, .inl (fun b => rfl)⟩
     have hR1s : Sh c R1 := by
      rw [<- hR1]; split
      · exact hI.sh.zd n
      · exact hI.sh
     have hR1l : R1.length = R.length := by
      rw [<- hR1]; split
      · exact nk ..
      · rfl
     have hR1b : ∀ x b, (az R1 x b).natAbs < W ^ u := fun x b => by
      by_cases e : x = n
      · subst e; rw [hR1n.1]; exact hI.bd x b
      · rw [hR1e x e]; exact hI.bd x b
     have hsp1 : aO (n + 1) (az R) (n + 1) (az R1) := by
      rcases hR1n.2.2 with h | h
      · exact aO.of_eq (fun k hk b => by
         by_cases e : k = n
         · subst e; exact (h b).symm
         · exact (hR1e k e b).symm)
      · exact aO.neg (by omega) hR1e h
     have hsw := lI (a := a) n R1 han (by omega);obtain ⟨R2, hR2⟩ : ∃ R2, eB a n R1 = R2 := ⟨_, rfl⟩;have hs2 : Sh c R2 := hR2 ▸ pQ n R1 hR1s;have hl2 : R2.length = R.length := by rw [<- hR2, iK, hR1l]
     rw [hR2] at hsw;have hsw2 : ∀ i b, i <= n -> az R2 i b = if i < a then az R1 i b else if i = a then az R1 n b else az R1 (i - 1) b := fun i b hi => by
      rw [hsw];by_cases h1 : i < a
      · rw [if_pos h1, if_pos h1]
      · rw [if_neg h1, if_neg h1];by_cases h2 : i = a
        · rw [if_pos h2, if_pos h2]
        · rw [if_neg h2, if_neg h2, if_pos hi]
     have hb2 : ∀ x b, (az R2 x b).natAbs < W ^ u := fun x b => by
      rw [hsw]; split
      · exact hR1b ..
      · split
        · exact hR1b ..
        · split <;> exact hR1b ..
     have hE1 : Ech n c (az R1) l := hI.pD.congr (fun x hx b => hR1e x (by omega) b);have h10 : ∀ b, b < j -> az R1 n b = 0 := fun b hb => by
      have h1 := hR1n.1 b;rw [hle.2.1 b hb] at h1; omega
     have hE2 := rK hE1 han hlo hhi hjc h10 hR1n.2.1 hsw2;have hsp2 := aO.perm han hsw2;have hind : ∀ t : Int, Sp n E0 (fun b => t * v0 b) -> t = 0 := by
      intro t ht;obtain ⟨t', w, ht', hw, hv⟩ := hI.cb;by_cases h0 : t = 0
      · exact h0
      · exfalso;have hin : Sp n E0 (fun b => t * az R n b) := ((ht.smul t').add (hw.smul t)).congr (fun b => by
         rw [hv, Int.mul_add, <- Int.mul_assoc, <- Int.mul_assoc, Int.mul_comm t' t])
        obtain ⟨k, hk, hlk, _⟩ := hH0.lead hin (q := j) (fun e => by
         rcases Int.mul_eq_zero.1 e with e | e
         · exact h0 e
         · exact hvj e) (fun b hb => by
           show t * az R n b = 0;rw [hle.2.1 b hb, Int.mul_zero])
        by_cases hka : k < a
        · have := hlo k hka; omega
        · have := hhi k (by omega) hk; omega
     obtain ⟨R', h1, h2⟩ := n7 (B := B) (δ := δ) (n := n + 1) hs2 (by omega) hE2 hb2 (by omega) (fun E' hE' hsp => hS hind E' _ hE' (hI.sp.trans (hsp1.trans (hsp2.trans hsp))));refine ⟨true, R', .stop hFit (by rw [hj]; exact hjc) (by rw [hj]; exact hlast) a (by omega) han (fun i h3 h4 => ?_) ?_ ?_ ?_, h2.sh, h2.len.trans (hl2.trans hI.len), fun x hx b => ?_, fun h => (by cases h), fun _ => ⟨⟨_, h2.herm⟩, hI.sp.trans (hsp1.trans (hsp2.trans h2.sp)), hind⟩⟩
     · rw [hj, hlead i (by omega)]; exact hlo i h4
     · rcases Nat.lt_or_eq_of_le han with h | h
       · refine .inr ?_;rw [hj, hlead a h]; exact hhi a (Nat.le_refl _) h
       · exact .inl h
     · rw [hR1, hR2]; exact Fit.of hs2 (fun a b => gO (hb2 a b) huB)
     · rw [hR1, hR2]; exact h1
     · rw [h2.same x (by omega), hsw, if_neg (by omega), if_neg (by omega), if_neg (by omega), hR1e x (by omega)];exact hI.oth x hx b
theorem xb {c n δ B U : Nat} {l : Nat -> Nat} {E0 : Nat -> Nat -> Int} {v0 : Nat -> Int} {Ro : List Hd} (hn : n < Ro.length) (hH0 : Ech n c E0 l) (hδ : ∀ a, a < n -> ∀ b, (E0 a b).natAbs < W ^ δ) (hUB : U + (n + 1) * δ <= B)
 (hZ : ∀ E' l', du n c E' l' -> aO (n + 1) (az Ro) n E' -> ∀ i, i < n -> ∀ j, (E' i j).natAbs < W ^ δ)
 (hS : (∀ s : Int, Sp n E0 (fun j => s * v0 j) -> s = 0) -> ∀ E' l', du (n + 1) c E' l' -> aO (n + 1) (az Ro) (n + 1) E' -> ∀ i, i < n + 1 -> ∀ j, (E' i j).natAbs < W ^ δ) :
 ∀ (f s u at_ : Nat) (last : Int) (R : List Hd), n - s <= f -> PI c n δ u s l last E0 v0 Ro R -> at_ <= s -> u + (n - s) * (2 * δ + 1) <= U -> ∃ b R', nA B c n at_ last R b R' /\ uQ c n E0 v0 Ro b R' := by
 intro f;induction f with
 | zero =>
  intro s u at_ last R hf hI hat hu;exact kk hn hH0 hδ hUB hZ hS s u at_ last R hI hat hu (fun a ha1 ha2 => by omega)
 | succ f ih =>
  intro s u at_ last R hf hI hat hu;refine kk hn hH0 hδ hUB hZ hS s u at_ last R hI hat hu (fun a ha1 ha2 R1 u1 hI1 hu1 => ?_);exact ih (a + 1) u1 a (l a) R1 (by omega) hI1 (by omega) hu1
/-! Reduce. -/
def gI (N m : Nat) : Nat := 2 * (m + 1) * N + 1
theorem jr {n N m : Nat} (hn : n <= N) (hN : N <= 1048576) : rY n (W ^ m) < W ^ gI N m := by
 unfold rY gI;rcases Nat.eq_zero_or_pos n with h | h
 · subst h; simp; exact gx _
 · have h1 : 2 * n * W ^ m + 1 <= W ^ (m + 1) := by
    rw [Nat.pow_succ, Nat.mul_comm (W ^ m)];have h2 : (2 * n + 1) * W ^ m <= W * W ^ m := Nat.mul_le_mul_right _ (by unfold W; omega);have h3 : (2 * n + 1) * W ^ m = 2 * n * W ^ m + W ^ m := by rw [Nat.add_mul, Nat.one_mul]
    have := gx m;omega
   have h2 : (2 * n * W ^ m + 1) ^ (n - 1) <= W ^ ((m + 1) * (n - 1)) := by
    rw [Nat.pow_mul]; exact Nat.pow_le_pow_left h1 _
   have h3 : n * ((2 * n * W ^ m + 1) ^ (n - 1) * W ^ m) <= W ^ ((m + 1) * n) := by
    have h4 : (2 * n * W ^ m + 1) ^ (n - 1) * W ^ m <= W ^ ((m + 1) * (n - 1)) * W ^ m := Nat.mul_le_mul_right _ h2;have h5 : n * ((2 * n * W ^ m + 1) ^ (n - 1) * W ^ m) <= W * (W ^ ((m + 1) * (n - 1)) * W ^ m) := Nat.mul_le_mul (by unfold W; omega) h4;refine Nat.le_trans h5 ?_;have e : W * (W ^ ((m + 1) * (n - 1)) * W ^ m) = W ^ ((m + 1) * (n - 1) + m + 1) := by
     rw [<- Nat.pow_add, Nat.mul_comm W, <- Nat.pow_succ]
    rw [e];have e2 : (m + 1) * (n - 1) + m + 1 = (m + 1) * n := by
     have : n = n - 1 + 1 := by omega
     rw [Nat.add_assoc]
     conv => rhs; rw [this, Nat.mul_add, Nat.mul_one]
    rw [e2]; exact Nat.le_refl _
   obtain ⟨D, hD⟩ : ∃ D, n * ((2 * n * W ^ m + 1) ^ (n - 1) * W ^ m) = D := ⟨_, rfl⟩;rw [hD] at h3 ⊢;have h6 : D * D <= W ^ (2 * (m + 1) * n) := by
    have := Nat.mul_le_mul h3 h3;rw [<- Nat.pow_add] at this;have e : (m + 1) * n + (m + 1) * n = 2 * (m + 1) * n := by rw [Nat.mul_assoc]; omega
    rwa [e] at this
   have h7 : n * D * D < W * W ^ (2 * (m + 1) * n) := by
    rw [Nat.mul_assoc];refine Nat.lt_of_le_of_lt (Nat.mul_le_mul_left n h6) ?_;exact Nat.mul_lt_mul_of_pos_right (by unfold W; omega) (gx _)
   refine Nat.lt_of_lt_of_le h7 ?_;rw [Nat.mul_comm W, <- Nat.pow_succ];refine vj ?_;have : 2 * (m + 1) * n <= 2 * (m + 1) * N := Nat.mul_le_mul_left _ hn;omega
def tD (N m : Nat) : Nat := gI N m + N * (2 * gI N m + 1) + (N + 1) * gI N m
theorem pa.snoc {n : Nat} {a E0 : Nat -> Nat -> Int} {v : Nat -> Int} (h : pa n a) (ha : ∀ k, k < n -> Sp n E0 (a k)) (hv : ∀ s : Int, Sp n E0 (fun j => s * v j) -> s = 0) : pa (n + 1) (fun k => if k < n then a k else v) := by
 intro x hx k hk;have e : ∀ j, sm n (fun k => x k * a k j) + x n * v j = 0 := fun j => by
  have := hx j;unfold sm at this;rw [aj (g := fun k => x k * a k j) (fun k hk => by simp [hk])] at this;simpa using this
 have h0 : x n = 0 := by
  refine hv _ (((Sp.sm (x := fun k => - x k) ha)).congr (fun j => ?_));have h1 := e j;have h2 : sm n (fun k => - x k * a k j) = - sm n (fun k => x k * a k j) := by
   have := bC n (-1) (fun k => x k * a k j);rw [Int.neg_one_mul] at this;rw [<- this]; exact aj (fun k _ => by rw [Int.neg_mul, Int.neg_one_mul])
  rw [h2]; omega
 by_cases hkn : k = n
 · subst hkn; exact h0
 · refine h x (fun j => ?_) k (by omega);have := e j;rw [h0] at this; simpa using this
theorem pT : ∀ (k i : Nat) (R : List Hd), i + k < R.length -> ∀ a b, az (oH k i R) a b = if a < i then az R a b else if a < i + k then az R (a + 1) b else if a = i + k then az R i b else az R a b
 | 0, i, R, h, a, b => by
  unfold oH;by_cases h1 : a < i
  · rw [if_pos h1]
  · rw [if_neg h1, if_neg (by omega)];by_cases h2 : a = i + 0
    · rw [if_pos h2]; subst h2; rfl
    · rw [if_neg h2]
 | k + 1, i, R, h, a, b => by
  unfold oH;rw [pT k (i + 1) _ (by rw [cI]; omega)];have hsw := fun x => mB (R := R) (i := i) (j := i + 1) (by omega) (by omega) x b;rw [hsw, hsw, hsw];by_cases h1 : a < i
  · rw [if_pos (by omega), if_pos h1];unfold swp; rw [if_neg (by omega), if_neg (by omega)]
  · rw [if_neg h1];by_cases h2 : a = i
    · rw [if_pos (by omega), if_pos (by omega)];unfold swp; rw [if_neg (by omega), if_pos h2, h2]
    · rw [if_neg (by omega)];by_cases h3 : a < i + (k + 1)
      · rw [if_pos (by omega), if_pos h3];unfold swp; rw [if_neg (by omega), if_neg (by omega)]
      · rw [if_neg (by omega), if_neg h3];by_cases h4 : a = i + (k + 1)
        · rw [if_pos (by omega), if_pos h4];unfold swp; rw [if_pos rfl]
        · rw [if_neg (by omega), if_neg h4];unfold swp; rw [if_neg (by omega), if_neg (by omega)]
theorem v7 {c : Nat} : ∀ (k i : Nat) (R : List Hd), Sh c R -> Sh c (oH k i R)
 | 0, i, R, h => h
 | k + 1, i, R, h => v7 k (i + 1) _ (h.uv _ _)
theorem kh : ∀ (k i : Nat) (R : List Hd), (oH k i R).length = R.length
 | 0, i, R => rfl
 | k + 1, i, R => (kh k (i + 1) _).trans (cI ..)
theorem du.congr {n c : Nat} {E F : Nat -> Nat -> Int} {l : Nat -> Nat} (h : du n c E l) (e : ∀ a, a < n -> ∀ b, F a b = E a b) : du n c F l :=
 ⟨h.toEch.congr e, fun i k hik hk => by rw [e i (by omega), e k hk]; exact h.red i k hik hk⟩
structure RI (c m : Nat) (Ro : List Hd) (d e : Nat) (R : List Hd) : Prop where
 sh : Sh c R
 len : R.length = Ro.length
 de : d <= e
 el : e <= Ro.length
 herm : ∃ l, du d c (az R) l
 raw : ∀ i, d <= i -> i < e -> ∀ b, (az R i b).natAbs < W ^ m
 zero : ∀ i, e <= i -> ∀ b, az R i b = 0
 sp : aO Ro.length (az Ro) e (az R)
 ind : ∃ a : Nat -> Nat -> Int, (∀ k, k < d -> Sp d (az R) (a k)) /\ pa d a /\ ∀ k b, k < d -> (a k b).natAbs <= W ^ m
structure rS (c D : Nat) (Ro : List Hd) (k : Nat) (R' : List Hd) : Prop where
 sh : Sh c R'
 len : R'.length = Ro.length
 kl : k <= Ro.length
 herm : ∃ l, du k c (az R') l
 zero : ∀ i, k <= i -> ∀ b, az R' i b = 0
 sp : aO Ro.length (az Ro) k (az R')
 bd : ∀ i b, (az R' i b).natAbs < W ^ D
theorem RI.done {c m N d : Nat} {Ro R : List Hd} (hI : RI c m Ro d d R) (hN : Ro.length <= N) (hN1 : N <= 1048576) : rS c (gI N m) Ro d R := by
 refine ⟨hI.sh, hI.len, hI.el, hI.herm, hI.zero, hI.sp, fun i b => ?_⟩;obtain ⟨l, hH⟩ := hI.herm;obtain ⟨a, ha1, ha2, ha3⟩ := hI.ind;by_cases h : i < d
 · exact Nat.lt_of_le_of_lt (hH.bound ha1 ha2 (fun k j hk => ha3 k j hk) i b h) (jr (by have := hI.el; omega) hN1)
 · rw [hI.zero i (by omega)]; simpa using gx _
theorem qO {c m N B : Nat} {Ro : List Hd} (hN : Ro.length <= N) (hN1 : N <= 1048576) (hB : tD N m <= B) : ∀ (f d e : Nat) (R : List Hd), e - d <= f -> RI c m Ro d e R -> ∃ k R', re B c d e R k R' /\ rS c (gI N m) Ro k R'
 | 0, d, e, R, hf, hI => by
  have : d = e := by have := hI.de; omega
  subst this;exact ⟨d, R, .fin (Nat.le_refl _), hI.done hN hN1⟩
 | f + 1, d, e, R, hf, hI => by
  by_cases hde : d < e
  · obtain ⟨δ, hδ⟩ : ∃ δ, gI N m = δ := ⟨_, rfl⟩;unfold tD at hB;rw [hδ] at hB;obtain ⟨l, hH⟩ := hI.herm;obtain ⟨a, ha1, ha2, ha3⟩ := hI.ind;have hdl : d < Ro.length := by have := hI.el; omega
    have hmδ : m <= δ := by
     have h1 : (m + 1) * 1 <= (m + 1) * (2 * N) := Nat.mul_le_mul_left _ (by omega);rw [<- hδ]; unfold gI;have h2 : 2 * (m + 1) * N = (m + 1) * (2 * N) := by rw [Nat.mul_comm 2, Nat.mul_assoc]
     omega
    have hbnd : ∀ i, i < d -> ∀ b, (az R i b).natAbs < W ^ δ := fun i hi b => by
     have := hH.bound ha1 ha2 (fun k j hk => ha3 k j hk) i b hi;exact Nat.lt_of_le_of_lt this (hδ ▸ jr (by omega) hN1)
    have hall : ∀ x b, (az R x b).natAbs < W ^ δ := fun x b => by
     by_cases h1 : x < d
     · exact hbnd x h1 b
     · by_cases h2 : x < e
       · exact gO (hI.raw x (by omega) h2 b) hmδ
       · rw [hI.zero x (by omega)]; simpa using gx δ
    have hsub : ∀ {M : Nat} {E' : Nat -> Nat -> Int}, aO (d + 1) (az R) M E' -> ∀ k, k < d -> Sp M E' (a k) := fun hsp k hk =>
     (ha1 k hk).trans (fun i hi => hsp.1 i (by omega))
    have hZ : ∀ E' l', du d c E' l' -> aO (d + 1) (az R) d E' -> ∀ i, i < d -> ∀ j, (E' i j).natAbs < W ^ δ := fun E' l' hE' hsp i hi j =>
     Nat.lt_of_le_of_lt (hE'.bound (hsub hsp) ha2 (fun k j hk => ha3 k j hk) i j hi) (hδ ▸ jr (by omega) hN1)
    have hS : (∀ s : Int, Sp d (az R) (fun j => s * az R d j) -> s = 0) -> ∀ E' l', du (d + 1) c E' l' -> aO (d + 1) (az R) (d + 1) E' -> ∀ i, i < d + 1 -> ∀ j, (E' i j).natAbs < W ^ δ := fun hv E' l' hE' hsp i hi j => by
     have hb := hE'.bound (a := fun k => if k < d then a k else az R d) (M := W ^ m) (fun k hk => by
      by_cases h : k < d
      · simp only [if_pos h]; exact hsub hsp k h
      · simp only [if_neg h]; exact hsp.1 d (by omega)) (ha2.snoc ha1 hv) (fun k j hk => by
      by_cases h : k < d
      · simp only [if_pos h]; exact ha3 k j h
      · simp only [if_neg h]; exact Nat.le_of_lt (hI.raw d (Nat.le_refl _) hde j)) i j hi
     exact Nat.lt_of_le_of_lt hb (hδ ▸ jr (by omega) hN1)
    have hmulN : (d - 0) * (2 * δ + 1) <= N * (2 * δ + 1) := Nat.mul_le_mul_right _ (by omega);have hmulN2 : (d + 1) * δ <= (N + 1) * δ := Nat.mul_le_mul_right _ (by omega);obtain ⟨b, R1, hput, hok⟩ := xb (δ := δ) (B := B) (U := δ + N * (2 * δ + 1)) (v0 := az R d) (by rw [hI.len]; exact hdl : d < R.length) hH.toEch hbnd (by omega) hZ hS d 0 δ 0 (-1) R (by omega)
     ⟨hI.sh, rfl, hH.toEch, Nat.zero_le _, fun i hi => by omega, fun i _ _ => by omega, fun i _ _ _ => rfl, fun b hb => by omega, hall, ⟨1, fun _ => 0, by omega, Sp.zero _ _, fun b => by simp⟩, aO.refl _ _, fun _ _ _ => rfl⟩ (Nat.le_refl _) (by omega)
    cases b
    · obtain ⟨⟨l', hH'⟩, hz, hsp⟩ := hok.no rfl;have hl1 : R1.length = R.length := hok.len;have hrot := pT (e - 1 - d) d R1 (by rw [hl1, hI.len]; have := hI.el; omega);have e1 : d + (e - 1 - d) = e - 1 := by omega
      rw [e1] at hrot;obtain ⟨R2, hR2⟩ : ∃ R2, oH (e - 1 - d) d R1 = R2 := ⟨_, rfl⟩;have hlo : ∀ i, i < d -> ∀ b, az R2 i b = az R1 i b := fun i hi b => by rw [<- hR2, hrot, if_pos hi]
      have hmid : ∀ i, d <= i -> i < e - 1 -> ∀ b, az R2 i b = az R (i + 1) b := fun i h1 h2 b => by
       rw [<- hR2, hrot, if_neg (by omega), if_pos h2, hok.oth (i + 1) (by omega)]
      have hsp2 : aO Ro.length (az Ro) (e - 1) (az R2) := by
       refine hI.sp.trans ⟨fun k hk => ?_, fun k hk => ?_⟩
       · by_cases h1 : k <= d
         · refine (hsp.1 k (by omega)).trans (fun i hi => ?_);exact (Sp.row (az R2) (by omega : i < e - 1)).congr (fun b => (hlo i hi b).symm)
         · refine (Sp.row (az R2) (by omega : k - 1 < e - 1)).congr (fun b => ?_);rw [hmid (k - 1) (by omega) (by omega)]; congr 1; omega
       · by_cases h1 : k < d
         · refine ((hsp.2 k h1).congr (hlo k h1)).trans (fun i hi => Sp.row _ (by omega))
         · exact (Sp.row (az R) (by omega : k + 1 < e)).congr (hmid k (by omega) hk)
      have hRI : RI c m Ro d (e - 1) R2 := by
       refine ⟨hR2 ▸ v7 _ _ _ hok.sh, by rw [<- hR2, kh, hl1, hI.len], by omega, by have := hI.el; omega, ⟨l', hH'.congr hlo⟩, fun i h3 h4 b => ?_, fun i h3 b => ?_, hsp2, ⟨a, fun k hk => ?_, ha2, ha3⟩⟩
       · rw [hmid i h3 h4]; exact hI.raw (i + 1) (by omega) (by omega) b
       · rw [<- hR2, hrot, if_neg (by omega), if_neg (by omega)];by_cases h4 : i = e - 1
         · rw [if_pos h4]; exact hz b
         · rw [if_neg h4, hok.oth i (by omega)]; exact hI.zero i (by omega) b
       · refine (hsub hsp k hk).trans (fun i hi => ?_);exact (Sp.row (az R2) hi).congr (fun b => (hlo i hi b).symm)
      obtain ⟨k, R', h1, h2⟩ := qO hN hN1 (by unfold tD; rw [hδ]; exact hB) f d (e - 1) R2 (by omega) hRI;exact ⟨k, R', .zero hde hput (by rw [hR2]; exact h1), h2⟩
    · obtain ⟨⟨l', hH'⟩, hsp, hv⟩ := hok.yes rfl;have hl1 : R1.length = R.length := hok.len;have hsp2 : aO Ro.length (az Ro) e (az R1) := by
       refine hI.sp.trans ⟨fun k hk => ?_, fun k hk => ?_⟩
       · by_cases h1 : k < d + 1
         · exact (hsp.1 k h1).trans (fun i hi => Sp.row _ (by omega))
         · exact (Sp.row (az R1) hk).congr (fun b => (hok.oth k (by omega) b).symm)
       · by_cases h1 : k < d + 1
         · exact (hsp.2 k h1).trans (fun i hi => Sp.row _ (by omega))
         · exact (Sp.row (az R) hk).congr (fun b => hok.oth k (by omega) b)
      have hRI : RI c m Ro (d + 1) e R1 := by
       refine ⟨hok.sh, hl1.trans hI.len, by omega, hI.el, ⟨l', hH'⟩, fun i h3 h4 b => ?_, fun i h3 b => ?_, hsp2, ⟨fun k => if k < d then a k else az R d, fun k hk => ?_, ha2.snoc ha1 hv, fun k b hk => ?_⟩⟩
       · rw [hok.oth i (by omega)]; exact hI.raw i (by omega) h4 b
       · rw [hok.oth i (by omega)]; exact hI.zero i h3 b
       · by_cases h : k < d
         · simp only [if_pos h]; exact hsub hsp k h
         · simp only [if_neg h]; exact hsp.1 d (by omega)
       · by_cases h : k < d
         · simp only [if_pos h]; exact ha3 k b h
         · simp only [if_neg h]; exact Nat.le_of_lt (hI.raw d (Nat.le_refl _) hde b)
      obtain ⟨k, R', h1, h2⟩ := qO hN hN1 (by unfold tD; rw [hδ]; exact hB) f (d + 1) e R1 (by omega) hRI;exact ⟨k, R', .ok hde hput h1, h2⟩
  · have : d = e := by have := hI.de; omega
    subst this;exact ⟨d, R, .fin (Nat.le_refl _), hI.done hN hN1⟩
theorem tG {c m N B : Nat} {Ro : List Hd} (hs : Sh c Ro) (hm : ∀ i b, (az Ro i b).natAbs < W ^ m) (hN : Ro.length <= N) (hN1 : N <= 1048576) (hB : tD N m <= B) : ∃ k R', re B c 0 Ro.length Ro k R' /\ rS c (gI N m) Ro k R' :=
 qO hN hN1 hB Ro.length 0 Ro.length Ro (by omega)
  ⟨hs, rfl, Nat.zero_le _, Nat.le_refl _, ⟨fun _ => 0, ⟨fun i k _ h => by omega, fun i h => by omega, fun i h => by omega, fun i h => by omega⟩, fun i k _ h => by omega⟩, fun i _ _ b => hm i b, fun i hi b => ej hi b, aO.refl _ _, ⟨fun _ _ => 0, fun k h => by omega, fun x _ k h => by omega, fun k b h => by omega⟩⟩
end Go.Proofs.Ytjjlmfmoihooiaa
namespace Go.Proofs.Ytjjlmfmoihooiaa
open Go.RowKit
structure eF (B : Nat) (S : Nat -> Prop) (w w' : World) : Prop where
 os : w'.os = w.os
 tape : w'.tape = w.tape
 output : w'.output = w.output
 size : w.heap.size <= w'.heap.size
 block : ∀ k, k < B -> ¬ S k -> w'.heap[k]? = w.heap[k]?
theorem eF.trans {B : Nat} {S : Nat -> Prop} {a b c : World} (h : eF B S a b) (k : eF B S b c) : eF B S a c :=
 ⟨k.os.trans h.os, k.tape.trans h.tape, k.output.trans h.output, Nat.le_trans h.size k.size, fun i hi hs => (k.block i hi hs).trans (h.block i hi hs)⟩
theorem eF.putObj {B : Nat} {S : Nat -> Prop} (w : World) {l : Nat} (o : Obj) (hl : B <= l) : eF B S w (w.putObj l o) :=
 ⟨rfl, rfl, rfl, by simp, fun k hk _ => World.putObj_heap_other (by omega)⟩
theorem eF.cP {B : Nat} {S : Nat -> Prop} {w w' : World} (h : Below B w w') : eF B S w w' := ⟨h.os, h.tape, h.output, h.size, fun k hk _ => h.block k hk⟩
def vq {α : Type} (B : Nat) (S : Nat -> Prop) (I : List α -> World -> Prop) (xs : List α) (W : World) : Exit -> Act -> World -> Prop
 | .normal, _, W' => KeepsOthers W W' /\ eF B S W W' /\ I xs W'
 | _, _, _ => False
attribute [local go_sem] Oper.semAt_some
abbrev NR := Nat × Hd
def NR.enc (x : NR) : Array Value := #[.int .i64 (x.1 : Int), .slice (some ⟨x.2.blk, 0, none⟩) x.2.xs.length x.2.cap]
def y7 (B : Nat) (pre : List NR) (x : NR) (W : World) : Prop := bM W x.2.blk x.2.xs /\ B <= x.2.blk /\ ∀ y ∈ pre, y.2.blk ≠ x.2.blk
def xZ (r c : Nat) (xs : List Int) (zs : List NR) : Prop := zs.length = r /\ ∀ k (h : k < zs.length), zs[k] = (k, ⟨(zs[k]).2.blk, c, rowOf xs c k⟩)
theorem aI.piece {w : World} {b : Nat} {xs : List Int} (h : bM w b xs) (L : Nat) (hL : ∀ x ∈ xs, ag x.natAbs <= L) (k c : Nat) : aI w L (some ⟨b, k * c * 2, none⟩) (rowOf xs c k) := by
 intro hp;refine ⟨b, k * c * 2, rfl, h.lt, fun i hi => ?_⟩;have h0 : i < c := by simp [rowOf] at hi; omega
 have h1 : k * c + i < xs.length := by simp [rowOf] at hi; omega
 obtain ⟨p, h2, h3, h4⟩ := h.get h1;have e : (k * c + i) * 2 = k * c * 2 + i * 2 := by omega
 rw [e] at h2 h3;refine ⟨p, h2, h3, ?_⟩;have e2 : (rowOf xs c k)[i] = xs[k * c + i] := by simp [rowOf]
 rw [e2];exact h4.int (hL _ (List.getElem_mem _))
set_option maxRecDepth 100000 in
set_option maxHeartbeats 4000000 in
theorem nU (n g b r c : Nat) (xs : List Int) (w : World) (S : Nat -> Prop) (hS : fL S w) (hg : ah w g 24 [.int .i64 (r : Int), .int .i64 (c : Int), .slice (some ⟨b, 0, none⟩) xs.length xs.length]) (hgS : ¬ S g) (hb : bM w b xs) (hbS : ¬ S b) (hl : xs.length = r * c) (hr : r <= 100000) (hc : c <= 100000)
 (hL : ∀ x ∈ xs, ag x.natAbs <= 17592186044415)
 (l : Nat) (J : List NR -> World -> Prop) (W : World) (hW : Below w.heap.size w W) (hJ : ∀ s A B, J s A -> Below A.heap.size A B -> J s B)
 (hY : ∀ pre x Wp W1, J pre Wp -> Below Wp.heap.size Wp W1 -> Wp.heap.size <= x.2.blk -> y7 w.heap.size pre x W1 -> x = (pre.length, ⟨x.2.blk, c, rowOf xs c pre.length⟩) -> pre.length < r -> YieldAt Fence.wide (n - 1) Try.prog l (NR.enc x) W1 fun e W' => e = .returned (.bool true) /\ J (pre ++ [x]) W' /\ eF w.heap.size S W1 W')
 (h0 : J [] W) (hn : 1 <= n) :
 CallsIn Fence.wide n Try.prog 55 (#[.func (.yield l) #[] #[]] ++ #[.pointer (some ⟨g, 0, none⟩)]) W fun e W' => (∃ v, e = .returned v) /\ ∃ zs, xZ r c xs zs /\ J zs W' := by
 have HG := Lib.hid hg; clear hg;have HB := Lib.hid hb; clear hb;have HL := Lib.hid hl; clear hl;have HW := Lib.hid hW; clear hW;have HY := Lib.hid hY; clear hY;have HWL := Lib.hid hS; clear hS;have g0 := (HG.out.below HW.out HG.out.lt).cell 0;refine callsIn_of_wp Try.func55 rfl trivial ?_ rfl;simp only [Try.ntmps55, List.size_toArray, List.length_cons, List.length_nil, Nat.reduceAdd, Nat.reduceSub, Array.replicate_succ, Array.replicate_zero, List.push_toArray, List.append_toArray, List.nil_append, List.cons_append];simp only [List.getElem?_cons_zero] at g0
 gi_wp2
 clear g0
 gi_loopw [6] (fun i wr => ∃ (k : Nat) (zs : List NR), k <= r /\ i = .int .i64 (k : Int) /\ Hid (zs.length = k /\ (∀ j (h : j < zs.length), zs[j] = (j, ⟨(zs[j]).2.blk, c, rowOf xs c j⟩)) /\ (∀ y ∈ zs, y.2.blk < wr.heap.size) /\ J zs wr /\ bZ S w wr))
  (fun i _ => r - (intOf i).toNat)
 case atStart => exact ⟨0, [], Nat.zero_le _, rfl, Lib.hid ⟨rfl, fun j h => absurd h (by simp), fun y h => absurd h (by simp), h0, bZ.cP HW.out⟩⟩
 case round =>
  obtain ⟨k, zs, hk, rfl, HI⟩ := hrel;by_cases hlt : k < r
  · have hlt' : (k : Int) < (r : Int) := by omega
    have g0 := (HI.out.2.2.2.2.row HG.out hgS).cell 0;have g1 := (HI.out.2.2.2.2.row HG.out hgS).cell 1;have g2 := (HI.out.2.2.2.2.row HG.out hgS).cell 2;simp only [List.getElem?_cons_zero, List.getElem?_cons_succ] at g0 g1 g2;obtain ⟨q, hq⟩ : ∃ q, k * c = q := ⟨_, rfl⟩;have hq2 : (k + 1) * c = q + c := by rw [Nat.succ_mul, hq]
    have hq3 : q + c <= xs.length := by rw [<- hq2, HL.out]; exact Nat.mul_le_mul_right _ hlt
    have hxl : xs.length <= 10000000000 := by rw [HL.out]; exact Nat.mul_le_mul hr hc
    have hw1 : wrap64 ((k : Int) * (c : Int)) = (q : Int) := by
     rw [<- Int.natCast_mul, hq]; unfold wrap64; omega
    have hw2 : wrap64 (((k : Int) + 1) * (c : Int)) = (q : Int) + (c : Int) := by
     have : ((k : Int) + 1) * (c : Int) = ((q + c : Nat) : Int) := by rw [<- hq2]; push_cast; rfl
     rw [this]; push_cast; unfold wrap64; omega
    have hpc : aI wr 17592186044415 (some ⟨b, q * 2, none⟩) (rowOf xs c k) := by
     rw [<- hq]; exact aI.piece (HI.out.2.2.2.2.rowN HWL.out HB.out hbS) _ hL k c
    have hrl : (rowOf xs c k).length = c := dt HL.out hlt;have HP := Lib.hid hpc; clear hpc;have HQ := Lib.hid hq; clear hq;have HQ2 := Lib.hid hq2; clear hq2;have hle1 : (q : Int) + (c : Int) <= (xs.length : Int) := by omega
    have hle2 : (q : Int) <= (q : Int) + (c : Int) := by omega
    have hcap : xs.length - q ≠ 0 ∨ c = 0 := by omega
    gi_wp2_with fail
    · refine ⟨trivial, ?_⟩;have hE := gW (some ⟨b, 0, none⟩) 0 (rowOf xs c k) wr (fun h => by rw [hrl] at h; omega) (by rw [hrl]; omega);rw [hrl] at hE;refine (callsIn_wide.2 hE).mono ?_;rintro e w3 ⟨⟨bn, rfl, hbn, hrow⟩, hb3⟩;have hs3 := hb3.size;have hJ3 : J zs w3 := hJ _ _ _ HI.out.2.2.2.1 hb3;have hlt3 : bn < w3.heap.size := hrow.lt;obtain ⟨fn, tmps, assign, body, hy, hR⟩ := HY.out zs (k, ⟨bn, c, rowOf xs c k⟩) wr w3 HI.out.2.2.2.1 hb3 hbn ⟨hrow, by have := HI.out.2.2.2.2.size; show w.heap.size <= bn; omega, fun y hy => by have := HI.out.2.2.1 y hy; show y.2.blk ≠ bn; omega⟩ (by rw [HI.out.1]) (by rw [HI.out.1]; exact hlt);simp only [NR.enc] at hy;rw [hrl] at hy;have HI3 : Hid (bZ S w w3) := Lib.hid (HI.out.2.2.2.2.below hb3);have HZ := Lib.hid (And.intro HI.out.1 (And.intro HI.out.2.1 HI.out.2.2.1));have HB3 := Lib.hid hb3;clear hb3 HI HP hrow hJ3 g0 g1 g2
      gi_wp2
      refine hR.mono ?_;rintro e W' ⟨rfl, hJ', hk'⟩;have HJ' := Lib.hid hJ';have HK' := Lib.hid hk';clear hJ' hk' hy hR
      gi_wp2
      go_roundw
      case rel =>
       refine ⟨k + 1, zs ++ [(k, ⟨bn, c, rowOf xs c k⟩)], by omega, by go_num, Lib.hid ⟨by simp [HZ.out.1], fun j hj => ?_, fun y hy => ?_, HJ'.out, ?_⟩⟩
       · by_cases hjk : j < zs.length
         · rw [List.getElem_append_left hjk];exact HZ.out.2.1 j hjk
         · have hjl : j = zs.length := by simp at hj; omega
           subst hjl;simp [HZ.out.1]
       · have hsz := HK'.out.size;rcases List.mem_append.1 hy with hy | hy
         · have := HZ.out.2.2 y hy; have := HB3.out.size; omega
         · simp only [List.mem_singleton] at hy; subst hy; show bn < _; omega
       · exact ⟨HK'.out.os.trans HI3.out.os, HK'.out.tape.trans HI3.out.tape, HK'.out.output.trans HI3.out.output, Nat.le_trans HI3.out.size HK'.out.size, fun i hi hs => (HK'.out.block i hi hs).trans (HI3.out.block i hi hs)⟩
      case measure => simp [intOf]; omega
    · refine ⟨trivial, ?_⟩;have hE := gW (some ⟨b, q * 2, none⟩) (xs.length - q) (rowOf xs c k) wr HP.out (by rw [hrl]; omega);rw [hrl] at hE;refine (callsIn_wide.2 hE).mono ?_;rintro e w3 ⟨⟨bn, rfl, hbn, hrow⟩, hb3⟩;have hs3 := hb3.size;have hJ3 : J zs w3 := hJ _ _ _ HI.out.2.2.2.1 hb3;have hlt3 : bn < w3.heap.size := hrow.lt;obtain ⟨fn, tmps, assign, body, hy, hR⟩ := HY.out zs (k, ⟨bn, c, rowOf xs c k⟩) wr w3 HI.out.2.2.2.1 hb3 hbn ⟨hrow, by have := HI.out.2.2.2.2.size; show w.heap.size <= bn; omega, fun y hy => by have := HI.out.2.2.1 y hy; show y.2.blk ≠ bn; omega⟩ (by rw [HI.out.1]) (by rw [HI.out.1]; exact hlt);simp only [NR.enc] at hy;rw [hrl] at hy;have HI3 : Hid (bZ S w w3) := Lib.hid (HI.out.2.2.2.2.below hb3);have HZ := Lib.hid (And.intro HI.out.1 (And.intro HI.out.2.1 HI.out.2.2.1));have HB3 := Lib.hid hb3;clear hb3 HI HP hrow hJ3 g0 g1 g2
      gi_wp2
      refine hR.mono ?_;rintro e W' ⟨rfl, hJ', hk'⟩;have HJ' := Lib.hid hJ';have HK' := Lib.hid hk';clear hJ' hk' hy hR
      gi_wp2
      go_roundw
      case rel =>
       refine ⟨k + 1, zs ++ [(k, ⟨bn, c, rowOf xs c k⟩)], by omega, by go_num, Lib.hid ⟨by simp [HZ.out.1], fun j hj => ?_, fun y hy => ?_, HJ'.out, ?_⟩⟩
       · by_cases hjk : j < zs.length
         · rw [List.getElem_append_left hjk];exact HZ.out.2.1 j hjk
         · have hjl : j = zs.length := by simp at hj; omega
           subst hjl;simp [HZ.out.1]
       · have hsz := HK'.out.size;rcases List.mem_append.1 hy with hy | hy
         · have := HZ.out.2.2 y hy; have := HB3.out.size; omega
         · simp only [List.mem_singleton] at hy; subst hy; show bn < _; omega
       · exact ⟨HK'.out.os.trans HI3.out.os, HK'.out.tape.trans HI3.out.tape, HK'.out.output.trans HI3.out.output, Nat.le_trans HI3.out.size HK'.out.size, fun i hi hs => (HK'.out.block i hi hs).trans (HI3.out.block i hi hs)⟩
      case measure => simp [intOf]; omega
  · obtain rfl : k = r := by omega
    gi_wp2
    go_end0
    exact ⟨⟨_, rfl⟩, zs, ⟨HI.out.1, HI.out.2.1⟩, HI.out.2.2.2.1⟩
end Go.Proofs.Ytjjlmfmoihooiaa
namespace Go.Proofs.Ytjjlmfmoihooiaa
def ai (xs : List Int) (r c i j : Nat) : Int := if i < r /\ j < c then xs.getD (i * c + j) 0 else 0
theorem bQ {r c i j : Nat} (hi : i < r) (hj : j < c) : i * c + j < r * c := by
 have h1 : (i + 1) * c <= r * c := Nat.mul_le_mul_right _ hi;have h2 : (i + 1) * c = i * c + c := Nat.succ_mul i c;omega
theorem uh {r c n : Nat} (h : n < r * c) : ∃ i j, i < r /\ j < c /\ n = i * c + j := by
 have hc : 0 < c := by
  rcases Nat.eq_zero_or_pos c with h0 | h0
  · subst h0; simp at h
  · exact h0
 exact ⟨n / c, n % c, (Nat.div_lt_iff_lt_mul hc).2 h, Nat.mod_lt _ hc, by have := Nat.div_add_mod n c; rw [Nat.mul_comm] at this; omega⟩
theorem aM {xs : List Int} {r c i j : Nat} (hi : i < r) (hj : j < c) : ai xs r c i j = xs.getD (i * c + j) 0 := by
 unfold ai; rw [if_pos ⟨hi, hj⟩]
theorem jk {xs : List Int} {r c i : Nat} (hi : r <= i) (j : Nat) : ai xs r c i j = 0 := by
 unfold ai; rw [if_neg (by omega)]
theorem dQ {xs : List Int} {r c j : Nat} (i : Nat) (hj : c <= j) : ai xs r c i j = 0 := by
 unfold ai; rw [if_neg (by omega)]
theorem uB {xs ys : List Int} {r c : Nat} (hx : xs.length = r * c) (hy : ys.length = r * c) (h : ∀ i j, i < r -> j < c -> ai xs r c i j = ai ys r c i j) : xs = ys := by
 refine List.ext_getElem (by omega) fun n h1 h2 => ?_;obtain ⟨i, j, hi, hj, e⟩ := uh (by omega : n < r * c);have := h i j hi hj;rw [aM hi hj, aM hi hj, <- e, gG _ _ h1, gG _ _ h2] at this;exact this
theorem dC {xs : List Int} {r c B : Nat} (hB : 0 < B) (h : ∀ x ∈ xs, x.natAbs < B) (i j : Nat) : (ai xs r c i j).natAbs < B := by
 unfold ai;split
 · by_cases hl : i * c + j < xs.length
   · rw [gG _ _ hl]; exact h _ (List.getElem_mem _)
   · rw [er _ _ (by omega)]; simpa using hB
 · simpa using hB
theorem qQ {xs : List Int} {r c B : Nat} (hx : xs.length = r * c) (h : ∀ i j, i < r -> j < c -> (ai xs r c i j).natAbs < B) : ∀ x ∈ xs, x.natAbs < B := by
 intro x hm;obtain ⟨n, hn, rfl⟩ := List.getElem_of_mem hm;obtain ⟨i, j, hi, hj, e⟩ := uh (by omega : n < r * c);have := h i j hi hj;rw [aM hi hj, <- e, gG _ _ hn] at this;exact this
theorem lC (xs : List Int) (c k j : Nat) (hj : j < c) : (rowOf xs c k).getD j 0 = xs.getD (k * c + j) 0 := by
 unfold rowOf;simp [hj]
theorem ju : ∀ (xss : List (List Int)) (c : Nat), (∀ x ∈ xss, x.length = c) -> ∀ i j, (hi : i < xss.length) -> j < c -> xss.flatten.getD (i * c + j) 0 = (xss[i]).getD j 0
 | [], c, h, i, j, hi, hj => by simp at hi
 | x :: xss, c, h, 0, j, hi, hj => by
  have hx := h x (List.mem_cons_self ..);rw [List.flatten_cons, Nat.zero_mul, Nat.zero_add, List.getElem_cons_zero];rw [gG _ _ (by rw [List.length_append]; omega), gG _ _ (by omega), List.getElem_append_left]
 | x :: xss, c, h, i + 1, j, hi, hj => by
  have hx := h x (List.mem_cons_self ..);rw [List.flatten_cons, List.getElem_cons_succ, <- ju xss c (fun y hy => h y (List.mem_cons_of_mem _ hy)) i j (by simpa using hi) hj];have e : (i + 1) * c + j = x.length + (i * c + j) := by rw [Nat.succ_mul, hx]; omega
  rw [e, List.getD_eq_getElem?_getD, List.getElem?_append_right (by omega), List.getD_eq_getElem?_getD];congr 2; omega
structure ko (r c : Nat) (xs hs : List Int) (k : Nat) (l : Nat -> Nat) : Prop where
 len : hs.length = r * c
 kr : k <= r
 herm : du k c (ai hs r c) l
 zero : ∀ i, k <= i -> ∀ b, ai hs r c i b = 0
 sp : aO r (ai xs r c) k (ai hs r c)
theorem ko.unique {r c : Nat} {xs hs hs' : List Int} {k k' : Nat} {l l' : Nat -> Nat} (h : ko r c xs hs k l) (h' : ko r c xs hs' k' l') : hs = hs' /\ k = k' /\ ∀ i, i < k -> l i = l' i := by
 obtain ⟨h1, h2, h3⟩ := h.herm.unique h'.herm (h.sp.symm.trans h'.sp);refine ⟨uB h.len h'.len fun i j hi hj => ?_, h1, h2⟩;by_cases hk : i < k
 · exact h3 i hk j
 · rw [h.zero i (by omega), h'.zero i (by omega)]
theorem tE {R : List Hd} {r c : Nat} (hl : R.length = r) (hs : Sh c R) : (R.map Hd.xs).flatten.length = r * c /\ ∀ i j, ai (R.map Hd.xs).flatten r c i j = az R i j := by
 have hc : ∀ x ∈ R.map Hd.xs, x.length = c := fun x hx => by
  obtain ⟨q, hq, rfl⟩ := List.mem_map.1 hx; exact hs q hq
 refine ⟨?_, fun i j => ?_⟩
 · have : ∀ (xss : List (List Int)), (∀ x ∈ xss, x.length = c) -> xss.flatten.length = xss.length * c := by
    intro xss;induction xss with
    | nil => intro _; simp
    | cons x xs ih =>
     intro h;rw [List.flatten_cons, List.length_append, ih (fun y hy => h y (List.mem_cons_of_mem _ hy)), h x (List.mem_cons_self ..), List.length_cons, Nat.succ_mul]; omega
   rw [this _ hc, List.length_map, hl]
 · by_cases hi : i < r
   · by_cases hj : j < c
     · rw [aM hi hj, ju _ c hc i j (by simp; omega) hj, List.getElem_map, bY (by omega)]
     · rw [hs.wide i (by omega), dQ _ (by omega)]
   · rw [ej (by omega), jk (by omega)]
theorem ko.same {r c : Nat} {xs ys hs : List Int} {k : Nat} {l : Nat -> Nat} (h : ko r c xs hs k l) (e : aO r (ai ys r c) r (ai xs r c)) : ko r c ys hs k l :=
 ⟨h.len, h.kr, h.herm, h.zero, e.trans h.sp⟩
def l5 (i j : Nat) (ev : Bool) (K : Int) (E : Nat -> Nat -> Int) (a b : Nat) : Int :=
 if i = j then (if a = i then -E i b else E a b)
 else if ev then (if a = i then E j b else if a = j then E i b else E a b)
 else (if a = i then K * E j b + E i b else E a b)
theorem yk {r i j : Nat} (hi : i < r) (hj : j < r) (ev : Bool) (K : Int) (E : Nat -> Nat -> Int) : aO r E r (l5 i j ev K E) := by
 by_cases h : i = j
 · refine aO.neg hi (fun a ha b => ?_) (fun b => ?_)
   · unfold l5; rw [if_pos h, if_neg ha]
   · unfold l5; rw [if_pos h, if_pos rfl]
 · cases ev
   · refine aO.add hi hj h K (fun a b => ?_);unfold l5; rw [if_neg h]; simp
   · have hE : ∀ a b, l5 i j true K E a b = if a = i then E j b else if a = j then E i b else E a b := fun a b => by unfold l5; rw [if_neg h]; simp
     refine ⟨fun k hk => ?_, fun k hk => ?_⟩
     · by_cases h1 : k = i
       · subst h1;exact (Sp.row (l5 k j true K E) hj).congr (fun b => by rw [hE, if_neg (fun e => h e.symm), if_pos rfl])
       · by_cases h2 : k = j
         · subst h2;exact (Sp.row (l5 i k true K E) hi).congr (fun b => by rw [hE, if_pos rfl])
         · exact (Sp.row (l5 i j true K E) hk).congr (fun b => by rw [hE, if_neg h1, if_neg h2])
     · by_cases h1 : k = i
       · subst h1;exact (Sp.row E hj).congr (fun b => by rw [hE, if_pos rfl])
       · by_cases h2 : k = j
         · subst h2;exact (Sp.row E hi).congr (fun b => by rw [hE, if_neg h1, if_pos rfl])
         · exact (Sp.row E hk).congr (fun b => by rw [hE, if_neg h1, if_neg h2])
theorem yX {r c i j m n : Nat} (hi : i < r) (hj : j < r) (ev : Bool) {K : Int} {E : Nat -> Nat -> Int} (hE : ∀ a b, a < r -> b < c -> (E a b).natAbs < W ^ m) (hK : K.natAbs < W ^ n) :
 ∀ a b, a < r -> b < c -> (l5 i j ev K E a b).natAbs < W ^ (m + n + 1) := by
 intro a b ha hb;have hup : W ^ m <= W ^ (m + n + 1) := Nat.pow_le_pow_right (by decide) (by omega);have h0 := hE a b ha hb;have h1 := hE i b hi hb;have h2 := hE j b hj hb;unfold l5;split
 · split
   · rw [Int.natAbs_neg]; exact Nat.lt_of_lt_of_le h1 hup
   · exact Nat.lt_of_lt_of_le h0 hup
 · split
   · split
     · exact Nat.lt_of_lt_of_le h2 hup
     · split
       · exact Nat.lt_of_lt_of_le h1 hup
       · exact Nat.lt_of_lt_of_le h0 hup
   · split
     · have e1 : (K * E j b + E i b).natAbs <= K.natAbs * (E j b).natAbs + (E i b).natAbs := by
        have := Int.natAbs_add_le (K * E j b) (E i b);rw [Int.natAbs_mul] at this;exact this
       have e2 : K.natAbs * (E j b).natAbs <= W ^ n * W ^ m := Nat.mul_le_mul (Nat.le_of_lt hK) (Nat.le_of_lt h2);have e3 : W ^ (m + n + 1) = W ^ n * W ^ m * W := by rw [Nat.pow_succ, Nat.pow_add, Nat.mul_comm (W ^ m)]
       have e4 : W ^ m <= W ^ n * W ^ m := Nat.le_mul_of_pos_left _ (Nat.pow_pos (by decide));have e5 : W ^ n * W ^ m * 2 <= W ^ n * W ^ m * W := Nat.mul_le_mul_left _ (by decide);have e6 : 0 < W ^ m := Nat.pow_pos (by decide);rw [e3];generalize W ^ n * W ^ m = q at *;omega
     · exact Nat.lt_of_lt_of_le h0 hup
theorem tT {c i j a b : Nat} (hj : j < c) (hb : b < c) (h : i * c + j = a * c + b) : i = a /\ j = b := by
 have h1 : (i * c + j) / c = i := by rw [Nat.mul_comm, Nat.mul_add_div (by omega), Nat.div_eq_of_lt hj, Nat.add_zero]
 have h2 : (a * c + b) / c = a := by rw [Nat.mul_comm, Nat.mul_add_div (by omega), Nat.div_eq_of_lt hb, Nat.add_zero]
 have h3 : i = a := by rw [<- h1, h, h2]
 subst h3;exact ⟨rfl, by omega⟩
theorem oR {xs : List Int} {r c i j : Nat} (hx : xs.length = r * c) (hi : i < r) (hj : j < c) (v : Int) (a b : Nat) : ai (xs.set (i * c + j) v) r c a b = if a = i /\ b = j then v else ai xs r c a b := by
 have hq : i * c + j < xs.length := by rw [hx]; exact bQ hi hj
 by_cases hab : a < r /\ b < c
 · unfold ai;rw [if_pos hab, if_pos hab, List.getD_eq_getElem?_getD, List.getD_eq_getElem?_getD, List.getElem?_set];by_cases e : i * c + j = a * c + b
   · obtain ⟨h1, h2⟩ := tT hj hab.2 e;rw [if_pos e, if_pos hq, if_pos ⟨h1.symm, h2.symm⟩]; rfl
   · rw [if_neg e, if_neg (fun h => e (by rw [h.1, h.2]))]
 · unfold ai;rw [if_neg hab, if_neg hab, if_neg (fun h => hab ⟨by omega, by omega⟩)]
theorem yt {zs : List Int} {r c d i : Nat} {E : Nat -> Nat -> Int} {K : Int} {ev : Bool} (hl : zs.length = r * c) (hi : i < r) (hd : d < c)
 (hE : ∀ a b, ai zs r c a b = if b < d then l5 i i ev K E a b else E a b) {q : Nat} (hq : i * c + d = q) {x : Int} (hx : ai zs r c i d = x) :
 ∀ a b, ai (zs.set q (-x)) r c a b = if b < d + 1 then l5 i i ev K E a b else E a b := by
 intro a b;have hM : ∀ a b, l5 i i ev K E a b = if a = i then -E i b else E a b := fun a b => by unfold l5; rw [if_pos rfl]
 have hx' : x = E i d := by rw [<- hx, hE, if_neg (by omega)]
 rw [<- hq, oR hl hi hd, hE, hx'];by_cases h1 : b = d
 · subst h1;rw [if_pos (Nat.lt_succ_self _), if_neg (Nat.lt_irrefl _), hM];by_cases h2 : a = i
   · rw [if_pos ⟨h2, rfl⟩, if_pos h2]
   · rw [if_neg (fun h => h2 h.1), if_neg h2]
 · rw [if_neg (fun h => h1 h.2)];by_cases h3 : b < d
   · rw [if_pos h3, if_pos (by omega)]
   · rw [if_neg h3, if_neg (by omega)]
theorem yj {zs : List Int} {r c d i j : Nat} {E : Nat -> Nat -> Int} {K : Int} (hl : zs.length = r * c) (hi : i < r) (hij : i ≠ j) (hd : d < c)
 (hE : ∀ a b, ai zs r c a b = if b < d then l5 i j false K E a b else E a b) {q : Nat} (hq : i * c + d = q) {x y : Int} (hx : ai zs r c i d = x) (hy : ai zs r c j d = y) :
 ∀ a b, ai (zs.set q (K * y + x)) r c a b = if b < d + 1 then l5 i j false K E a b else E a b := by
 intro a b;have hM : ∀ a b, l5 i j false K E a b = if a = i then K * E j b + E i b else E a b := fun a b => by unfold l5; rw [if_neg hij]; simp
 have hx' : x = E i d := by rw [<- hx, hE, if_neg (by omega)]
 have hy' : y = E j d := by rw [<- hy, hE, if_neg (by omega)]
 rw [<- hq, oR hl hi hd, hE, hx', hy'];by_cases h1 : b = d
 · subst h1;rw [if_pos (Nat.lt_succ_self _), if_neg (Nat.lt_irrefl _), hM];by_cases h2 : a = i
   · rw [if_pos ⟨h2, rfl⟩, if_pos h2]
   · rw [if_neg (fun h => h2 h.1), if_neg h2]
 · rw [if_neg (fun h => h1 h.2)];by_cases h3 : b < d
   · rw [if_pos h3, if_pos (by omega)]
   · rw [if_neg h3, if_neg (by omega)]
theorem smTwo (n k l : Nat) (f : Nat -> Int) (hk : k < n) (hl : l < n) (hkl : k ≠ l) (h : ∀ i < n, i ≠ k -> i ≠ l -> f i = 0) : sm n f = f k + f l := by
 have e : sm n f = sm n (fun i => (if i = k then f i else 0) + (if i = k then 0 else f i)) := aj (fun i _ => by split <;> omega);rw [e, fy, dv k hk (fun i _ hik => if_neg hik), dv l hl (fun i hi hil => by
  by_cases hik : i = k
  · exact if_pos hik
  · rw [if_neg hik]; exact h i hi hik hil), if_pos rfl, if_neg (fun e => hkl e.symm)]
abbrev Mx := Nat -> Nat -> Int
def bH (i a : Nat) : Nat := if a < i then a else a + 1
def minor (M : Mx) (i : Nat) : Mx := fun a b => M (bH i a) (b + 1)
def dr (i : Nat) : Int := if i % 2 = 0 then 1 else -1
theorem jw (i : Nat) : dr (i + 1) = - dr i := by
 unfold dr
 (repeat' split) <;> first | rfl | omega
def aF : Nat -> Mx -> Int
 | 0, _ => 1
 | n + 1, M => sm (n + 1) fun i => dr i * M i 0 * aF n (minor M i)
theorem aG : ∀ (n : Nat) {M N : Mx}, (∀ i < n, ∀ j < n, M i j = N i j) -> aF n M = aF n N
 | 0, _, _, _ => rfl
 | n + 1, M, N, h => by
  unfold aF;refine aj fun i hi => ?_;rw [h i hi 0 (by omega), aG n (M := minor M i) (N := minor N i) fun a ha b hb => h _ (by unfold bH; split <;> omega) _ (by omega)]
def bG (M : Mx) (k : Nat) (R : Nat -> Int) : Mx := fun a b => if a = k then R b else M a b
theorem eT (M : Mx) (k : Nat) (R : Nat -> Int) : minor (bG M k R) k = minor M k := by
 funext a b;unfold minor bG bH;split <;> rw [if_neg (by omega)]
theorem eC (M : Mx) (k i : Nat) (R : Nat -> Int) (h : i ≠ k) : minor (bG M k R) i = bG (minor M i) (if k < i then k else k - 1) (fun b => R (b + 1)) := by
 funext a b;unfold minor bG bH;by_cases ha : a < i <;> by_cases hk : k < i <;> simp only [ha, hk, if_true, if_false] <;> split <;> split <;> first | rfl | (exfalso; omega)
theorem fR : ∀ (n : Nat) (M : Mx) (k : Nat) (c : Int) (U V : Nat -> Int), k < n -> aF n (bG M k fun j => c * U j + V j) = c * aF n (bG M k U) + aF n (bG M k V)
 | n + 1, M, k, c, U, V, hk => by
  unfold aF;rw [<- bC, <- fy];refine aj fun i hi => ?_;by_cases h : i = k
  · subst h;rw [eT, eT, eT];simp only [bG, if_pos];generalize aF n (minor M i) = d;rw [Int.mul_add, Int.add_mul, <- Int.mul_assoc, <- Int.mul_assoc, Int.mul_comm (dr i) c];simp only [Int.mul_assoc]
  · rw [eC M k i _ h, eC M k i _ h, eC M k i _ h, fR n (minor M i) _ c (fun b => U (b + 1)) (fun b => V (b + 1)) (by split <;> omega)];simp only [bG, if_neg h];rw [Int.mul_add, <- Int.mul_assoc, <- Int.mul_assoc, Int.mul_comm _ c, Int.mul_assoc c]
theorem kM : ∀ (n : Nat) (M : Mx) (k : Nat), k + 1 < n -> (∀ j < n, M k j = M (k + 1) j) -> aF n M = 0
 | n + 1, M, k, hk, h => by
  unfold aF;rw [smTwo (n + 1) k (k + 1) _ (by omega) (by omega) (by omega) fun i hi h1 h2 => ?_]
  · have e : minor M k = minor M (k + 1) ∨ True := .inr trivial;have e2 : aF n (minor M k) = aF n (minor M (k + 1)) := aG n fun a ha b hb => by
     unfold minor bH;by_cases h1 : a < k
     · rw [if_pos h1, if_pos (by omega)]
     · rw [if_neg h1];by_cases h3 : a = k
       · subst h3; rw [if_pos (by omega)]; exact (h (b + 1) (by omega)).symm
       · rw [if_neg (by omega)]
    rw [e2, h 0 (by omega), jw, Int.neg_mul, Int.neg_mul];omega
  · have : aF n (minor M i) = 0 := by
     by_cases hik : i < k
     · refine kM n _ (k - 1) (by omega) fun j hj => ?_;unfold minor bH;rw [if_neg (by omega), if_neg (by omega), show k - 1 + 1 = k by omega];exact h (j + 1) (by omega)
     · refine kM n _ k (by omega) fun j hj => ?_;unfold minor bH;rw [if_pos (by omega), if_pos (by omega)];exact h (j + 1) (by omega)
    rw [this, Int.mul_zero]
theorem eo (M : Mx) (k : Nat) : bG M k (M k) = M := by
 funext a b; unfold bG; split
 · rename_i h; rw [h]
 · rfl
theorem cR (M : Mx) {k l : Nat} (h : k ≠ l) (R R' : Nat -> Int) : bG (bG M k R) l R' = bG (bG M l R') k R := by
 funext a b; unfold bG; (repeat' split) <;> first | rfl | omega
theorem bA (M : Mx) (k : Nat) (R : Nat -> Int) : bG M k R k = R := by funext b; simp [bG]
theorem aK (M : Mx) {k l : Nat} (h : l ≠ k) (R : Nat -> Int) : bG M k R l = M l := by funext b; simp [bG, h]
theorem iy (n : Nat) (M : Mx) (k : Nat) (U V : Nat -> Int) (hk : k < n) : aF n (bG M k fun j => U j + V j) = aF n (bG M k U) + aF n (bG M k V) := by
 have := fR n M k 1 U V hk;simpa using this
theorem fM (n : Nat) (M : Mx) (k : Nat) (c : Int) (U : Nat -> Int) (hk : k < n) : aF n (bG M k fun j => c * U j) = c * aF n (bG M k U) := by
 have h := fR n M k c U (fun _ => 0) hk;have h0 := fR n M k (-1) (fun _ => 0) (fun _ => 0) hk;simp at h h0;rw [h]; omega
theorem tw (n : Nat) (M : Mx) (k : Nat) (hk : k + 1 < n) (A B : Nat -> Int) : aF n (bG (bG M k A) (k + 1) B) = - aF n (bG (bG M k B) (k + 1) A) := by
 have z : ∀ C : Nat -> Int, aF n (bG (bG M k C) (k + 1) C) = 0 := fun C => kM n _ k hk fun j _ => by
  rw [aK _ (by omega), bA, bA]
 have s := z fun j => A j + B j;rw [iy n _ _ _ _ hk, cR M (by omega : k ≠ k + 1), cR M (by omega : k ≠ k + 1), iy n _ _ _ _ (by omega), iy n _ _ _ _ (by omega),
  <- cR M (by omega : k ≠ k + 1), <- cR M (by omega : k ≠ k + 1), <- cR M (by omega : k ≠ k + 1), <- cR M (by omega : k ≠ k + 1), z A, z B] at s
 omega
theorem nI : ∀ (d n : Nat) (M : Mx) (k : Nat), k + d + 1 < n -> (∀ j, M k j = M (k + d + 1) j) -> aF n M = 0
 | 0, n, M, k, hk, h => kM n M k hk fun j _ => h j
 | d + 1, n, M, k, hk, h => by
  have e := tw n M (k + d + 1) (by omega) (M (k + d + 1)) (M (k + d + 2));rw [eo M (k + d + 1), eo M (k + d + 2)] at e;rw [e, nI d n _ k (by omega) fun j => ?_]
  · rfl
  · rw [aK _ (by omega), aK _ (by omega), aK _ (by omega), bA];exact h j
theorem eQ (n : Nat) (M : Mx) {k l : Nat} (hk : k < n) (hl : l < n) (hkl : k ≠ l) (h : ∀ j, M k j = M l j) : aF n M = 0 := by
 rcases Nat.lt_or_gt_of_ne hkl with h1 | h1
 · exact nI (l - k - 1) n M k (by omega) fun j => by rw [show k + (l - k - 1) + 1 = l by omega]; exact h j
 · exact nI (k - l - 1) n M l (by omega) fun j => by rw [show l + (k - l - 1) + 1 = k by omega]; exact (h j).symm
theorem j3 (n : Nat) (M : Mx) (k : Nat) (hk : k < n) (c : Nat -> Int) (hc : c k = 0) : ∀ (m : Nat), m <= n -> ∀ U : Nat -> Int, aF n (bG M k fun j => U j + sm m fun l => c l * M l j) = aF n (bG M k U)
 | 0, _, U => by simp [sm]
 | m + 1, hm, U => by
  have e : (fun j => U j + sm (m + 1) fun l => c l * M l j) = fun j => c m * M m j + (U j + sm m fun l => c l * M l j) := by
   funext j;show U j + (sm m (fun l => c l * M l j) + c m * M m j) = c m * M m j + (U j + sm m (fun l => c l * M l j));generalize c m * M m j = z;omega
  rw [e, fR n M k _ _ _ hk, j3 n M k hk c hc m (by omega) U];by_cases hmk : m = k
  · rw [hmk, hc, Int.zero_mul, Int.zero_add]
  · rw [eQ n (bG M k (M m)) hk (by omega) (fun e => hmk e.symm) fun j => by rw [bA, aK _ hmk]];rw [Int.mul_zero, Int.zero_add]
theorem pM (n : Nat) (M : Mx) {k l : Nat} (hk : k < n) (hl : l < n) (hkl : k ≠ l) (A B : Nat -> Int) : aF n (bG (bG M k A) l B) = - aF n (bG (bG M k B) l A) := by
 have z : ∀ C : Nat -> Int, aF n (bG (bG M k C) l C) = 0 := fun C => eQ n _ hk hl hkl fun j => by
  rw [aK _ hkl, bA, bA]
 have s := z fun j => A j + B j;rw [iy n _ _ _ _ hl, cR M hkl, cR M hkl, iy n _ _ _ _ hk, iy n _ _ _ _ hk, <- cR M hkl, <- cR M hkl, <- cR M hkl, <- cR M hkl, z A, z B] at s;omega
theorem kG (n : Nat) (M : Mx) (k : Nat) (hk : k < n) (c : Nat -> Int) (R : Nat -> Nat -> Int) : ∀ m, aF n (bG M k fun j => sm m fun l => c l * R l j) = sm m fun l => c l * aF n (bG M k (R l))
 | 0 => by
  have := fM n M k 0 (fun _ => 0) hk;simpa [sm] using this
 | m + 1 => by
  have e : (fun j => sm (m + 1) fun l => c l * R l j) = fun j => c m * R m j + sm m fun l => c l * R l j := by
   funext j; simp only [sm]; omega
  rw [e, fR n M k _ _ _ hk, kG n M k hk c R m];simp only [sm]; omega
theorem ur (n : Nat) (f : Nat -> Nat) (hf : ∀ i < n, f i < n) (hi : ∀ i < n, ∀ j < n, f i = f j -> i = j) (k : Nat) (hk : k < n) : ∃ i < n, f i = k := by
 refine Classical.byContradiction fun hc => ?_;have hne : ∀ i < n, f i ≠ k := fun i h e => hc ⟨i, h, e⟩;obtain ⟨m, rfl⟩ : ∃ m, n = m + 1 := ⟨n - 1, by omega⟩;obtain ⟨i, j, h1, h2, h3⟩ := nO m (fun i => if f i < k then f i else f i - 1) (fun i h => by
  have := hf i (by omega); have := hne i (by omega);show (if f i < k then f i else f i - 1) < m;split <;> omega)
 have h4 : f i = f j := by
  have a := hne i (by omega); have b := hne j (by omega);have h3 : (if f i < k then f i else f i - 1) = (if f j < k then f j else f j - 1) := h3;split at h3 <;> split at h3 <;> omega
 have := hi i (by omega) j (by omega) h4;omega
theorem jv (n : Nat) (A : Mx) : ∀ (d : Nat) (σ : Nat -> Nat), (∀ i < n, σ i < n) -> (∀ i, i + d < n -> σ i = i) -> d <= n -> aF n (fun i => A (σ i)) = 0 ∨ (aF n (fun i => A (σ i))).natAbs = (aF n A).natAbs
 | 0, σ, _, h, _ => .inr (by rw [aG n (M := fun i => A (σ i)) (N := A) fun i hi j _ => by rw [h i (by omega)]])
 | d + 1, σ, h1, h2, hd => by
  by_cases hinj : ∀ i < n, ∀ j < n, σ i = σ j -> i = j
  · obtain ⟨i, hi, he⟩ := ur n σ h1 hinj (n - (d + 1)) (by omega);have hge : n - (d + 1) <= i := by
     refine Nat.le_of_not_lt fun hlt => ?_;have := h2 i (by omega); omega
    by_cases hik : i = n - (d + 1)
    · refine jv n A d σ h1 (fun a ha => ?_) (by omega);by_cases e : a = n - (d + 1)
      · have h5 : a = i := e.trans hik.symm;rw [h5, he]; exact hik.symm
      · exact h2 a (by omega)
    · have e : (fun a => A (σ a)) = bG (bG (fun a => A (if a = n - (d + 1) then n - (d + 1) else if a = i then σ (n - (d + 1)) else σ a)) (n - (d + 1)) (A (σ (n - (d + 1))))) i (A (σ i)) := by
       funext a b;unfold bG;by_cases h3 : a = i
       · rw [if_pos h3, h3]
       · rw [if_neg h3];by_cases h4 : a = n - (d + 1)
         · rw [if_pos h4, h4]
         · rw [if_neg h4];show A (σ a) b = A (if a = n - (d + 1) then n - (d + 1) else if a = i then σ (n - (d + 1)) else σ a) b;rw [if_neg h4, if_neg h3]
      have e2 : bG (bG (fun a => A (if a = n - (d + 1) then n - (d + 1) else if a = i then σ (n - (d + 1)) else σ a)) (n - (d + 1)) (A (σ i))) i (A (σ (n - (d + 1)))) = fun a => A (if a = n - (d + 1) then n - (d + 1) else if a = i then σ (n - (d + 1)) else σ a) := by
       funext a b;unfold bG;by_cases h3 : a = i
       · rw [if_pos h3, if_neg (by omega), if_pos h3]
       · rw [if_neg h3];by_cases h4 : a = n - (d + 1)
         · rw [if_pos h4, if_pos h4, he]
         · rw [if_neg h4]
      rw [e, pM n _ (by omega) hi (fun h => hik h.symm), e2];have := jv n A d (fun a => if a = n - (d + 1) then n - (d + 1) else if a = i then σ (n - (d + 1)) else σ a) (fun a ha => by
       split
       · omega
       · split
         · exact h1 _ (by omega)
         · exact h1 a ha) (fun a ha => by
       split
       · omega
       · rw [if_neg (by omega)]; exact h2 a (by omega)) (by omega)
      rcases this with h | h
      · exact .inl (by rw [h]; rfl)
      · exact .inr (by rw [Int.natAbs_neg]; exact h)
  · refine .inl ?_;simp only [Classical.not_forall] at hinj;obtain ⟨i, hi, j, hj, he, hne⟩ := hinj;exact eQ n _ hi hj hne fun b => by rw [he]
theorem nF (n : Nat) (A : Mx) : ∀ (k : Nat), k <= n -> ∀ B : Mx, (∀ i < k, Sp n A (B i)) -> (∀ i, k <= i -> i < n -> ∃ l < n, B i = A l) -> aF n A ∣ aF n B
 | 0, _, B, _, h => by
  have hs : ∀ i, ∃ l, i < n -> l < n /\ B i = A l := fun i => by
   by_cases hi : i < n
   · obtain ⟨l, hl, e⟩ := h i (Nat.zero_le _) hi; exact ⟨l, fun _ => ⟨hl, e⟩⟩
   · exact ⟨0, fun h => absurd h hi⟩
  obtain ⟨σ, hσ⟩ := Classical.axiomOfChoice hs;have e : aF n B = aF n (fun i => A (σ i)) := aG n fun i hi j _ => by rw [(hσ i hi).2]
  rw [e];rcases jv n A n σ (fun i hi => (hσ i hi).1) (fun i hi => by omega) (Nat.le_refl _) with h | h
  · rw [h]; exact Int.dvd_zero _
  · exact Int.natAbs_dvd_natAbs.1 (by rw [h]; exact Nat.dvd_refl _)
 | k + 1, hk, B, h1, h2 => by
  obtain ⟨c, hc⟩ := h1 k (by omega);have e : B = bG B k (fun j => sm n fun l => c l * A l j) := by
   funext a b;unfold bG;split
   · rename_i h; rw [h]; exact hc b
   · rfl
  rw [e, kG n B k (by omega)];have hd : ∀ l < n, aF n A ∣ aF n (bG B k (A l)) := fun l hl => nF n A k (by omega) _ (fun i hi => by rw [aK _ (by omega)]; exact h1 i (by omega)) (fun i hi hin => by
   by_cases hik : i = k
   · rw [hik, bA]; exact ⟨l, hl, rfl⟩
   · rw [aK _ hik]; exact h2 i (by omega) hin)
  have key : ∀ m, m <= n -> aF n A ∣ sm m fun l => c l * aF n (bG B k (A l)) := by
   intro m;induction m with
   | zero => intro _; exact Int.dvd_zero _
   | succ m ih => intro hm; exact Int.dvd_add (ih (by omega)) (Int.dvd_mul_of_dvd_right (hd m (by omega)))
  exact key n (Nat.le_refl _)
theorem pL (n : Nat) {A B : Mx} (h : aO n A n B) : (aF n A).natAbs = (aF n B).natAbs :=
 Nat.dvd_antisymm (Int.natAbs_dvd_natAbs.2 (nF n A n (Nat.le_refl _) B h.2 (fun i h1 h2 => by omega))) (Int.natAbs_dvd_natAbs.2 (nF n B n (Nat.le_refl _) A h.1 (fun i h1 h2 => by omega)))
def et : Nat -> (Nat -> Nat) -> Nat
 | 0, _ => 1
 | n + 1, f => et n f * f n
theorem fp : ∀ (n : Nat) {f g : Nat -> Nat}, (∀ i < n, f i = g i) -> et n f = et n g
 | 0, _, _, _ => rfl
 | n + 1, f, g, h => by unfold et; rw [fp n (fun i hi => h i (by omega)), h n (by omega)]
theorem kS : ∀ (n : Nat) (f : Nat -> Nat) (m : Nat), m <= n -> et (n + 1) f = f m * et n fun a => f (bH m a)
 | 0, f, m, hm => by
  obtain rfl : m = 0 := by omega
  simp [et]
 | n + 1, f, m, hm => by
  by_cases e : m = n + 1
  · subst e;have : et (n + 1) (fun a => f (bH (n + 1) a)) = et (n + 1) f := fp _ fun i hi => by unfold bH; rw [if_pos hi]
    rw [this, Nat.mul_comm]; rfl
  · have ih := kS n f m (by omega);show et (n + 1) f * f (n + 1) = f m * (et n (fun a => f (bH m a)) * f (bH m n));rw [ih, show bH m n = n + 1 by unfold bH; rw [if_neg (by omega)], Nat.mul_assoc]
theorem jN : ∀ (n : Nat) (M : Mx) (p : Nat -> Nat), (∀ i < n, p i < n) -> (∀ i < n, ∀ j < n, p i = p j -> i = j) -> (∀ i < n, ∀ j, j < p i -> M i j = 0) -> (aF n M).natAbs = et n fun i => (M i (p i)).natAbs
 | 0, _, _, _, _, _ => rfl
 | n + 1, M, p, h1, h2, h3 => by
  obtain ⟨m, hm, he⟩ := ur (n + 1) p h1 h2 0 (by omega);have hpos : ∀ i < n + 1, i ≠ m -> 0 < p i := fun i hi hne => Nat.pos_of_ne_zero fun e => hne (h2 i hi m hm (e.trans he.symm));have hsk : ∀ a < n, bH m a < n + 1 /\ bH m a ≠ m := fun a ha => by unfold bH; split <;> constructor <;> omega
  unfold aF;rw [dv m hm fun i hi hne => by rw [h3 i hi 0 (hpos i hi hne)]; simp];have ih := jN n (minor M m) (fun a => p (bH m a) - 1) (fun a ha => by have := h1 _ (hsk a ha).1; have := hpos _ (hsk a ha).1 (hsk a ha).2; omega) (fun a ha b hb e => by
   have h4 := hpos _ (hsk a ha).1 (hsk a ha).2; have h5 := hpos _ (hsk b hb).1 (hsk b hb).2;have h6 := h2 _ (hsk a ha).1 _ (hsk b hb).1 (by omega);unfold bH at h6; split at h6 <;> split at h6 <;> omega) (fun a ha j hj => h3 _ (hsk a ha).1 (j + 1) (by omega))
  rw [Int.natAbs_mul, Int.natAbs_mul, ih, kS n _ m (by omega), he];have hs : (dr m).natAbs = 1 := by unfold dr; split <;> rfl
  rw [hs, Nat.one_mul];congr 1;exact fp n fun a ha => by
   have h4 := hpos _ (hsk a ha).1 (hsk a ha).2;unfold minor;rw [show p (bH m a) - 1 + 1 = p (bH m a) by omega]
structure mZ (k : Nat) (R : Mx) (p : Nat -> Nat) : Prop where
 at_ : ∀ i < k, R i (p i) ≠ 0
 zero : ∀ i < k, ∀ j < p i, R i j = 0
 clr : ∀ a < k, ∀ i < a, R a (p i) = 0
theorem mZ.inj {k : Nat} {R : Mx} {p : Nat -> Nat} (h : mZ k R p) : ∀ i < k, ∀ j < k, p i = p j -> i = j := by
 have key : ∀ i j, i < j -> j < k -> p i ≠ p j := fun i j hij hj e => h.at_ j hj (e ▸ h.clr j hj i hij);intro i hi j hj e;rcases Nat.lt_trichotomy i j with h1 | h1 | h1
 · exact absurd e (key i j h1 hj)
 · exact h1
 · exact absurd e.symm (key j i h1 hi)
theorem mZ.lead {k : Nat} {R : Mx} {p : Nat -> Nat} (h : mZ k R p) {v : Nat -> Int} (hv : Sp k R v) {q : Nat} (hq : v q ≠ 0) (h0 : ∀ j < q, v j = 0) : ∃ i < k, p i = q := by
 obtain ⟨x, hx⟩ := hv;have key : ∀ m a, p a = m -> m < q -> a < k -> x a = 0 := by
  intro m;induction m using Nat.strongRecOn with
  | _ m ih =>
   intro a hm hq ha;refine Classical.byContradiction fun hne => ?_;have h1 := h0 m hq;rw [hx, dv a ha fun b hb hba => ?_] at h1
   · rcases Int.mul_eq_zero.1 h1 with h2 | h2
     · exact hne h2
     · exact h.at_ a ha (hm ▸ h2)
   · rcases Nat.lt_trichotomy (p b) m with h2 | h2 | h2
     · rw [ih (p b) h2 b rfl (by omega) hb, Int.zero_mul]
     · exact absurd (h.inj b hb a ha (h2.trans hm.symm)) hba
     · rw [h.zero b hb m h2, Int.mul_zero]
 refine Classical.byContradiction fun hc => hq ?_;rw [hx];refine bf fun b hb => ?_;rcases Nat.lt_trichotomy (p b) q with h2 | h2 | h2
 · rw [key _ b rfl h2 hb, Int.zero_mul]
 · exact absurd ⟨b, hb, h2⟩ hc
 · rw [h.zero b hb q h2, Int.mul_zero]
theorem oK {k r n c : Nat} {R A E : Mx} {p l : Nat -> Nat} (h : mZ k R p) (hE : Ech r c E l) (hs : aO r E n A) (h1 : ∀ i < n, ∃ N : Int, N ≠ 0 /\ Sp k R fun j => N * A i j) (h2 : ∀ i < k, ∃ N : Int, N ≠ 0 /\ Sp n A fun j => N * R i j) : k = r := by
 have one : ∀ i < k, ∃ a, a < r /\ l a = p i := fun i hi => by
  obtain ⟨N, hN, hsp⟩ := h2 i hi;obtain ⟨a, ha, he, _⟩ := hE.lead (hsp.trans hs.2) (q := p i) (Int.mul_ne_zero hN (h.at_ i hi)) fun j hj => by rw [h.zero i hi j hj, Int.mul_zero]
  exact ⟨a, ha, he⟩
 have all : ∀ v, Sp n A v -> ∃ N : Int, N ≠ 0 /\ Sp k R fun j => N * v j := by
  intro v ⟨x, hx⟩;have key : ∀ m, m <= n -> ∃ N : Int, N ≠ 0 /\ Sp k R fun j => N * sm m fun i => x i * A i j := by
   intro m;induction m with
   | zero => intro _; exact ⟨1, by decide, (Sp.zero k R).congr fun j => by simp [sm]⟩
   | succ m ih =>
    intro hm;obtain ⟨N, hN, hsp⟩ := ih (by omega);obtain ⟨M, hM, hsq⟩ := h1 m (by omega);refine ⟨N * M, Int.mul_ne_zero hN hM, (((hsp.smul M).add (hsq.smul (N * x m))).congr fun j => ?_)⟩;simp only [sm];rw [Int.mul_add, Int.mul_comm N M, Int.mul_assoc];congr 1;rw [Int.mul_assoc, Int.mul_assoc, Int.mul_left_comm M N, Int.mul_left_comm M (x m)]
  obtain ⟨N, hN, hsp⟩ := key n (Nat.le_refl _);exact ⟨N, hN, hsp.congr fun j => by rw [hx]⟩
 have two : ∀ a < r, ∃ i, i < k /\ p i = l a := fun a ha => by
  obtain ⟨N, hN, hsp⟩ := all (E a) (hs.1 a ha);obtain ⟨i, hi, he⟩ := h.lead hsp (q := l a) (Int.mul_ne_zero hN (by have := hE.pos a ha; omega)) fun j hj => by rw [hE.zero a ha j hj, Int.mul_zero]
  exact ⟨i, hi, he⟩
 have le : ∀ (a b : Nat) (f g : Nat -> Nat), (∀ i < a, ∃ j, j < b /\ g j = f i) -> (∀ i < a, ∀ j < a, f i = f j -> i = j) -> a <= b := by
  intro a b f g hfg hinj;refine Nat.le_of_not_lt fun hlt => ?_;have hs : ∀ i, ∃ j, i < a -> j < b /\ g j = f i := fun i => by
   by_cases hi : i < a
   · obtain ⟨j, h1, h2⟩ := hfg i hi; exact ⟨j, fun _ => ⟨h1, h2⟩⟩
   · exact ⟨0, fun h => absurd h hi⟩
  obtain ⟨σ, hσ⟩ := Classical.axiomOfChoice hs;obtain ⟨i, j, h3, h4, h5⟩ := nO b σ fun i hi => (hσ i (by omega)).1;have := hinj i (by omega) j (by omega) (by rw [<- (hσ i (by omega)).2, <- (hσ j (by omega)).2, h5]);omega
 exact Nat.le_antisymm (le k r p l one h.inj) (le r k l p two fun i hi j hj e => by
  rcases Nat.lt_trichotomy i j with h1 | h1 | h1
  · have := hE.inc i j h1 hj; omega
  · exact h1
  · have := hE.inc j i h1 hi; omega)
theorem oY {k n : Nat} {R A : Mx} (h1 : ∀ i < n, ∃ N : Int, N ≠ 0 /\ Sp k R fun j => N * A i j) {v : Nat -> Int} (hv : Sp n A v) : ∃ N : Int, N ≠ 0 /\ Sp k R fun j => N * v j := by
 obtain ⟨x, hx⟩ := hv;have key : ∀ m, m <= n -> ∃ N : Int, N ≠ 0 /\ Sp k R fun j => N * sm m fun i => x i * A i j := by
  intro m;induction m with
  | zero => intro _; exact ⟨1, by decide, (Sp.zero k R).congr fun j => by simp [sm]⟩
  | succ m ih =>
   intro hm;obtain ⟨N, hN, hsp⟩ := ih (by omega);obtain ⟨M, hM, hsq⟩ := h1 m (by omega);refine ⟨N * M, Int.mul_ne_zero hN hM, (((hsp.smul M).add (hsq.smul (N * x m))).congr fun j => ?_)⟩;simp only [sm];rw [Int.mul_add, Int.mul_comm N M, Int.mul_assoc];congr 1;rw [Int.mul_assoc, Int.mul_assoc, Int.mul_left_comm M N, Int.mul_left_comm M (x m)]
 obtain ⟨N, hN, hsp⟩ := key n (Nat.le_refl _);exact ⟨N, hN, hsp.congr fun j => by rw [hx]⟩
def km : Nat -> (Nat -> Int) -> Int
 | 0, _ => 1
 | n + 1, f => km n f * f n
theorem pP : ∀ (n : Nat) {f : Nat -> Int}, (∀ i < n, f i ≠ 0) -> km n f ≠ 0
 | 0, _, _ => Int.one_ne_zero
 | n + 1, f, h => Int.mul_ne_zero (pP n fun i hi => h i (by omega)) (h n (by omega))
theorem uu (n : Nat) (A R : Mx) (up dn : Nat -> Int) (c : Nat -> Nat -> Int) (h : ∀ i < n, ∀ j, dn i * R i j = up i * A i j + sm i fun t => c i t * R t j) : km n dn * aF n R = km n up * aF n A := by
 obtain ⟨X, hX⟩ : ∃ X : Nat -> Mx, ∀ k i, X k i = if i < k then R i else A i := ⟨fun k i => if i < k then R i else A i, fun _ _ => rfl⟩;have key : ∀ k, k <= n -> km k dn * aF n (X k) = km k up * aF n A := by
  intro k;induction k with
  | zero =>
   intro _;have : X 0 = A := by funext i; rw [hX, if_neg (Nat.not_lt_zero i)]
   rw [this]; rfl
  | succ k ih =>
   intro hk;have h1 : X (k + 1) = bG (X k) k (R k) := by
    funext i j;unfold bG;rw [hX, hX];by_cases e : i = k
    · subst e; rw [if_pos (by omega), if_pos rfl]
    · rw [if_neg e];by_cases e2 : i < k
      · rw [if_pos (by omega), if_pos e2]
      · rw [if_neg (by omega), if_neg e2]
   have h2 : dn k * aF n (X (k + 1)) = up k * aF n (X k) := by
    rw [h1, <- fM n (X k) k (dn k) (R k) hk];have e : (fun j => dn k * R k j) = fun j => (up k * A k j) + sm k fun t => (if t < k then c k t else 0) * X k t j := by
     funext j;rw [h k hk];congr 1;exact aj fun t ht => by rw [if_pos ht, hX, if_pos ht]
    rw [e, j3 n (X k) k hk (fun t => if t < k then c k t else 0) (by rw [if_neg (Nat.lt_irrefl k)]) k (by omega) (fun j => up k * A k j), fM n (X k) k (up k) (A k) hk];congr 1;have : bG (X k) k (A k) = X k := by
     have := eo (X k) k;rw [hX k k, if_neg (Nat.lt_irrefl k)] at this; exact this
    rw [this]
   rw [km, km, Int.mul_assoc, h2, Int.mul_left_comm, ih (by omega), <- Int.mul_assoc, Int.mul_comm (up k)]
 have := key n (Nat.le_refl n);have e : aF n (X n) = aF n R := aG n fun i hi j _ => by rw [hX, if_pos hi]
 rw [e] at this; exact this
def tp (A : Mx) : Mx := fun i j => A j i
def Mn (k : Nat) (x : Int) (r c : Nat) (A : Mx) : Prop := ∀ σ τ : Nat -> Nat, (∀ a < k, σ a < r) -> (∀ b < k, τ b < c) -> x ∣ aF k fun a b => A (σ a) (τ b)
theorem qP {x : Int} {f : Nat -> Int} : ∀ m, (∀ l < m, x ∣ f l) -> x ∣ sm m f
 | 0, _ => Int.dvd_zero _
 | m + 1, h => Int.dvd_add (qP m fun l hl => h l (by omega)) (h m (by omega))
theorem oX {k r : Nat} {x : Int} {A B : Mx} (h : ∀ σ : Nat -> Nat, (∀ a < k, σ a < r) -> x ∣ aF k fun a b => A (σ a) b) (hB : ∀ i < k, Sp r A (B i)) : x ∣ aF k B := by
 have key : ∀ m, m <= k -> ∀ N : Mx, (∀ a < m, ∃ i < k, N a = B i) -> (∀ a, m <= a -> a < k -> ∃ i < r, N a = A i) -> x ∣ aF k N := by
  intro m;induction m with
  | zero =>
   intro _ N _ h2;have hs : ∀ a, ∃ i, a < k -> i < r /\ N a = A i := fun a => by
    by_cases ha : a < k
    · obtain ⟨i, hi, e⟩ := h2 a (Nat.zero_le _) ha; exact ⟨i, fun _ => ⟨hi, e⟩⟩
    · exact ⟨0, fun q => absurd q ha⟩
   obtain ⟨ρ, hρ⟩ := Classical.axiomOfChoice hs;rw [aG k (N := fun a b => A (ρ a) b) fun a ha b _ => by rw [(hρ a ha).2]];exact h ρ fun a ha => (hρ a ha).1
  | succ m ih =>
   intro hm N h1 h2;obtain ⟨i, hi, e⟩ := h1 m (by omega);obtain ⟨y, hy⟩ := hB i hi;have eN : N = bG N m fun b => sm r fun l => y l * A l b := by
    funext a b;unfold bG;split
    · rename_i q; rw [q, e, hy]
    · rfl
   rw [eN, kG k N m (by omega) y A];refine qP r fun l hl => Int.dvd_mul_of_dvd_right (ih (by omega) _ (fun a ha => ?_) fun a ha hk => ?_)
   · obtain ⟨i', hi', e'⟩ := h1 a (by omega);exact ⟨i', hi', by rw [aK N (by omega)]; exact e'⟩
   · by_cases q : a = m
     · exact ⟨l, hl, by rw [q, bA]⟩
     · obtain ⟨i', hi', e'⟩ := h2 a (by omega) hk;exact ⟨i', hi', by rw [aK N q]; exact e'⟩
 exact key k (Nat.le_refl _) _ (fun a ha => ⟨a, ha, rfl⟩) fun a h1 h2 => by omega
section
variable {k k' s w : Nat} {T H : Mx} {l : Nat -> Nat}
end
theorem rC {B : Nat} : ∀ (n : Nat) (M : Mx), (∀ i j, (M i j).natAbs <= B) -> (aF n M).natAbs <= (n * B) ^ n
 | 0, _, _ => Nat.le_refl _
 | n + 1, M, h => by
  unfold aF;have h1 : (sm (n + 1) fun i => dr i * M i 0 * aF n (minor M i)).natAbs <= (n + 1) * (B * (n * B) ^ n) := lW fun i _ => by
   rw [Int.natAbs_mul, Int.natAbs_mul, show (dr i).natAbs = 1 by unfold dr; split <;> rfl, Nat.one_mul];exact Nat.mul_le_mul (h i 0) (rC n (minor M i) fun a b => h _ _)
  refine Nat.le_trans h1 ?_;rw [Nat.pow_succ, Nat.mul_comm ((( n + 1) * B) ^ n), Nat.mul_assoc (n + 1) B];exact Nat.mul_le_mul_left _ (Nat.mul_le_mul_left _ (Nat.pow_le_pow_left (Nat.mul_le_mul_right _ (by omega)) n))
theorem kD {a b : Nat} (h : a % 2 = b % 2) : dr a = dr b := by unfold dr; rw [h]
theorem o0 (a b : Nat) : dr a * dr b = dr (a + b) := by
 unfold dr;rcases Nat.mod_two_eq_zero_or_one a with h | h <;> rcases Nat.mod_two_eq_zero_or_one b with h' | h' <;> rw [h, h'] <;> simp <;> omega
theorem qJ {n p : Nat} (hp : p < n + 1) (g : Nat -> Int) : sm n (fun a => g (bH p a)) = sm (n + 1) fun q => if q = p then 0 else g q := by
 obtain ⟨m, rfl⟩ : ∃ m, n = p + m := ⟨n - p, by omega⟩;rw [fP p m, Nat.add_assoc, fP p (m + 1), Nat.add_comm m 1, fP 1 m];have e1 : sm p (fun a => g (bH p a)) = sm p fun q => if q = p then 0 else g q := aj fun a ha => by
  rw [if_neg (by omega)]; unfold bH; rw [if_pos ha]
 have e2 : sm m (fun k => g (bH p (p + k))) = sm m fun k => if p + (1 + k) = p then 0 else g (p + (1 + k)) := aj fun a ha => by
  rw [if_neg (by omega)]; unfold bH; rw [if_neg (by omega)]; congr 1; omega
 have e3 : (sm 1 fun k => if p + k = p then 0 else g (p + k)) = 0 := by simp [sm]
 rw [e1, e2, e3, Int.zero_add]
def qZ (p q b : Nat) : Nat := if b < min p q then b else if b + 1 < max p q then b + 1 else b + 2
theorem oI (p q b : Nat) : qZ p q b = qZ q p b := by unfold qZ; rw [Nat.min_comm, Nat.max_comm]
theorem nw (p a b : Nat) : bH p (bH a b) = qZ p (bH p a) b := by
 unfold qZ bH;by_cases h1 : a < p
 · simp only [h1, if_true];by_cases h2 : b < a
   · rw [if_pos h2, if_pos (by omega), if_pos (by omega)]
   · rw [if_neg h2];by_cases h3 : b + 1 < p
     · rw [if_pos h3, if_neg (by omega), if_pos (by omega)]
     · rw [if_neg h3, if_neg (by omega), if_neg (by omega)]
 · simp only [h1, if_false];by_cases h2 : b < a
   · rw [if_pos h2];by_cases h3 : b < p
     · rw [if_pos h3, if_pos (by omega)]
     · rw [if_neg h3, if_neg (by omega), if_pos (by omega)]
   · rw [if_neg h2, if_neg (by omega), if_neg (by omega), if_neg (by omega)]
def o6 (n : Nat) (M : Mx) (p q : Nat) : Int := dr (p + q + n + if q < p then 0 else 1) * M p 0 * M q (n + 1) * aF n fun a b => M (qZ p q a) (b + 1)
theorem kV : ∀ (n : Nat) (M : Mx), aF (n + 1) M = sm (n + 1) fun i => dr (i + n) * M i n * aF n fun a b => M (bH i a) b
 | 0, M => rfl
 | n + 1, M => by
  have h1 : aF (n + 2) M = sm (n + 2) fun p => sm (n + 2) fun q => if q = p then 0 else o6 n M p q := by
   rw [aF];refine aj fun p hp => ?_;rw [kV n (minor M p), <- bC, <- qJ hp];refine aj fun a ha => ?_;have e : (fun a' b => minor M p (bH a a') b) = fun a' b => M (qZ p (bH p a) a') (b + 1) := by
    funext a' b;show M (bH p (bH a a')) (b + 1) = _;rw [nw]
   rw [e];unfold o6;generalize aF n (fun a' b => M (qZ p (bH p a) a') (b + 1)) = D;have e2 : dr (p + bH p a + n + if bH p a < p then 0 else 1) = dr p * dr (a + n) := by
    rw [o0]; refine kD ?_; unfold bH; (repeat' split) <;> omega
   rw [e2];show dr p * M p 0 * (dr (a + n) * M (bH p a) (n + 1) * D) = _
   ac_rfl
  have h2 : (sm (n + 2) fun i => dr (i + (n + 1)) * M i (n + 1) * aF (n + 1) fun a b => M (bH i a) b) = sm (n + 2) fun q => sm (n + 2) fun p => if p = q then 0 else o6 n M p q := by
   refine aj fun q hq => ?_;rw [aF, <- bC, <- qJ hq];refine aj fun a ha => ?_;have e : minor (fun a b => M (bH q a) b) a = fun a' b => M (qZ (bH q a) q a') (b + 1) := by
    funext a' b;show M (bH q (bH a a')) (b + 1) = _;rw [nw, oI]
   rw [e];unfold o6;generalize aF n (fun a' b => M (qZ (bH q a) q a') (b + 1)) = D;have e2 : dr (bH q a + q + n + if q < bH q a then 0 else 1) = dr (q + (n + 1)) * dr a := by
    rw [o0]; refine kD ?_; unfold bH; (repeat' split) <;> omega
   rw [e2]
   ac_rfl
  rw [h1, h2, iD];refine aj fun q _ => aj fun p _ => ?_;by_cases h : q = p
  · rw [if_pos h, if_pos h.symm]
  · rw [if_neg h, if_neg (fun e => h e.symm)]
theorem pZ : ∀ (n t : Nat) (M : Mx), t < n -> (∀ a, a < n + 1 -> M a t = M a n) -> aF (n + 1) M = 0
 | n + 1, 0, M, _, h => by
  have h1 : aF (n + 2) M = sm (n + 2) fun p => sm (n + 2) fun q => if q = p then 0 else o6 n M p q := by
   rw [aF];refine aj fun p hp => ?_;rw [kV n (minor M p), <- bC, <- qJ hp];refine aj fun a ha => ?_;have e : (fun a' b => minor M p (bH a a') b) = fun a' b => M (qZ p (bH p a) a') (b + 1) := by
    funext a' b;show M (bH p (bH a a')) (b + 1) = _;rw [nw]
   rw [e];unfold o6;generalize aF n (fun a' b => M (qZ p (bH p a) a') (b + 1)) = D;have e2 : dr (p + bH p a + n + if bH p a < p then 0 else 1) = dr p * dr (a + n) := by
    rw [o0]; refine kD ?_; unfold bH; (repeat' split) <;> omega
   rw [e2];show dr p * M p 0 * (dr (a + n) * M (bH p a) (n + 1) * D) = _
   ac_rfl
  have h2 : (sm (n + 2) fun p => sm (n + 2) fun q => if q = p then 0 else o6 n M p q) = - sm (n + 2) fun p => sm (n + 2) fun q => if q = p then 0 else o6 n M p q := by
   conv => lhs; rw [iD]
   have e : ∀ f : Nat -> Int, - sm (n + 2) f = sm (n + 2) fun i => (-1) * f i := fun f => by rw [bC]; omega
   rw [e];refine aj fun p hp => ?_;rw [<- bC];refine aj fun q hq => ?_;by_cases hpq : p = q
   · rw [if_pos hpq, if_pos hpq.symm]; rfl
   · rw [if_neg hpq, if_neg (fun e => hpq e.symm)];unfold o6;have eD : (fun a b => M (qZ q p a) (b + 1)) = fun a b => M (qZ p q a) (b + 1) := by funext a b; rw [oI]
     rw [eD];generalize aF n (fun a b => M (qZ p q a) (b + 1)) = D;have es : dr (q + p + n + if p < q then 0 else 1) = - dr (p + q + n + if q < p then 0 else 1) := by
      rw [<- jw]; refine kD ?_; (repeat' split) <;> omega
     rw [es, <- h p (by omega), h q (by omega)];rw [Int.neg_mul, Int.neg_mul, Int.neg_mul, Int.neg_one_mul, Int.mul_assoc (dr _) (M q _), Int.mul_comm (M q _), <- Int.mul_assoc (dr _)]
  rw [h1]; omega
 | n + 1, t + 1, M, ht, h => by
  rw [aF];refine bf fun p hp => ?_;rw [pZ n t (minor M p) (by omega) fun a ha => h _ (by unfold bH; split <;> omega), Int.mul_zero]
theorem jS : ∀ (k m : Nat) (M : Mx), (∀ a, k <= a -> a < k + m -> ∀ b < k, M a b = 0) -> aF (k + m) M = aF k M * aF m fun a b => M (k + a) (k + b)
 | 0, m, M, _ => by
  rw [Nat.zero_add];show aF m M = 1 * _;rw [Int.one_mul];exact aG m fun a _ b _ => by rw [Nat.zero_add, Nat.zero_add]
 | k + 1, m, M, h => by
  rw [show k + 1 + m = k + m + 1 by omega, aF, show k + m + 1 = k + 1 + m by omega, fP (k + 1) m];have e0 : (sm m fun i => dr (k + 1 + i) * M (k + 1 + i) 0 * aF (k + m) (minor M (k + 1 + i))) = 0 := bf fun i hi => by
   rw [h (k + 1 + i) (by omega) (by omega) 0 (by omega), Int.mul_zero, Int.zero_mul]
  rw [e0, Int.add_zero, aF, <- dR];refine aj fun i hi => ?_;have e : (aF m fun a b => minor M i (k + a) (k + b)) = aF m fun a b => M (k + 1 + a) (k + 1 + b) := aG m fun a _ b _ => by
   show M (bH i (k + a)) (k + b + 1) = _;unfold bH;rw [if_neg (by omega), show k + a + 1 = k + 1 + a by omega, show k + b + 1 = k + 1 + b by omega]
  rw [jS k m (minor M i) fun a h1 h2 b hb => h _ (by unfold bH; split <;> omega) (by unfold bH; split <;> omega) _ (by omega), e]
  ac_rfl
theorem det2 (M : Mx) : aF 2 M = M 0 0 * M 1 1 - M 1 0 * M 0 1 := by
 simp [aF, sm, dr, minor, bH, Int.neg_mul];omega
def mn (k : Nat) (A : Mx) (nu cs : Nat -> Nat) (i j : Nat) : Int := aF (k + 1) fun a b => A (if a < k then nu a else i) (if b < k then cs b else j)
def dn (k : Nat) (A : Mx) (nu cs : Nat -> Nat) : Int := aF k fun a b => A (nu a) (cs b)
section
variable {A : Mx} {nu cs : Nat -> Nat} {k : Nat}
theorem gh (k : Nat) (A : Mx) (nu cs : Nat -> Nat) (i : Nat) : ∃ y : Nat -> Int, ∀ j, mn k A nu cs i j = dn k A nu cs * A i j + sm k fun t => y t * A (nu t) j := by
 refine ⟨fun t => dr (t + k) * aF k fun a b => A (if bH t a < k then nu (bH t a) else i) (cs b), fun j => ?_⟩;unfold mn;rw [kV, sm, Int.add_comm];congr 1
 · have e : (aF k fun a b => A (if bH k a < k then nu (bH k a) else i) (if b < k then cs b else j)) = dn k A nu cs := aG k fun a ha b hb => by
    have : bH k a = a := by unfold bH; rw [if_pos ha]
    rw [this, if_pos ha, if_pos hb]
   rw [e, if_neg (Nat.lt_irrefl k), if_neg (Nat.lt_irrefl k), show dr (k + k) = 1 by unfold dr; rw [if_pos (by omega)], Int.one_mul, Int.mul_comm]
 · refine aj fun t ht => ?_;rw [if_pos ht, if_neg (Nat.lt_irrefl k)];have e : (aF k fun a b => A (if bH t a < k then nu (bH t a) else i) (if b < k then cs b else j)) = aF k fun a b => A (if bH t a < k then nu (bH t a) else i) (cs b) := aG k fun a _ b hb => by rw [if_pos hb]
   rw [e, Int.mul_right_comm]
theorem kH {t : Nat} (ht : t < k) (i : Nat) : mn k A nu cs i (cs t) = 0 := by
 unfold mn;exact pZ k t _ ht fun a _ => by rw [if_pos ht, if_neg (Nat.lt_irrefl k)]
theorem rR : dn (k + 1) A nu cs = mn k A nu cs (nu k) (cs k) := aG (k + 1) fun a ha b hb => by
 have e1 : (if a < k then nu a else nu k) = nu a := by split; rfl; rw [show a = k by omega]
 have e2 : (if b < k then cs b else cs k) = cs b := by split; rfl; rw [show b = k by omega]
 rw [e1, e2]
theorem eU {nu' cs' : Nat -> Nat} (h1 : ∀ t < k, nu' t = nu t) (h2 : ∀ t < k, cs' t = cs t) (i j : Nat) : mn k A nu' cs' i j = mn k A nu cs i j := aG (k + 1) fun a _ b _ => by
 have e1 : (if a < k then nu' a else i) = if a < k then nu a else i := by split; exact h1 a ‹_›; rfl
 have e2 : (if b < k then cs' b else j) = if b < k then cs b else j := by split; exact h2 b ‹_›; rfl
 rw [e1, e2]
theorem pb {nu' cs' : Nat -> Nat} (h1 : ∀ t < k, nu' t = nu t) (h2 : ∀ t < k, cs' t = cs t) : dn k A nu' cs' = dn k A nu cs := aG k fun a ha b hb => by rw [h1 a ha, h2 b hb]
theorem lL (n : Nat) (M : Mx) {r : Nat} (hr : r < n) (d : Int) (y : Nat -> Int) {m : Nat} (hm : m <= r) : aF n (bG M r fun b => d * M r b + sm m fun t => y t * M t b) = d * aF n M := by
 have e : (fun b => d * M r b + sm m fun t => y t * M t b) = fun b => d * M r b + sm m fun t => (if t < m then y t else 0) * M t b := by
  funext b; congr 1; exact aj fun t ht => by rw [if_pos ht]
 rw [e, j3 n M r hr (fun t => if t < m then y t else 0) (if_neg (by omega)) m (by omega), fM n M r d _ hr, eo]
theorem zg (h0 : dn k A nu cs ≠ 0) (i j : Nat) : dn k A nu cs * mn (k + 1) A nu cs i j = mn k A nu cs (nu k) (cs k) * mn k A nu cs i j - mn k A nu cs i (cs k) * mn k A nu cs (nu k) j := by
 obtain ⟨col, hcol⟩ : ∃ col : Nat -> Nat, ∀ b, col b = if b < k + 1 then cs b else j := ⟨fun b => if b < k + 1 then cs b else j, fun _ => rfl⟩;obtain ⟨M, hM⟩ : ∃ M : Mx, ∀ a b, M a b = A (if a < k + 1 then nu a else i) (col b) := ⟨fun a b => A (if a < k + 1 then nu a else i) (col b), fun _ _ => rfl⟩;have hN : mn (k + 1) A nu cs i j = aF (k + 2) M := aG (k + 2) fun a _ b _ => by rw [hM, hcol]
 obtain ⟨y, hy⟩ := gh k A nu cs i;obtain ⟨z, hz⟩ := gh k A nu cs (nu k);have hMt : ∀ t < k, ∀ b, M t b = A (nu t) (col b) := fun t ht b => by rw [hM, if_pos (by omega)]
 have e1 : (fun b => mn k A nu cs i (col b)) = fun b => dn k A nu cs * M (k + 1) b + sm k fun t => y t * M t b := by
  funext b;rw [hy, hM (k + 1), if_neg (by omega)];congr 1;exact aj fun t ht => by rw [hMt t ht]
 have d1 : aF (k + 2) (bG M (k + 1) fun b => mn k A nu cs i (col b)) = dn k A nu cs * aF (k + 2) M := by
  rw [e1]; exact lL (k + 2) M (by omega) _ y (by omega)
 obtain ⟨M1, hM1⟩ : ∃ M1, bG M (k + 1) (fun b => mn k A nu cs i (col b)) = M1 := ⟨_, rfl⟩;rw [hM1] at d1;have hM1t : ∀ t < k + 1, ∀ b, M1 t b = M t b := fun t ht b => by rw [<- hM1, aK _ (by omega)]
 have e2 : (fun b => mn k A nu cs (nu k) (col b)) = fun b => dn k A nu cs * M1 k b + sm k fun t => z t * M1 t b := by
  funext b;rw [hz, hM1t k (by omega), hM k, if_pos (by omega)];congr 1;exact aj fun t ht => by rw [hM1t t (by omega), hMt t ht]
 have d2 : aF (k + 2) (bG M1 k fun b => mn k A nu cs (nu k) (col b)) = dn k A nu cs * aF (k + 2) M1 := by
  rw [e2]; exact lL (k + 2) M1 (by omega) _ z (Nat.le_refl k)
 obtain ⟨M2, hM2⟩ : ∃ M2, bG M1 k (fun b => mn k A nu cs (nu k) (col b)) = M2 := ⟨_, rfl⟩;rw [hM2, d1] at d2;have r0 : ∀ b, M2 k b = mn k A nu cs (nu k) (col b) := fun b => by rw [<- hM2, bA]
 have r1 : ∀ b, M2 (k + 1) b = mn k A nu cs i (col b) := fun b => by rw [<- hM2, aK _ (by omega), <- hM1, bA]
 have hb := jS k 2 M2 fun a h1 h2 b hb => by
  have hc : col b = cs b := by rw [hcol, if_pos (by omega)]
  rcases (by omega : a = k ∨ a = k + 1) with rfl | rfl
  · rw [r0, hc]; exact kH hb _
  · rw [r1, hc]; exact kH hb _
 have hd : aF k M2 = dn k A nu cs := aG k fun a ha b hb => by
  rw [<- hM2, aK _ (by omega), hM1t a (by omega), hM, if_pos (by omega), hcol, if_pos (by omega)]
 have c0 : col k = cs k := by rw [hcol, if_pos (by omega)]
 have c1 : col (k + 1) = j := by rw [hcol, if_neg (by omega)]
 rw [hb, hd, det2] at d2;simp only [Nat.add_zero] at d2;rw [r0, r0, r1, r1, c0, c1] at d2;rw [hN];exact (Int.eq_of_mul_eq_mul_left h0 d2).symm
structure gA (n m : Nat) (A : Mx) (c k : Nat) (nu cs : Nat -> Nat) (R : Mx) (d : Int) : Prop where
 kn : k <= n
 cm : c <= m
 lt : ∀ i < n, nu i < n
 inj : ∀ i < n, ∀ j < n, nu i = nu j -> i = j
 inc : ∀ a b, a < b -> b < k -> cs a < cs b
 csl : ∀ t < k, cs t < c
 dE : d = dn k A nu cs
 d0 : d ≠ 0
 row : ∀ i, k <= i -> i < n -> ∀ j < m, R i j = mn k A nu cs (nu i) j
 z : ∀ i, k <= i -> i < n -> ∀ j < c, R i j = 0
 lz : ∀ t < k, ∀ j < cs t, mn t A nu cs (nu t) j = 0
 l0 : ∀ t < k, mn t A nu cs (nu t) (cs t) ≠ 0
end
section
variable {n m : Nat} {A : Mx} {c k : Nat} {nu cs : Nat -> Nat} {R : Mx} {d : Int}
theorem gA.start {n m : Nat} {A R : Mx} (cs : Nat -> Nat) (hR : ∀ i < n, ∀ j < m, R i j = A i j) : gA n m A 0 0 (fun i => i) cs R 1 :=
 ⟨Nat.zero_le _, Nat.zero_le _, fun _ h => h, fun _ _ _ _ e => e, fun _ _ _ h => by omega, fun _ h => by omega, rfl, by decide, fun i _ hi j hj => by rw [hR i hi j hj]; simp [mn, aF, sm, dr], fun _ _ _ _ h => by omega, fun _ h => by omega, fun _ h => by omega⟩
theorem gA.skip (h : gA n m A c k nu cs R d) (hc : c < m) (h0 : ∀ i, k <= i -> i < n -> R i c = 0) : gA n m A (c + 1) k nu cs R d :=
 ⟨h.kn, hc, h.lt, h.inj, h.inc, fun t ht => by have := h.csl t ht; omega, h.dE, h.d0, h.row, fun i h1 h2 j hj => by
  rcases (by omega : j < c ∨ j = c) with q | rfl
  · exact h.z i h1 h2 j q
  · exact h0 i h1 h2, h.lz, h.l0⟩
def jV (k p i : Nat) : Nat := if i = k then p else if i = p then k else i
theorem fv {n k p i : Nat} (hk : k < n) (hp : p < n) (hi : i < n) : jV k p i < n := by unfold jV; (repeat' split) <;> omega
theorem vI {k p i : Nat} (hp : k <= p) (hi : k <= i) : k <= jV k p i := by unfold jV; (repeat' split) <;> omega
theorem xx {k p i : Nat} (hp : k <= p) (hi : i < k) : jV k p i = i := by unfold jV; rw [if_neg (by omega), if_neg (by omega)]
theorem sP {k p i j : Nat} (h : jV k p i = jV k p j) : i = j := by unfold jV at h; (repeat' split at h) <;> omega
theorem gA.swap {p : Nat} {R' : Mx} (h : gA n m A c k nu cs R d) (hp : k <= p) (hpn : p < n) (hR : ∀ i, k <= i -> i < n -> ∀ j < m, R' i j = R (jV k p i) j) : gA n m A c k (fun i => nu (jV k p i)) cs R' d := by
 have hk : k < n := by omega
 have hl : ∀ t < k, nu (jV k p t) = nu t := fun t ht => by rw [xx hp ht]
 refine ⟨h.kn, h.cm, fun i hi => h.lt _ (fv hk hpn hi), fun i hi j hj e => sP (h.inj _ (fv hk hpn hi) _ (fv hk hpn hj) e), h.inc, h.csl, ?_, h.d0, fun i h1 h2 j hj => ?_, fun i h1 h2 j hj => ?_, fun t ht j hj => ?_, fun t ht => ?_⟩
 · rw [pb (cs' := cs) hl (fun _ _ => rfl)]; exact h.dE
 · rw [hR i h1 h2 j hj, h.row _ (vI hp h1) (fv hk hpn h2) j hj, eU (nu := nu) (cs := cs) hl (fun _ _ => rfl)]
 · have := h.cm;rw [hR i h1 h2 j (by omega)]; exact h.z _ (vI hp h1) (fv hk hpn h2) j hj
 · rw [eU (nu := nu) (cs := cs) (fun s hs => hl s (by omega)) (fun _ _ => rfl), hl t ht]; exact h.lz t ht j hj
 · rw [eU (nu := nu) (cs := cs) (fun s hs => hl s (by omega)) (fun _ _ => rfl), hl t ht]; exact h.l0 t ht
def kt (cs : Nat -> Nat) (k c : Nat) : Nat -> Nat := fun t => if t = k then c else cs t
theorem dA {t : Nat} (ht : t < k) : kt cs k c t = cs t := by unfold kt; rw [if_neg (by omega)]
theorem j5 : kt cs k c k = c := by unfold kt; rw [if_pos rfl]
theorem gA.exact (h : gA n m A c k nu cs R d) (hc : c < m) {i j : Nat} (hi : k < i) (hin : i < n) (hj : j < m) : R k c * R i j - R i c * R k j = d * mn (k + 1) A nu (kt cs k c) (nu i) j := by
 have hcg : ∀ i j, mn k A nu (kt cs k c) i j = mn k A nu cs i j := fun i j => eU (fun _ _ => rfl) (fun t ht => dA ht) i j;have hdg : dn k A nu (kt cs k c) = d := by rw [h.dE]; exact pb (fun _ _ => rfl) (fun t ht => dA ht)
 have := zg (A := A) (nu := nu) (cs := kt cs k c) (k := k) (by rw [hdg]; exact h.d0) (nu i) j;rw [hdg, j5, hcg, hcg, hcg, hcg] at this;rw [this, h.row k (Nat.le_refl _) (by omega) c hc, h.row i (by omega) hin j hj, h.row i (by omega) hin c hc, h.row k (Nat.le_refl _) (by omega) j hj]
theorem gA.take {R' : Mx} (h : gA n m A c k nu cs R d) (hc : c < m) (hk : k < n) (hp : R k c ≠ 0) (hR : ∀ i, k < i -> i < n -> ∀ j < m, R' i j = if c < j then mn (k + 1) A nu (kt cs k c) (nu i) j else 0) : gA n m A (c + 1) (k + 1) nu (kt cs k c) R' (R k c) := by
 have hcg : ∀ i j, mn k A nu (kt cs k c) i j = mn k A nu cs i j := fun i j => eU (fun _ _ => rfl) (fun t ht => dA ht) i j;have hz : ∀ i, k < i -> i < n -> ∀ j, j <= c -> mn (k + 1) A nu (kt cs k c) (nu i) j = 0 := fun i h1 h2 j hj => by
  have e := h.exact hc h1 h2 (j := j) (by omega);rcases (by omega : j < c ∨ j = c) with q | rfl
  · rw [h.z i (by omega) h2 j q, h.z k (Nat.le_refl _) hk j q, Int.mul_zero, Int.mul_zero, Int.sub_zero] at e;exact (Int.mul_eq_zero.1 e.symm).resolve_left h.d0
  · rw [Int.mul_comm, Int.sub_self] at e;exact (Int.mul_eq_zero.1 e.symm).resolve_left h.d0
 refine ⟨hk, hc, h.lt, h.inj, fun a b hab hb => ?_, fun t ht => ?_, ?_, hp, fun i h1 h2 j hj => ?_, fun i h1 h2 j hj => ?_, fun t ht j hj => ?_, fun t ht => ?_⟩
 · rcases (by omega : b < k ∨ b = k) with q | rfl
   · rw [dA (by omega), dA q]; exact h.inc a b hab q
   · rw [dA hab, j5]; exact h.csl a hab
 · rcases (by omega : t < k ∨ t = k) with q | rfl
   · rw [dA q]; have := h.csl t q; omega
   · rw [j5]; omega
 · rw [rR, j5, hcg]; exact h.row k (Nat.le_refl _) hk c hc
 · rw [hR i (by omega) h2 j hj];split
   · rfl
   · exact (hz i (by omega) h2 j (by omega)).symm
 · rw [hR i (by omega) h2 j (by omega), if_neg (by omega)]
 · rcases (by omega : t < k ∨ t = k) with q | rfl
   · rw [dA q] at hj;rw [eU (nu := nu) (cs := cs) (fun _ _ => rfl) (fun s hs => dA (by omega))]; exact h.lz t q j hj
   · rw [j5] at hj;rw [hcg, <- h.row t (Nat.le_refl _) hk j (by omega)]; exact h.z t (Nat.le_refl _) hk j hj
 · rcases (by omega : t < k ∨ t = k) with q | rfl
   · rw [dA q, eU (nu := nu) (cs := cs) (fun _ _ => rfl) (fun s hs => dA (by omega))]; exact h.l0 t q
   · rw [j5, hcg, <- h.row t (Nat.le_refl _) hk c hc]; exact hp
theorem mn_bd {B : Nat} (hA : ∀ i j, (A i j).natAbs <= B) (k i j : Nat) : (mn k A nu cs i j).natAbs <= ((k + 1) * B) ^ (k + 1) := rC (k + 1) _ fun _ _ => hA _ _
theorem gA.aF {s : Int} (h : gA n n A n n nu cs R d) : d = Go.Proofs.Ytjjlmfmoihooiaa.aF n fun a b => A (nu a) b := by
 have hc : ∀ t < n, cs t = t := by
  intro t ht;have h1 : ∀ s, s < n -> s <= cs s := by
   intro s;induction s with
   | zero => intro _; exact Nat.zero_le _
   | succ s ih => intro hs; have := ih (by omega); have := h.inc s (s + 1) (by omega) hs; omega
  have h2 : ∀ e s, s + e + 1 = n -> cs s <= s := by
   intro e;induction e with
   | zero => intro s hs; have := h.csl s (by omega); omega
   | succ e ih => intro s hs; have := ih (s + 1) (by omega); have := h.inc s (s + 1) (by omega) (by omega); omega
  have := h1 t ht;have := h2 (n - t - 1) t (by omega);omega
 rw [h.dE];exact aG n fun a _ b hb => by rw [hc b hb]
theorem gA.det0 (h : gA n n A k k nu cs R d) (hk : k < n) (h0 : ∀ i, k <= i -> i < n -> R i k = 0) : (Go.Proofs.Ytjjlmfmoihooiaa.aF n fun a b => A (nu a) b) = 0 := by
 have hc : ∀ t < k, cs t = t := by
  intro t ht;have h1 : ∀ s, s < k -> s <= cs s := by
   intro s;induction s with
   | zero => intro _; exact Nat.zero_le _
   | succ s ih => intro hs; have := ih (by omega); have := h.inc s (s + 1) (by omega) hs; omega
  have h2 : ∀ e s, s + e + 1 = k -> cs s <= s := by
   intro e;induction e with
   | zero => intro s hs; have := h.csl s (by omega); omega
   | succ e ih => intro s hs; have := ih (s + 1) (by omega); have := h.inc s (s + 1) (by omega) (by omega); omega
  have := h1 t ht;have := h2 (k - t - 1) t (by omega);omega
 have hch : ∀ i, ∃ y : Nat -> Int, ∀ j, mn k A nu cs (nu i) j = dn k A nu cs * A (nu i) j + sm k fun t => y t * A (nu t) j := fun i => gh k A nu cs (nu i);obtain ⟨y, hy⟩ := Classical.axiomOfChoice hch;obtain ⟨B, hB⟩ : ∃ B : Mx, ∀ i j, B i j = if i < k then A (nu i) j else mn k A nu cs (nu i) j := ⟨fun i j => if i < k then A (nu i) j else mn k A nu cs (nu i) j, fun _ _ => rfl⟩;have hr := uu n (fun a b => A (nu a) b) B (fun i => if i < k then 1 else d) (fun _ => 1) (fun i t => if i < k then 0 else if t < k then y i t else 0) fun i hi j => by
  by_cases q : i < k
  · simp only [q, if_true];rw [hB, if_pos q, bf fun t _ => Int.zero_mul _, Int.add_zero]
  · simp only [q, if_false];rw [hB, if_neg q, hy, Int.one_mul, <- h.dE];congr 1;obtain ⟨e, rfl⟩ : ∃ e, i = k + e := ⟨i - k, by omega⟩;rw [fP k e, bf (n := e) fun t _ => by rw [if_neg (by omega), Int.zero_mul], Int.add_zero];exact aj fun t ht => by rw [if_pos ht, hB, if_pos ht]
 obtain ⟨e, rfl⟩ : ∃ e, n = k + (e + 1) := ⟨n - k - 1, by omega⟩;have hb := jS k (e + 1) B fun a h1 h2 b hb => by rw [hB, if_neg (by omega), <- h.row a h1 h2 b (by omega)]; exact h.z a h1 h2 b hb
 have hz : (Go.Proofs.Ytjjlmfmoihooiaa.aF (e + 1) fun a b => B (k + a) (k + b)) = 0 := by
  rw [Go.Proofs.Ytjjlmfmoihooiaa.aF];exact bf fun a ha => by
   show dr a * B (k + a) (k + 0) * _ = 0;rw [Nat.add_zero, hB, if_neg (by omega), <- h.row (k + a) (by omega) (by omega) k (by omega), h0 (k + a) (by omega) (by omega), Int.mul_zero, Int.zero_mul]
 rw [hb, hz, Int.mul_zero, Int.mul_zero] at hr;refine (Int.mul_eq_zero.1 hr.symm).resolve_left (pP _ fun i hi => ?_);split
 · decide
 · exact h.d0
theorem x3 {k p : Nat} (hk : k < n) (hp : p < n) (hkp : k ≠ p) (B : Mx) : (Go.Proofs.Ytjjlmfmoihooiaa.aF n fun a b => B (jV k p a) b) = - Go.Proofs.Ytjjlmfmoihooiaa.aF n B := by
 have e1 : (fun a b => B (jV k p a) b) = bG (bG B k (B p)) p (B k) := by
  funext a b;unfold jV bG;by_cases h1 : a = k
  · subst h1; rw [if_pos rfl, if_neg hkp, if_pos rfl]
  · rw [if_neg h1];by_cases h2 : a = p
    · rw [if_pos h2, if_pos h2]
    · rw [if_neg h2, if_neg h2, if_neg h1]
 have e2 : bG (bG B k (B k)) p (B p) = B := by rw [eo, eo]
 rw [e1, pM n B hk hp hkp, e2]
theorem gA.leads {r c' : Nat} {E : Mx} {l : Nat -> Nat} (h : gA n m A m k nu cs R d) (hA : ∀ i j, m <= j -> A i j = 0) (hE : Ech r c' E l) (hs : aO r E n A) : k = r /\ ∀ t < k, cs t = l t := by
 obtain ⟨T, hT⟩ : ∃ T : Mx, ∀ t j, T t j = mn t A nu cs (nu t) j := ⟨fun t j => mn t A nu cs (nu t) j, fun _ _ => rfl⟩;have hst : mZ k T cs := ⟨fun i hi => by rw [hT]; exact h.l0 i hi, fun i hi j hj => by rw [hT]; exact h.lz i hi j hj, fun a ha i hi => by rw [hT]; exact kH hi _⟩;have hkn := h.kn;have hTA : ∀ t < k, Sp n A (T t) := fun t ht => by
  obtain ⟨y, hy⟩ := gh t A nu cs (nu t);have h1 : Sp n A fun j => dn t A nu cs * A (nu t) j := (Sp.row A (h.lt t (by omega))).smul _;have h2 : Sp n A fun j => sm t fun s => y s * A (nu s) j := Sp.sm (F := fun s => A (nu s)) (x := y) fun s hs => Sp.row A (h.lt s (by omega));exact (h1.add h2).congr fun j => by rw [hT, hy]
 have hdt : ∀ t < k + 1, dn t A nu cs ≠ 0 := fun t ht => by
  rcases (by omega : t < k ∨ t = k) with q | rfl
  · cases t with
    | zero => simp [dn, Go.Proofs.Ytjjlmfmoihooiaa.aF]
    | succ t => rw [rR]; exact h.l0 t (by omega)
  · rw [<- h.dE]; exact h.d0
 have hlow : ∀ s, s < k -> ∃ N : Int, N ≠ 0 /\ Sp k T fun j => N * A (nu s) j := by
  intro s;induction s using Nat.strongRecOn with
  | _ s ih =>
   intro hs';obtain ⟨y, hy⟩ := gh s A nu cs (nu s);obtain ⟨N, hN, hsp⟩ := oY (R := T) (A := fun t => A (nu t)) (n := s) (k := k) (fun i hi => ih i hi (by omega)) (v := fun j => sm s fun t => y t * A (nu t) j) ⟨y, fun _ => rfl⟩;refine ⟨N * dn s A nu cs, Int.mul_ne_zero hN (hdt s (by omega)), ((((Sp.row T hs').smul N).sub hsp)).congr fun j => ?_⟩;rw [hT, hy, Int.mul_add, Int.mul_assoc]; omega
 have hall : ∀ i < n, ∃ N : Int, N ≠ 0 /\ Sp k T fun j => N * A i j := fun i hi => by
  obtain ⟨s, hsn, rfl⟩ := ur n nu h.lt h.inj i hi;by_cases q : s < k
  · exact hlow s q
  · obtain ⟨y, hy⟩ := gh k A nu cs (nu s);obtain ⟨N, hN, hsp⟩ := oY (R := T) (A := fun t => A (nu t)) (n := k) (k := k) hlow (v := fun j => sm k fun t => y t * A (nu t) j) ⟨y, fun _ => rfl⟩;refine ⟨N * dn k A nu cs, Int.mul_ne_zero hN (hdt k (by omega)), (hsp.smul (-1)).congr fun j => ?_⟩;have h0 : mn k A nu cs (nu s) j = 0 := by
     by_cases hj : j < m
     · rw [<- h.row s (by omega) hsn j hj]; exact h.z s (by omega) hsn j hj
     · rw [hy, hA _ _ (by omega), Int.mul_zero, Int.zero_add]; exact bf fun t _ => by rw [hA _ _ (by omega), Int.mul_zero]
    have h1 := hy j;rw [h0] at h1;rw [Int.mul_assoc];generalize dn k A nu cs * A (nu s) j = u at *;generalize sm k (fun t => y t * A (nu t) j) = v at *;obtain rfl : u = -v := by omega
    rw [Int.mul_neg]; omega
 have hkr := oK hst hE hs hall fun i hi => ⟨1, by decide, (hTA i hi).congr fun j => Int.one_mul _⟩;refine ⟨hkr, ?_⟩;have hq : ∀ t, ∃ q, t < k -> q < r /\ l q = cs t := fun t => by
  by_cases ht : t < k
  · obtain ⟨q, h1, h2, _⟩ := hE.lead ((hTA t ht).trans hs.2) (q := cs t) (hst.at_ t ht) (hst.zero t ht);exact ⟨q, fun _ => ⟨h1, h2⟩⟩
  · exact ⟨0, fun h => absurd h ht⟩
 obtain ⟨q, hq⟩ := Classical.axiomOfChoice hq;have hmono : ∀ s t, s < t -> t < k -> q s < q t := fun s t hst' ht => by
  refine Nat.lt_of_not_le fun hle => ?_;have h1 := h.inc s t hst' ht;rw [<- (hq s (by omega)).2, <- (hq t ht).2] at h1;rcases Nat.lt_or_eq_of_le hle with h2 | h2
  · have := hE.inc (q t) (q s) h2 (hq s (by omega)).1; omega
  · rw [h2] at h1; omega
 have up : ∀ s, s < k -> s <= q s := by
  intro s;induction s with
  | zero => intro _; exact Nat.zero_le _
  | succ s ih => intro hs'; have := ih (by omega); have := hmono s (s + 1) (by omega) hs'; omega
 have dw : ∀ e s, s + e + 1 = k -> q s <= s := by
  intro e;induction e with
  | zero => intro s hs'; have := (hq s (by omega)).1; omega
  | succ e ih => intro s hs'; have := ih (s + 1) (by omega); have := hmono s (s + 1) (by omega) (by omega); omega
 intro t ht;have h1 := up t ht;have h2 := dw (k - t - 1) t (by omega);have h3 : q t = t := by omega
 rw [<- (hq t ht).2, h3]
end
theorem pO {mw k : Nat} (hk : k <= 64) : (k * W ^ mw) ^ k < W ^ (64 * (mw + 1)) := by
 have h1 : k * W ^ mw < W ^ (mw + 1) := by
  rw [Nat.pow_succ, Nat.mul_comm (W ^ mw)];exact Nat.mul_lt_mul_of_pos_right (Nat.lt_of_le_of_lt hk (by unfold W; omega)) (Nat.pow_pos (by unfold W; omega))
 rcases Nat.eq_zero_or_pos k with rfl | h0
 · exact Nat.one_lt_pow (by omega) (by unfold W; omega)
 · refine Nat.lt_of_lt_of_le (Nat.pow_lt_pow_left h1 (by omega)) ?_;rw [<- Nat.pow_mul];exact Nat.pow_le_pow_right (by unfold W; omega) (by rw [Nat.mul_comm]; exact Nat.mul_le_mul_right _ hk)
theorem gv (n : Nat) (f : Nat -> Int) : sm (n + 1) f = f 0 + sm n fun k => f (k + 1) := by
 rw [Nat.add_comm n 1, fP];show 0 + f 0 + _ = _;rw [Int.zero_add];exact congrArg _ (aj fun k _ => by rw [Nat.add_comm])
theorem sF : ∀ (n : Nat) (M : Mx), aF (n + 1) M = sm (n + 1) fun j => dr j * M 0 j * aF n fun a b => M (a + 1) (bH j b)
 | 0, M => by
  show 0 + dr 0 * M 0 0 * 1 = 0 + dr 0 * M 0 0 * 1;rfl
 | n + 1, M => by
  have h1 : aF (n + 2) M = dr 0 * M 0 0 * aF (n + 1) (minor M 0) + sm (n + 1) fun i => dr (i + 1) * M (i + 1) 0 * aF (n + 1) (minor M (i + 1)) := gv (n + 1) _;rw [h1, gv (n + 1)];have e0 : aF (n + 1) (minor M 0) = aF (n + 1) fun a b => M (a + 1) (bH 0 b) := aG _ fun a _ b _ => by simp [minor, bH]
  rw [e0];refine congrArg _ ?_;have e1 : (sm (n + 1) fun i => dr (i + 1) * M (i + 1) 0 * aF (n + 1) (minor M (i + 1))) = sm (n + 1) fun i => sm (n + 1) fun j => dr (i + 1) * dr j * M (i + 1) 0 * M 0 (j + 1) * aF n fun a b => M (bH i a + 1) (bH j b + 1) := aj fun i _ => by
   rw [sF n (minor M (i + 1)), <- bC];refine aj fun j _ => ?_;have e2 : (aF n fun a b => minor M (i + 1) (a + 1) (bH j b)) = aF n fun a b => M (bH i a + 1) (bH j b + 1) := aG _ fun a _ b _ => by
    show M (bH (i + 1) (a + 1)) (bH j b + 1) = _;have : bH (i + 1) (a + 1) = bH i a + 1 := by unfold bH; (repeat' split) <;> omega
    rw [this]
   rw [e2];have e3 : minor M (i + 1) 0 j = M 0 (j + 1) := by
    show M (bH (i + 1) 0) (j + 1) = _;have : bH (i + 1) 0 = 0 := by unfold bH; rw [if_pos (by omega)]
    rw [this]
   rw [e3]
   ac_rfl
  have f1 : (sm (n + 1) fun j => dr (j + 1) * M 0 (j + 1) * aF (n + 1) fun a b => M (a + 1) (bH (j + 1) b)) = sm (n + 1) fun j => sm (n + 1) fun i => dr (i + 1) * dr j * M (i + 1) 0 * M 0 (j + 1) * aF n fun a b => M (bH i a + 1) (bH j b + 1) := aj fun j _ => by
   have f2 : (aF (n + 1) fun a b => M (a + 1) (bH (j + 1) b)) = sm (n + 1) fun i => dr i * M (i + 1) 0 * aF n fun a b => M (bH i a + 1) (bH j b + 1) := by
    show (sm (n + 1) fun i => dr i * M (i + 1) (bH (j + 1) 0) * aF n (minor (fun a b => M (a + 1) (bH (j + 1) b)) i)) = _;refine aj fun i _ => ?_;have g1 : bH (j + 1) 0 = 0 := by unfold bH; rw [if_pos (by omega)]
    rw [g1];congr 1;refine aG _ fun a _ b _ => ?_;show M (bH i a + 1) (bH (j + 1) (b + 1)) = _;have : bH (j + 1) (b + 1) = bH j b + 1 := by unfold bH; (repeat' split) <;> omega
    rw [this]
   rw [f2, <- bC];refine aj fun i _ => ?_;rw [jw j, jw i];simp only [Int.neg_mul, Int.mul_neg];refine congrArg _ ?_
   ac_rfl
  rw [e1, f1, iD]
theorem o8 : ∀ (n : Nat) (M : Mx), aF n (tp M) = aF n M
 | 0, _ => rfl
 | n + 1, M => by
  rw [sF n M];show (sm (n + 1) fun i => dr i * tp M i 0 * aF n (minor (tp M) i)) = _;refine aj fun i _ => ?_;rw [<- o8 n fun a b => M (a + 1) (bH i b)];rfl
theorem Mn.tp {k : Nat} {x : Int} {r c : Nat} {A : Mx} (h : Mn k x r c A) : Mn k x c r (tp A) := fun σ τ hσ hτ => by
 rw [<- o8];exact h τ σ hτ hσ
theorem pig (k q : Nat) (hk : k < q) (σ : Nat -> Nat) (h : ∀ a < q, σ a < k) : ∃ a b, a < b /\ b < q /\ σ a = σ b := Classical.byContradiction fun hn => by
 obtain ⟨i, hi, e⟩ := ur k σ (fun i hi => h i (by omega)) (fun i hi j hj e => Classical.byContradiction fun hij => by
  rcases Nat.lt_or_gt_of_ne hij with q' | q'
  · exact hn ⟨i, j, q', by omega, e⟩
  · exact hn ⟨j, i, q', by omega, e.symm⟩) (σ k) (h k hk)
 exact hn ⟨i, k, hi, hk, e⟩
theorem na (n : Nat) (D : Int) (B : Mx) : ∀ s, s <= n -> aF n (fun a b => if a < s then D * B a b else B a b) = D ^ s * aF n B
 | 0, _ => by simp
 | s + 1, hs => by
  have e : (fun a b => if a < s + 1 then D * B a b else B a b) = bG (fun a b => if a < s then D * B a b else B a b) s (fun b => D * B s b) := by
   funext a b;unfold bG;by_cases h : a = s
   · subst h; simp
   · rw [if_neg h];show _ = if a < s then D * B a b else B a b;by_cases h2 : a < s
     · rw [if_pos h2, if_pos (by omega)]
     · rw [if_neg h2, if_neg (by omega)]
  have e2 : bG (fun a b => if a < s then D * B a b else B a b) s (B s) = fun a b => if a < s then D * B a b else B a b := by
   funext a b;unfold bG;by_cases h : a = s
   · subst h; simp
   · rw [if_neg h]
  rw [e, fM n _ s D (B s) (by omega), e2, na n D B s (by omega), Int.pow_succ]
  ac_rfl
theorem j0 (n : Nat) (D : Int) (B : Mx) : aF n (fun a b => D * B a b) = D ^ n * aF n B := by
 rw [<- na n D B n (Nat.le_refl _)];exact aG n fun a ha b _ => by rw [if_pos ha]
theorem wU {k q : Nat} {D : Int} (hD : D ≠ 0) (hk : k < q) {A B : Mx} (h : ∀ a < q, Sp k A fun j => D * B a j) : aF q B = 0 := by
 have h1 : (0 : Int) ∣ aF q fun a b => D * B a b := oX (A := A) (r := k) (fun σ hσ => by
  obtain ⟨a, b, hab, hb, e⟩ := pig k q hk σ hσ;exact Int.zero_dvd.2 (eQ q _ (k := a) (l := b) (by omega) hb (by omega) fun j => by rw [e])) h
 have h2 := Int.zero_dvd.1 h1;rw [j0] at h2;rcases Int.mul_eq_zero.1 h2 with e | e
 · exact absurd e (Int.pow_ne_zero hD)
 · exact e
theorem uy {k : Nat} {D : Int} (hD : D ≠ 0) {A B : Mx} (h : ∀ a < k, Sp k A fun j => D * B a j) (hA : aF k A = 0) : aF k B = 0 := by
 have h1 : (0 : Int) ∣ aF k fun a b => D * B a b := oX (A := A) (r := k) (fun σ hσ => by
  by_cases hi : ∀ i < k, ∀ j < k, σ i = σ j -> i = j
  · rcases jv k A k σ hσ (fun i h0 => by omega) (Nat.le_refl _) with e | e
    · exact Int.zero_dvd.2 e
    · rw [hA] at e;exact Int.zero_dvd.2 (Int.natAbs_eq_zero.1 e)
  · exact Int.zero_dvd.2 (Classical.byContradiction fun hn => hi fun i h1 j h2 e => Classical.byContradiction fun hij => hn (eQ k _ h1 h2 hij fun b => by rw [e]))) h
 have h2 := Int.zero_dvd.1 h1;rw [j0] at h2;rcases Int.mul_eq_zero.1 h2 with e | e
 · exact absurd e (Int.pow_ne_zero hD)
 · exact e
section
variable {n m : Nat} {A : Mx} {k : Nat} {nu cs : Nat -> Nat} {R : Mx} {d : Int}
theorem gA.span (h : gA n m A m k nu cs R d) (hA : ∀ i j, m <= j -> A i j = 0) {i : Nat} (hi : i < n) : Sp k (fun t => A (nu t)) fun j => d * A i j := by
 obtain ⟨s, hs, e⟩ := ur n nu h.lt h.inj i hi;by_cases hk : s < k
 · refine ⟨fun t => if t = s then d else 0, fun j => ?_⟩;rw [dv s hk fun t _ hn => by show (if t = s then d else 0) * _ = 0; rw [if_neg hn, Int.zero_mul]];show d * A i j = (if s = s then d else 0) * A (nu s) j;rw [if_pos rfl, e]
 · obtain ⟨y, hy⟩ := gh k A nu cs i;refine ⟨fun t => - y t, fun j => ?_⟩;have h1 : mn k A nu cs i j = 0 := by
    by_cases hj : j < m
    · have h2 := h.row s (by omega) hs j hj;rw [h.z s (by omega) hs j hj, e] at h2;exact h2.symm
    · have h3 := hy j;rw [hA i j (by omega), Int.mul_zero, Int.zero_add] at h3;rw [h3];exact bf fun t _ => by rw [hA _ j (by omega), Int.mul_zero]
   have h4 := hy j;rw [h1, <- h.dE] at h4;have h5 : (sm k fun t => - y t * A (nu t) j) = - sm k fun t => y t * A (nu t) j := by
    have := bC k (-1) fun t => y t * A (nu t) j;rw [show (-1 : Int) * (sm k fun t => y t * A (nu t) j) = - sm k fun t => y t * A (nu t) j by omega] at this;rw [<- this];exact aj fun t _ => by rw [Int.neg_mul]; omega
   show d * A i j = _;rw [h5]; omega
theorem gA.some (h : gA n m A m k nu cs R d) : ¬ Mn k 0 n m A := fun q =>
 h.d0 (h.dE.trans (Int.zero_dvd.1 (q nu cs (fun a ha => h.lt a (by have := h.kn; omega)) fun b hb => h.csl b hb)))
theorem gA.none (h : gA n m A m k nu cs R d) (hA : ∀ i j, m <= j -> A i j = 0) {q : Nat} (hq : k < q) : Mn q 0 n m A := fun σ τ hσ hτ =>
 Int.zero_dvd.2 (wU h.d0 hq (A := fun t b => A (nu t) (τ b)) fun a ha => by
  obtain ⟨y, hy⟩ := h.span hA (hσ a ha);exact ⟨y, fun b => hy (τ b)⟩)
theorem gA.turn {k' : Nat} {nu' cs' : Nat -> Nat} {R' : Mx} {d' : Int} (h : gA n m A m k nu cs R d) (h' : gA m n (tp A) n k' nu' cs' R' d') (hA : ∀ i j, m <= j -> A i j = 0) (hA' : ∀ i j, n <= i -> A i j = 0) : k = k' := by
 rcases Nat.lt_trichotomy k k' with q | q | q
 · exact absurd (h.none hA q).tp h'.some
 · exact q
 · exact absurd (h'.none (fun i j hj => hA' j i hj) q).tp h.some
theorem gA.y4 (h : gA n m A m k nu cs R d) (hA : ∀ i j, m <= j -> A i j = 0) (hA' : ∀ i j, n <= i -> A i j = 0) {j : Nat} (hj : j < m) : Sp k (fun t => tp A (cs t)) fun i => d * tp A j i := by
 obtain ⟨y, hy⟩ := gh k (tp A) cs nu j;have e0 : dn k (tp A) cs nu = d := by rw [h.dE]; exact o8 k fun a b => A (nu a) (cs b)
 have e1 : ∀ i, mn k (tp A) cs nu j i = 0 := fun i => by
  by_cases hi : i < n
  · have h1 : mn k (tp A) cs nu j i = mn k A nu cs i j := o8 (k + 1) fun a b => A (if a < k then nu a else i) (if b < k then cs b else j);rw [h1];exact Int.zero_dvd.1 (h.none hA (Nat.lt_succ_self k) (fun a => if a < k then nu a else i) (fun b => if b < k then cs b else j) (fun a ha => by
     have := h.kn;show (if a < k then nu a else i) < n;split
     · exact h.lt a (by omega)
     · exact hi) fun b hb => by
     show (if b < k then cs b else j) < m;split
     · exact h.csl b (by assumption)
     · exact hj)
  · have h3 := hy i;rw [show tp A j i = 0 from hA' i j (by omega), Int.mul_zero, Int.zero_add] at h3;rw [h3];exact bf fun t _ => by rw [show tp A (cs t) i = 0 from hA' i _ (by omega), Int.mul_zero]
 refine ⟨fun t => - y t, fun i => ?_⟩;have h4 := hy i;rw [e1, e0] at h4;have h5 : (sm k fun t => - y t * tp A (cs t) i) = - sm k fun t => y t * tp A (cs t) i := by
  have := bC k (-1) fun t => y t * tp A (cs t) i;rw [show (-1 : Int) * (sm k fun t => y t * tp A (cs t) i) = - sm k fun t => y t * tp A (cs t) i by omega] at this;rw [<- this];exact aj fun t _ => by rw [Int.neg_mul]; omega
 show d * tp A j i = _;rw [h5]; omega
theorem gA.core {nu' cs' : Nat -> Nat} {R' : Mx} {d' : Int} (h : gA n m A m k nu cs R d) (h' : gA m n (tp A) n k nu' cs' R' d') (hA : ∀ i j, m <= j -> A i j = 0) (hA' : ∀ i j, n <= i -> A i j = 0) : (Go.Proofs.Ytjjlmfmoihooiaa.aF k fun a b => A (cs' a) (cs b)) ≠ 0 := fun h0 => by
 refine h.d0 (h.dE.trans (uy (D := d') h'.d0 (A := fun t b => A (cs' t) (cs b)) (B := fun a b => A (nu a) (cs b)) (fun a ha => ?_) h0));obtain ⟨y, hy⟩ := h'.y4 (fun i j hj => hA' j i hj) (fun i j hi => hA j i hi) (j := nu a) (h.lt a (by have := h.kn; omega));exact ⟨y, fun b => hy (cs b)⟩
end
end Go.Proofs.Ytjjlmfmoihooiaa
namespace Go.Proofs.Ytjjlmfmoihooiaa
open Go.RowKit
set_option maxRecDepth 100000 in
set_option maxHeartbeats 2000000 in
theorem xd (aoA aoB : Option Addr) (lA cA lB cB : Nat) (xs ys : List Nat) (w : World) (hA : cf w aoA xs) (hB : cf w aoB ys) (hlA : lA = xs.length) (hlB : lB = ys.length) (hmA : lA <= 17592186044415) (hmB : lB <= 17592186044415) :
 Calls Try.prog 48 #[.slice aoA lA cA, .slice aoB lB cB] w fun e w' => e = .returned (.bool (decide (xs = ys))) /\ Below w.heap.size w w' := by
 subst hlA hlB;have HA := Lib.hid hA; clear hA;have HB := Lib.hid hB; clear hB;go_enter Try.func48, Try.ntmps48;by_cases hs : xs.length = ys.length
 · have hb : (((xs.length : Nat) : Int) != ((ys.length : Nat) : Int)) = false := by rw [hs]; simp
   have Hs := Lib.hid hs; clear hs;go_wp2;go_loopw [5] (fun i wr => ∃ k : Nat, k <= xs.length /\ i = .int .i64 (k : Int) /\ Hid (∀ j, j < k -> gw xs j = gw ys j) /\ Below w.heap.size w wr) (fun i _ => xs.length - (intOf i).toNat)
   case atStart => exact ⟨0, Nat.zero_le _, rfl, Lib.hid (fun j hj => by omega), Below.refl _ _⟩
   case round =>
    obtain ⟨k, hk, rfl, hag, hbl⟩ := hrel;by_cases h0 : k < xs.length
    · have h01 : (k : Int) < (xs.length : Int) := by omega
      have h02 : (k : Int) < (ys.length : Int) := by have := Hs.out; omega
      obtain ⟨b1, o1, rfl, hb1, hc1⟩ := (HA.out.below hbl).pos (by omega);obtain ⟨b2, o2, rfl, hb2, hc2⟩ := (HB.out.below hbl).pos (by omega);have e1 := hc1 k h0;have e2 := hc2 k (by omega);clear hc1 hc2;by_cases hne : gw xs k = gw ys k
      · have t1 : (((gw xs k : Nat) : Int) != ((gw ys k : Nat) : Int)) = false := by rw [hne]; simp
        have HN := Lib.hid hne; clear hne;go_wp2
        go_quiet (fail)
        go_wp2;go_roundw
        case rel => exact ⟨k + 1, by omega, by go_num, Lib.hid (fun j hj => by
         by_cases e : j = k
         · subst e; exact HN.out
         · exact hag.out j (by omega)), below_drewN hbl _⟩
        case measure => simp [intOf]; omega
      · have t1 : (((gw xs k : Nat) : Int) != ((gw ys k : Nat) : Int)) = true := by rw [bne_iff_ne]; omega
        have hd : decide (xs = ys) = false := by
         rw [decide_eq_false_iff_not]; intro e; exact hne (by rw [e])
        have HD := Lib.hid hd; clear hd hne;go_wp2
        go_quiet (fail)
        go_wp2;go_ret;exact ⟨by rw [HD.out]; rfl, below_drewN hbl _⟩
    · obtain rfl : k = xs.length := by omega
      have hd : decide (xs = ys) = true := by
       rw [decide_eq_true_iff];refine List.ext_getElem Hs.out fun j h1 h2 => ?_;have := hag.out j h1;unfold gw at this;simpa [h1, h2] using this
      have HD := Lib.hid hd; clear hd;go_wp2;go_ret;exact ⟨by rw [HD.out]; rfl, hbl⟩
 · have hb : (((xs.length : Nat) : Int) != ((ys.length : Nat) : Int)) = true := by rw [bne_iff_ne]; omega
   have hd : decide (xs = ys) = false := by
    rw [decide_eq_false_iff_not]; intro e; exact hs (by rw [e])
   have HD := Lib.hid hd; clear hd hs;go_wp2;go_ret;exact ⟨by rw [HD.out]; rfl, Below.refl _ _⟩
theorem rm (x y : Int) : (decide (ez x.natAbs = ez y.natAbs) && (decide (x < 0) == decide (y < 0))) = decide (x = y) := by
 have h1 : ez x.natAbs = ez y.natAbs ↔ x.natAbs = y.natAbs := ⟨fun h => by rw [<- ck x.natAbs, h, ck], fun h => by rw [h]⟩;rw [Bool.eq_iff_iff];simp only [Bool.and_eq_true, decide_eq_true_eq, beq_iff_eq, h1, decide_eq_decide];omega
attribute [local go_sem] Oper.semAt_some
abbrev hW (m : Nat) : Nat := gI 66 m
end Go.Proofs.Ytjjlmfmoihooiaa
namespace Go.Proofs.Ytjjlmfmoihooiaa
end Go.Proofs.Ytjjlmfmoihooiaa
namespace Go.Proofs.Ytjjlmfmoihooiaa
open Go.RowKit
theorem aI.up {w : World} {L L' : Nat} {ao : Option Addr} {xs : List Int} (h : aI w L ao xs) (hL : L <= L') : aI w L' ao xs := fun hl => by
 obtain ⟨b, o, e, hlt, hc⟩ := h hl;exact ⟨b, o, e, hlt, fun i hi => by obtain ⟨p, h0, h1, hn⟩ := hc i hi; exact ⟨p, h0, h1, hn.mono hL⟩⟩
end Go.Proofs.Ytjjlmfmoihooiaa
namespace Go.Proofs.Ytjjlmfmoihooiaa
end Go.Proofs.Ytjjlmfmoihooiaa
namespace Go.Proofs.Ytjjlmfmoihooiaa
open Go.RowKit
end Go.Proofs.Ytjjlmfmoihooiaa
namespace Go.Proofs.Ytjjlmfmoihooiaa
structure pA (c n : Nat) (E : Nat -> Nat -> Int) (hs : List Int) (k : Nat) : Prop where
 len : hs.length = k * c
 herm : ∃ l, du k c (ai hs k c) l
 sp : aO n E k (ai hs k c)
theorem pA.to {c n m k : Nat} {E F : Nat -> Nat -> Int} {hs : List Int} (h : pA c n E hs k) (e : aO m F n E) : pA c m F hs k := ⟨h.len, h.herm, e.trans h.sp⟩
theorem u6 {R : List Hd} {k i : Nat} (hi : i < k) (j : Nat) : az (R.take k) i j = az R i j := by
 by_cases h : i < R.length
 · rw [bY (R := R) h, bY (R := R.take k) (by simp; omega)]; simp
 · rw [ej (R := R) (by omega), ej (R := R.take k) (by simp; omega)]
theorem yg {R R' : List Hd} {c D k : Nat} (h : rS c D R k R') : pA c R.length (az R) ((R'.take k).map Hd.xs).flatten k /\ ∀ x ∈ ((R'.take k).map Hd.xs).flatten, x.natAbs < W ^ D := by
 obtain ⟨l, hH⟩ := h.herm;have hl : (R'.take k).length = k := by rw [List.length_take, h.len]; exact Nat.min_eq_left h.kl
 have hm := tE (r := k) hl (fun q hq => h.sh q (List.mem_of_mem_take hq));have he : ∀ i, i < k -> ∀ j, ai ((R'.take k).map Hd.xs).flatten k c i j = az R' i j := fun i hi j => (hm.2 i j).trans (u6 hi j);exact ⟨⟨hm.1, ⟨l, hH.congr (fun a ha b => he a ha b)⟩, h.sp.trans (aO.of_eq (fun i hi j => (he i hi j).symm))⟩, qQ hm.1 (fun i j hi _ => by rw [he i hi]; exact h.bd i j)⟩
theorem j1 {c m n : Nat} {E : Nat -> Nat -> Int} (hn : n <= 66) (hE : ∀ i b, i < n -> (E i b).natAbs < W ^ m) (hz : ∀ i b, c <= b -> E i b = 0) : ∃ hs k, pA c n E hs k /\ ∀ x ∈ hs, x.natAbs < W ^ hW m := by
 obtain ⟨R, hR⟩ : ∃ R, R = (List.range n).map (fun i => Hd.mk 0 0 ((List.range c).map (E i))) := ⟨_, rfl⟩;have hl : R.length = n := by rw [hR]; simp
 have hx : ∀ i (hi : i < R.length), R[i].xs = (List.range c).map (E i) := fun i hi => by subst hR; simp
 have hsh : Sh c R := fun q hq => by
  obtain ⟨i, hi, rfl⟩ := List.getElem_of_mem hq;rw [hx i hi]; simp
 have he : ∀ i, i < n -> ∀ b, az R i b = E i b := fun i hi b => by
  by_cases hb : b < c
  · rw [bY (by omega), hx i (by omega)]; simp [hb]
  · rw [hsh.wide i (by omega), hz i b (by omega)]
 have hb : ∀ i b, (az R i b).natAbs < W ^ m := fun i b => by
  by_cases hi : i < n
  · rw [he i hi]; exact hE i b hi
  · rw [ej (by omega)]; exact Nat.pow_pos (by decide)
 obtain ⟨k, R', _, hOk⟩ := tG (N := 66) (B := tD 66 m) hsh hb (by omega) (by omega) (Nat.le_refl _);have hB := yg hOk;refine ⟨_, k, hB.1.to ?_, hB.2⟩;rw [hl];exact aO.of_eq (fun i hi j => (he i hi j).symm)
end Go.Proofs.Ytjjlmfmoihooiaa
namespace Go.Proofs.Ytjjlmfmoihooiaa
open Go.RowKit
section
variable {P : Program} {Q : Exit -> Act -> World -> Prop} {ds : List Deferred} {S0 : Nat -> Prop} {w0 : World} {n : Nat} {ls : List (Nat × Value)} {es : List En} {c : Code}
theorem cZ {es' : List En} (k : dL ds P n S0 w0 c Q ls es') (h : Pk es es' := by repeat (first | exact Pk.n | refine Pk.c (by repeat (first | exact Rm.z | apply Rm.s)) ?_)) : dL ds P n S0 w0 c Q ls es := fun a w ha hw => k a w ha (hw.pick h)
end
section
variable {P : Program} {ops : Array Oper} {Q : Exit -> Act -> World -> Prop} {ds : List Deferred} {S0 : Nat -> Prop} {w0 : World} {E0 : List En} {hd : List (List Nat)} {n j s : Nat} {l : List Nat} {G E : List En} {ls : List (Nat × Value)} {op : Op} {ty : TypeId} {pos : String} {af : Array Edge} {v v' : Value}
theorem dE (hv : v' = v) (k : cW ds ⟨P, ops, Q, S0, w0, E0, []⟩ n l G E ((s, v) :: ls))
 (ho : ops[j]? = some ⟨some s, op, ty, pos, af, none⟩ := by rfl) (hk : (bE op && di ls op && Nat.blt s n) = true := by kernel_rfl)
 (hr : ∀ w, (nP op = true -> Fr S0 w0 w E0) -> (execOp (cj ls) ⟨some s, op, ty, pos, af, none⟩).run P w = .ok (.value v') w := by intro w H; (first | (have c := (H rfl).c; try simp only [rz, cl, List.cons_append, List.nil_append] at c) | skip); clear H; go_simp <;> with_reducible rfl) : cW ds ⟨P, ops, Q, S0, w0, E0, []⟩ n (j :: l) G E ls :=
 dW (v := v) k ho hk (by rw [<- hv]; exact hr)
theorem dB (b : Bool) (k : cW ds ⟨P, ops, Q, S0, w0, E0, []⟩ n l G E ((s, .bool b) :: ls))
 (ho : ops[j]? = some ⟨some s, op, ty, pos, af, none⟩ := by rfl) (hk : (bE op && di ls op && Nat.blt s n) = true := by kernel_rfl)
 (hr : ∀ w, (nP op = true -> Fr S0 w0 w E0) -> (execOp (cj ls) ⟨some s, op, ty, pos, af, none⟩).run P w = .ok (.value v') w := by intro w H; (first | (have c := (H rfl).c; try simp only [rz, cl, List.cons_append, List.nil_append] at c) | skip); clear H; go_simp <;> with_reducible rfl)
 (hv : v' = .bool b := by first | rfl | (simp [*]; done) | (simp; omega)) : cW ds ⟨P, ops, Q, S0, w0, E0, []⟩ n (j :: l) G E ls :=
 dE hv k ho hk hr
theorem j8 (b : Bool) {sg g : Nat} {want : Bool} (k : cW ds ⟨P, ops, Q, S0, w0, E0, []⟩ n l G E ((s, .bool b) :: ls))
 (ho : ops[j]? = some ⟨some s, op, ty, pos, af, some (g, want)⟩ := by rfl) (hk : (bE op && di ls op && Nat.blt s n) = true := by kernel_rfl)
 (hg : (ops[g]?).bind (·.dst) = some sg := by rfl) (hi : dT ls (.tmp sg) = true := by kernel_rfl) (hb : cj ls (.tmp sg) = .bool want := by (simp only [bN, Nat.reduceEqDiff, ↓reduceIte]) <;> first | rfl | simp [*])
 (hr : ∀ w, (nP op = true -> Fr S0 w0 w E0) -> (execOp (cj ls) ⟨some s, op, ty, pos, af, some (g, want)⟩).run P w = .ok (.value v') w := by intro w H; (first | (have c := (H rfl).c; try simp only [rz, cl, List.cons_append, List.nil_append] at c) | skip); clear H; go_simp <;> with_reducible rfl)
 (hv : v' = .bool b := by first | rfl | (simp [*]; done) | (simp; omega)) : cW ds ⟨P, ops, Q, S0, w0, E0, []⟩ n (j :: l) G E ls :=
 dG k ho hk hg hi hb (by rw [<- hv]; exact hr)
end
theorem Fr.apart {S0 : Nat -> Prop} {w0 w : World} {es : List En} (h : Fr S0 w0 w es) {e e1 : En} (he : e ∈ es) (he1 : e1 ∈ es) (hw : e.wr = true) (hw1 : e1.wr = false) {b : Nat} (hb : e.S b) : ¬ e1.S b := fun hb1 => by
 obtain ⟨l1, l2, rfl⟩ := List.append_of_mem he1;have hp := List.pairwise_append.1 h.sep;rcases List.mem_append.1 he with h | h
 · exact (hp.2.2 e h _ (List.mem_cons_self ..)).1 hw b hb hb1
 · rcases List.mem_cons.1 h with rfl | h
   · rw [hw] at hw1; cases hw1
   · exact ((List.pairwise_cons.1 hp.2.1).1 e h).2 hw b hb hb1
section
variable {P : Program} {ops : Array Oper} {Q : Exit -> Act -> World -> Prop} {ds : List Deferred} {S0 : Nat -> Prop} {w0 : World} {E0 : List En} {hd : List (List Nat)} {n j s sg g : Nat} {l : List Nat} {G E : List En} {ls : List (Nat × Value)} {op : Op} {ty : TypeId} {pos : String} {af : Array Edge} {f : FuncId} {args : Array Value} {want : Bool}
end
theorem bV {xs : List Int} {i : Nat} (h : i < xs.length) : gi xs i = xs[i] := by simp [gi, h]
theorem ft {ps : List P4} {i : Nat} (h : i < ps.length) : gp ps i = ps[i] := by simp [gp, h]
theorem cD {xs : List Int} {i : Nat} (h : i < xs.length) : gi xs i ∈ xs := by rw [bV h]; exact List.getElem_mem h
theorem eY {xs : List Int} {i j : Nat} (h : i < xs.length) (x : Int) : gi (xs.set i x) j = if j = i then x else gi xs j := by
 unfold gi;rw [List.getD_eq_getElem?_getD, List.getElem?_set, List.getD_eq_getElem?_getD];by_cases e : i = j
 · subst e; simp [h]
 · have e2 : ¬ j = i := fun q => e q.symm;simp [e, e2]
theorem ot {ps : List P4} {i : Nat} (tl : List Value) (h : i < ps.length) : (rn ps tl)[i * 2]? = some (.bool (gp ps i).1) := by
 have := aV ps;rw [ft h, rn, List.getElem?_append_left (by omega)]; exact iw ps i h
theorem pG {ps : List P4} {i : Nat} (tl : List Value) (h : i < ps.length) : (rn ps tl)[i * 2 + 1]? = some (.slice (gp ps i).2.1 (gp ps i).2.2.1 (gp ps i).2.2.2) := by
 have := aV ps;rw [ft h, rn, List.getElem?_append_left (by omega)]; exact iA ps i h
theorem yf {ps : List P4} {i : Nat} (tl : List Value) (h : i < ps.length) (p : P4) : fQ (rn ps tl) (i * 2) [.bool p.1, .slice p.2.1 p.2.2.1 p.2.2.2] = rn (ps.set i p) tl := by
 have hl := aV ps;simp only [fQ, rn];rw [List.set_append_left _ _ (by omega), List.set_append_left _ _ (by rw [List.length_set]; omega), lk]
theorem aP.rn {ps : List P4} {tl : List Value} (h : aP tl) : aP (rn ps tl) := oA h
theorem bg.set {w : World} {ps : List P4} {xs : List Int} (h : bg w ps xs) (i : Nat) {p : P4} {x : Int} (hp : aJ w (av p) x) : bg w (ps.set i p) (xs.set i x) := by
 refine ⟨by simp [h.1], fun j hj => ?_⟩;rw [List.length_set] at hj;have h1 := h.1;by_cases e : i = j
 · subst e;rw [ft (by simpa using hj), bV (by simp; omega)];simpa using hp
 · have := h.2 j hj;rw [ft hj, bV (by omega)] at this;rw [ft (by simpa using hj), bV (by simp; omega)];simpa [e] using this
theorem bg.snoc {w : World} {ps : List P4} {xs : List Int} (h : bg w ps xs) {p : P4} {x : Int} (hp : aJ w (av p) x) : bg w (ps ++ [p]) (xs ++ [x]) := by
 refine ⟨by simp [h.1], fun j hj => ?_⟩;have h1 := h.1;rw [ft hj, bV (by simp at hj ⊢; omega)];by_cases e : j < ps.length
 · have := h.2 j e;rw [ft e, bV (by omega)] at this;rw [List.getElem_append_left e, List.getElem_append_left (by omega)]; exact this
 · have e1 : j = ps.length := by simp at hj; omega
   subst e1;simpa [h1] using hp
theorem bg.nil (w : World) : bg w [] [] := ⟨rfl, fun i h => absurd h (by simp)⟩
theorem bg.qq (w : World) (n : Nat) : bg w (List.replicate n p0) (List.replicate n 0) := ⟨by simp, fun i h => by
 have h : i < n := by simpa using h
 rw [ft (by simpa using h), bV (by simpa using h)]; simp; exact aJ.zero w⟩
theorem bM.mk' {w : World} {b : Nat} {ps : List P4} {tl : List Value} {xs : List Int} (h : ah w b 27 (rn ps tl)) (ht : aP tl) (hn : bg w ps xs) : bM w b xs :=
 ⟨ps, tl, ht, h, hn.1, fun i h1 h2 => by have := hn.2 i h1; rw [ft h1, bV h2] at this; exact this⟩
theorem bM.un {w : World} {b : Nat} {xs : List Int} (h : bM w b xs) : ∃ ps tl, aP tl /\ ah w b 27 (rn ps tl) /\ bg w ps xs := by
 obtain ⟨ps, tl, nt, hr, hl, hn⟩ := h;exact ⟨ps, tl, nt, hr, hl, fun i h1 => by rw [ft h1, bV (by omega)]; exact hn i h1 (by omega)⟩
theorem Fr.l {S0 : Nat -> Prop} {w0 w : World} {es : List En} (h : Fr S0 w0 w es) {L : Nat} {ao : Option Addr} {xs : List Int} (hx : aI w L ao xs) (hS : ∀ e ∈ es, e.wr = false) : Fr S0 w0 w (.ls L ao xs :: es) :=
 h.cons hx (fun e he => ⟨(fun q => nomatch q), fun q => by rw [hS e he] at q; cases q⟩) (fun q => nomatch q)
section
variable {P : Program} {Q : Exit -> Act -> World -> Prop} {ds : List Deferred} {S0 : Nat -> Prop} {w0 : World} {n : Nat} {ls : List (Nat × Value)} {es : List En} {c : Code}
theorem Fr.cellOf {w : World} {e : En} {a : Addr} {v : Value} (h : Fr S0 w0 w es) (hm : e ∈ es) (hwr : e.wr = false) (hS : e.S a.block) (hc : w.cell? a = some v) : Fr S0 w0 w (.cell a v :: es) :=
 h.cons (e := .cell a v) hc (fun e' he' => ⟨(fun q => nomatch q), fun q g hg hg' => by
  obtain rfl : g = a.block := hg';exact h.apart he' hm q hwr hg hS⟩) (fun q => nomatch q)
theorem jj {L : Nat} {xs : List Int} {b o : Nat} (i : Nat) (hm : En.ls L (some ⟨b, o, none⟩) xs ∈ es) (hi : i < xs.length) (k : ∀ p : P4, dL ds P n S0 w0 c Q ls (.cell ⟨b, o + i * 2, none⟩ (.bool p.1) :: .cell ⟨b, o + i * 2 + 1, none⟩ (.slice p.2.1 p.2.2.1 p.2.2.2) :: .at L (av p) (gi xs i) :: es)) : dL ds P n S0 w0 c Q ls es := fun a w ha hw => by
 have hA : aI w L (some ⟨b, o, none⟩) xs := hw.all _ hm;obtain ⟨b', o', e, hb, hc⟩ := hA (by omega);cases e;obtain ⟨p, h0, h1, hx⟩ := hc i hi;rw [<- bV hi] at hx;have hS : (En.ls L (some ⟨b, o, none⟩) xs).S b := ⟨by omega, o, rfl⟩;exact k p a w ha (((hw.pure (e := .at L (av p) (gi xs i)) hx (fun _ h => h)).cellOf (List.mem_cons_of_mem _ hm) rfl hS h1).cellOf (List.mem_cons_of_mem _ (List.mem_cons_of_mem _ hm)) rfl hS h0)
theorem iZ {e : En} (he : ∀ w, Fr S0 w0 w es -> e.F w) (k : dL ds P n S0 w0 c Q ls (e :: es)) (hS : ∀ b, ¬ e.S b := by intro b h; exact h) : dL ds P n S0 w0 c Q ls es := fun a w ha hw => k a w ha (hw.pure (he w hw) hS)
end
section
variable {ops : Array Oper} {Q : Exit -> Act -> World -> Prop} {ds : List Deferred} {S0 : Nat -> Prop} {w0 : World} {E0 : List En} {hd : List (List Nat)} {n j s : Nat} {l : List Nat} {G E : List En} {ls : List (Nat × Value)} {op : Op} {ty : TypeId} {pos : String} {af : Array Edge}
theorem mN {sl sc : Operand} {a b : Int} {kl kc : IntKind} (x y : Nat) (hx : a = x) (hy : b = y) (hxy : x <= y) (hb : y <= 8796093022208) (k : ∀ g, cW ds ⟨Try.prog, ops, Q, S0, w0, E0, hd⟩ n l (.row g 27 (rn (List.replicate y p0) []) :: G) E ((s, .slice (some ⟨g, 0, none⟩) x y) :: ls))
 (ho : ops[j]? = some ⟨some s, .makeSlice 22 sl sc, ty, pos, af, none⟩ := by rfl) (hk : (di ls (.makeSlice 22 sl sc) && Nat.blt s n) = true := by kernel_rfl)
 (h1 : cj ls sl = .int kl a := by (simp only [bN, Nat.reduceEqDiff, ↓reduceIte]) <;> rfl) (h2 : cj ls sc = .int kc b := by (simp only [bN, Nat.reduceEqDiff, ↓reduceIte]) <;> rfl) : cW ds ⟨Try.prog, ops, Q, S0, w0, E0, hd⟩ n (j :: l) G E ls := fun A hA => by
 simp only [Bool.and_eq_true] at hk;refine ⟨_, ho, .inr (.inl ⟨rfl, rfl, fun g => .slice (some ⟨g, 0, none⟩) x y, 27, rn (List.replicate y p0) [], ⟨rfl, fun w => ?_⟩, fun g => k g _ (hA.put (Nat.le_of_ble_eq_true hk.2) _)⟩)⟩;rw [hA.exec (o := ⟨some s, .makeSlice 22 sl sc, ty, pos, af, none⟩) hk.1];obtain ⟨i, hi, hz, hs, hbt⟩ := info_parts jn;subst hx hy;have hr := run_make (P := Try.prog) w 22 27 i (.agg #[.bool false, .slice none 0 0]) Try.underlying22 hi hz kl kc x y (by omega) (by omega) (by rw [hbt]; omega) (by omega);simp only [Int.toNat_natCast] at hr;have e : madeCells (Value.agg #[.bool false, .slice none 0 0]).cells (y * i.size) = (rn (List.replicate y p0) []).toArray := by
  have := n0 y;rw [hs, rn, List.append_nil, <- this]
 simp [execOp, h1, h2, hr, Result.andThen, e]
theorem sN {b i : Nat} {ps ps' : List P4} {tl : List Value} {ad x : Operand} {sty : TypeId} {E' : List En} (q : Nat) (p : P4) (hq : q < ps.length) (ht : aP tl) (hs : ps.set q p = ps')
 (k' : cW ds ⟨Try.prog, ops, Q, S0, w0, E0, hd⟩ n l G E' ls)
 (ho : ops[j]? = some ⟨none, .store sty ad x, ty, pos, af, none⟩ := by rfl) (hk : di ls (.store sty ad x) = true := by kernel_rfl)
 (ha : cj ls ad = .pointer (some ⟨b, q * 2, none⟩) := by (simp only [bN, Nat.reduceEqDiff, ↓reduceIte]) <;> rfl)
 (hv : cj ls x = .agg #[.bool p.1, .slice p.2.1 p.2.2.1 p.2.2.2] := by (simp only [bN, Nat.reduceEqDiff, ↓reduceIte, av]) <;> rfl)
 (hE : Up (.row b 27 (rn ps tl)) (.row b 27 (rn ps' tl)) i E E' := by repeat first | exact .z | apply Up.s)
 (hr : ∀ w u v, w.cell? ⟨b, q * 2, none⟩ = some u -> w.cell? ⟨b, q * 2 + 1, none⟩ = some v -> w.frozen? ⟨b, q * 2, none⟩ = false -> w.frozen? ⟨b, q * 2 + 1, none⟩ = false -> (execOp (cj ls) ⟨none, .store sty ad x, ty, pos, af, none⟩).run Try.prog w = .ok .skip (mV w b (q * 2) [.bool p.1, .slice p.2.1 p.2.2.1 p.2.2.2]) := by intro w u v c0 c1 f0 f1; (try simp only [av]); go_simp <;> rfl)
 (hst : ew ops hd j [i] = true := by kernel_rfl) : cW ds ⟨Try.prog, ops, Q, S0, w0, E0, hd⟩ n (j :: l) G E ls := fun a hA => by
 subst hs;refine ⟨_, ho, .inr (.inr ⟨rfl, rfl, Unit, fun _ => undef, fun _ => G, fun _ => E', [i], ⟨()⟩, fun X w hX hw => ?_, hst, fun _ r hr => hE.other (by simpa using hr), fun _ => k' _ (hA.yI _)⟩)⟩;obtain ⟨m, h1, h2⟩ := hE.right' X G;have hrow : ah w b 27 (rn ps tl) := (hw.perm h1).all _ (List.mem_cons_self ..);refine vT rfl ?_;show mg _ _ ((execOp a.eval _).run _ w);rw [hA.exec (o := ⟨none, .store sty ad x, ty, pos, af, none⟩) hk, hr w _ _ ((hrow.cell _).trans (ot tl hq)) ((hrow.cell _).trans (pG tl hq)) (hrow.free _) (hrow.free _)];exact ⟨(), rfl, hw.st (t := 27) _ _ (.inl ⟨aP.rn ht, by decide⟩) h1 (by rw [yf tl hq]; exact h2)⟩
end
theorem Fr.conv {S0 : Nat -> Prop} {w0 w : World} {es : List En} {e e' : En} (h : Fr S0 w0 w (e :: es)) (h1 : e.F w -> e'.F w) (h2 : ∀ b, e'.S b -> e.S b) (h3 : e'.wr = true -> e.wr = true) : Fr S0 w0 w (e' :: es) := by
 have hp := List.pairwise_cons.1 h.sep;exact h.tl.cons (h1 h.m0) (fun x hx => ⟨fun q b hb => (hp.1 x hx).1 (h3 q) b (h2 b hb), fun q b hb hb' => (hp.1 x hx).2 q b hb (h2 b hb')⟩) (fun q b hb => h.own e (List.mem_cons_self ..) (h3 q) b (h2 b hb))
theorem Fr.lst0 {S0 : Nat -> Prop} {w0 w : World} {es : List En} (h : Fr S0 w0 w es) : Fr S0 w0 w (.fV none 0 0 [] :: es) := h.pure (e := .fV none 0 0 []) ⟨rfl, Nat.le_refl _, .inl ⟨rfl, rfl⟩⟩ (fun b ⟨o, e⟩ => nomatch e)
section
variable {P : Program} {Q : Exit -> Act -> World -> Prop} {ds : List Deferred} {S0 : Nat -> Prop} {w0 : World} {n : Nat} {ls : List (Nat × Value)} {es : List En} {c : Code}
theorem lst0W (k : dL ds P n S0 w0 c Q ls (.fV none 0 0 [] :: es)) : dL ds P n S0 w0 c Q ls es := fun a w ha hw => k a w ha hw.lst0
end
theorem wF {ps : List P4} {tl : List Value} {cap : Nat} (hl : (rn ps tl).length = cap * 2) (h : ps.length < cap) (p : P4) : fQ (rn ps tl) (ps.length * 2) [.bool p.1, .slice p.2.1 p.2.2.1 p.2.2.2] = rn (ps ++ [p]) (tl.drop 2) := by
 have hf := aV ps;obtain ⟨a, b, t, rfl⟩ : ∃ a b t, tl = a :: b :: t := by
  rw [rn, List.length_append] at hl;match tl, hl with
  | [], h => simp at h; omega
  | [_], h => simp at h; omega
  | a :: b :: t, _ => exact ⟨a, b, t, rfl⟩
 simp only [fQ, rn];rw [List.set_append_right _ _ (by omega), List.set_append_right _ _ (by omega), gN, show ps.length * 2 - (flat ps).length = 0 by omega, show ps.length * 2 + 1 - (flat ps).length = 1 by omega];simp [flat]
theorem bZ.uj (T : Nat -> Prop) (w : World) (o : Obj) : bZ T w (w.drew.alloc o) := bZ.cP ⟨rfl, rfl, rfl, by simp, fun q hq => qM w _ hq⟩
theorem wK {w : World} {ty : TypeId} {ao : Option Addr} {k cap : Nat} {ps : List P4} (h : mq ao k cap ps w) (hb : k <= 100000000) {ad : Addr} {c : Nat} {p : P4} (h0 : w.cell? ad = some (.bool p.1)) (h1 : w.cell? (ad.add 1) = some (.slice p.2.1 p.2.2.1 p.2.2.2)) :
 ∃ ao' cap' w', (Builtin.append_ #[22, 22] ty #[.slice ao k cap, .slice (some ad) 1 c]).run Try.prog w = .ok (.slice ao' (k + 1) cap') w' /\ mq ao' (k + 1) cap' (ps ++ [p]) w' /\ bZ (fun g => ∃ o, ao = some ⟨g, o, none⟩) w w' /\ ∀ g, (∃ o, ao' = some ⟨g, o, none⟩) -> (∃ o, ao = some ⟨g, o, none⟩) ∨ w.heap.size <= g := by
 obtain ⟨i, hi, hz, hsz, hby⟩ := info_parts jn;have hn : ∀ j u, [Value.bool p.1, .slice p.2.1 p.2.2.1 p.2.2.2][j]? = some u -> w.cell? (ad.add j) = some u := fun j u hj => by
  match j, hj with
  | 0, hj => cases hj; simpa [Addr.add] using h0
  | 1, hj => cases hj; exact h1
 have hsrc : Src Try.prog i.size 22 (.slice (some ad) 1 c) 1 [Value.bool p.1, .slice p.2.1 p.2.2.1 p.2.2.2] w := Src.ofSlice w Try.underlying22 ad 1 c _ (by rw [hsz]; rfl) hn (by simp [Value.oneCell']);obtain ⟨hk, hkc, hrow⟩ := h;by_cases hroom : k < cap
 · obtain ⟨_, h⟩ | ⟨b, tl, rfl, ht, hr, hl⟩ := hrow
   · omega
   subst hk;have hex : ∀ j, j < cap * 2 -> (w.cell? ⟨b, j, none⟩).isSome = true := fun j hj => by rw [hr.cell, List.getElem?_eq_getElem (by omega)]; rfl
   refine ⟨_, _, _, run_append_room_src w 22 22 ty 27 i Try.underlying22 hi b 0 ps.length cap _ 1 _ hsrc (by omega) (fun j hj => hex _ ?_) (fun j _ => hr.free _), ?_, ?_, fun g hg => .inl hg⟩
   · rw [hsz]; simp at hj; omega
   · rw [hsz, Nat.zero_add];have h2 := hr.mV [.bool p.1, .slice p.2.1 p.2.2.1 p.2.2.2] (ps.length * 2);rw [wF hl hroom] at h2;refine ⟨by simp, by omega, .inr ⟨b, tl.drop 2, rfl, fun v hv => ht v (List.mem_of_mem_drop hv), h2, ?_⟩⟩;have hf := aV ps;rw [rn, List.length_append] at hl;rw [rn, List.length_append, aV]; simp; omega
   · rw [hsz, Nat.zero_add];exact (bZ.mV [.bool p.1, .slice p.2.1 p.2.2.1 p.2.2.2] (ps.length * 2) (bZ.refl (· = b) w)).mono (fun g _ e => by obtain rfl : g = b := e; exact ⟨0, rfl⟩)
 · obtain rfl : k = cap := by omega
   have hf := aV ps;have hold : (Builtin.firstCells i.size k (.slice ao k k)).run Try.prog w.drew = .ok (flat ps).toArray w.drew := by
    obtain ⟨rfl, h⟩ | ⟨b, tl, rfl, ht, hr, hl⟩ := hrow
    · obtain rfl : ps = [] := List.eq_nil_of_length_eq_zero (by omega);exact run_firstCells_none w.drew i.size k k k
    · refine run_firstCells_some w.drew i.size k _ k k (flat ps) (by rw [hsz]; omega) fun j v hj => ?_;have e : w.drew.cell? ((⟨b, 0, none⟩ : Addr).add j) = w.cell? ⟨b, j, none⟩ := by simp only [Addr.add]; by_cases hj0 : j = 0 <;> simp [hj0]
      rw [e, hr.cell, rn, List.getElem?_append_left (List.getElem?_eq_some_iff.1 hj).1]; exact hj
   refine ⟨_, _, _, run_append_grow_src w 22 22 ty 27 i (.agg #[.bool false, .slice none 0 0]) Try.underlying22 hi hz ao k k (flat ps) hold _ 1 _ hsrc (by omega) (by omega) (growslice_fits (by omega) (by rw [hby]; omega)), ⟨by simp [hk], grownCap_ge .., .inr ⟨_, (Builtin.zeroCells (Value.agg #[.bool false, .slice none 0 0]).cells (grownCap w (k + 1) k 27 - (k + 1))).toList, rfl, tc _, ?_, ?_⟩⟩, bZ.uj _ w _, fun g ⟨o, e⟩ => by cases e; exact .inr (Nat.le_refl _)⟩
   · have hnew := ah.new w.drew ((flat ps ++ [Value.bool p.1, .slice p.2.1 p.2.2.1 p.2.2.2]).toArray ++ Builtin.zeroCells (Value.agg #[.bool false, .slice none 0 0]).cells (grownCap w (k + 1) k 27 - (k + 1))) 27;rw [rn, gN];simpa [flat] using hnew
   · have hge := grownCap_ge w (k + 1) k 27;have hz2 : (Builtin.zeroCells (Value.agg #[.bool false, .slice none 0 0]).cells (grownCap w (k + 1) k 27 - (k + 1))).toList.length = (grownCap w (k + 1) k 27 - (k + 1)) * 2 := by rw [Array.length_toList, size_zeroCells]; rfl
     rw [rn, List.length_append, aV, List.length_append, hz2]; simp; omega
section
variable {ops : Array Oper} {Q : Exit -> Act -> World -> Prop} {ds : List Deferred} {S0 : Nat -> Prop} {w0 : World} {E0 : List En} {hd : List (List Nat)} {n j s : Nat} {l : List Nat} {G E : List En} {ls : List (Nat × Value)} {op : Op} {ty : TypeId} {pos : String} {af : Array Edge}
theorem zj {i k cap g : Nat} {ao : Option Addr} {ps : List P4} {t : TypeId} {c : Nat} (p : P4) {sa xa : Operand} {E' : Option Addr × Nat -> List En} (hb : k <= 100000000)
 (hm : En.row g t [.bool p.1, .slice p.2.1 p.2.2.1 p.2.2.2] ∈ G ++ E)
 (k' : ∀ q, cW ds ⟨Try.prog, ops, Q, S0, w0, E0, hd⟩ n l G (E' q) ((s, .slice q.1 (k + 1) q.2) :: ls))
 (ho : ops[j]? = some ⟨some s, .call { callee := Callee.builtin Builtin.append, args := #[sa, xa], argTypes := #[22, 22] }, ty, pos, af, none⟩ := by rfl) (hk : (di ls (.call { callee := Callee.builtin Builtin.append, args := #[sa, xa], argTypes := #[22, 22] }) && Nat.blt s n) = true := by kernel_rfl)
 (ha : cj ls sa = .slice ao k cap := by (simp only [bN, Nat.reduceEqDiff, ↓reduceIte]) <;> rfl)
 (hv : cj ls xa = .slice (some ⟨g, 0, none⟩) 1 c := by (simp only [bN, Nat.reduceEqDiff, ↓reduceIte, av]) <;> rfl)
 (hE : ∀ q, Up (.fV ao k cap ps) (.fV q.1 (k + 1) q.2 (ps ++ [p])) i E (E' q) := by intro q; repeat first | exact .z | apply Up.s)
 (hst : ew ops hd j [i] = true := by kernel_rfl) : cW ds ⟨Try.prog, ops, Q, S0, w0, E0, hd⟩ n (j :: l) G E ls := fun a hA => by
 simp only [Bool.and_eq_true] at hk;refine ⟨_, ho, .inr (.inr ⟨rfl, rfl, Option Addr × Nat, fun q => .slice q.1 (k + 1) q.2, fun _ => G, E', [i], ⟨(none, 0)⟩, fun X w hX hw => ?_, hst, fun q r hr => (hE q).other (by simpa using hr), fun q => k' q _ (hA.put (Nat.le_of_ble_eq_true hk.2) _)⟩)⟩;have hrow : ah w g t [.bool p.1, .slice p.2.1 p.2.2.1 p.2.2.2] := hw.all _ (List.mem_append_right _ hm);have hl : mq ao k cap ps w := by
  obtain ⟨m, h1, h2⟩ := (hE (none, 0)).right' X G;exact (hw.perm h1).all _ (List.mem_cons_self ..)
 obtain ⟨ao', cap', w', hrun, h1', hc, hS⟩ := wK (ty := ty) hl hb (ad := ⟨g, 0, none⟩) (c := c) (hrow.cell 0) (hrow.cell 1);obtain ⟨m, h1, h2⟩ := (hE (ao', cap')).right' X G;refine vT rfl ?_;show mg _ _ ((execOp a.eval _).run _ w);rw [hA.exec (o := ⟨some s, .call { callee := Callee.builtin Builtin.append, args := #[sa, xa], argTypes := #[22, 22] }, ty, pos, af, none⟩) hk.1];have e : (execOp (cj ls) ⟨some s, .call { callee := Callee.builtin Builtin.append, args := #[sa, xa], argTypes := #[22, 22] }, ty, pos, af, none⟩).run Try.prog w = .ok (.value (.slice ao' (k + 1) cap')) w' := by
  simp [execOp, resolve, invoke, builtin, ha, hv, hrun, Result.andThen]
 rw [e];refine ⟨(ao', cap'), rfl, Fr.perm ((hw.perm h1).bG (e := .fV ao k cap ps) (e' := .fV ao' (k + 1) cap' (ps ++ [p])) rfl hc (fun x hx _ => ?_) (fun _ h => h) h1' hS) h2.symm⟩;rintro b ⟨o, rfl⟩;obtain ⟨_, _, ⟨h, _⟩ | ⟨b', tl, h, ht, hr, _⟩⟩ := hl
 · cases h
 · cases h; exact ⟨_, _, hr, aP.rn ht, by decide⟩
end
section
variable {P : Program} {ops : Array Oper} {Q : Exit -> Act -> World -> Prop} {ds : List Deferred} {S0 : Nat -> Prop} {w0 : World} {E0 : List En} {hd : List (List Nat)} {n j s : Nat} {l : List Nat} {G E : List En} {ls : List (Nat × Value)} {op : Op} {ty : TypeId} {pos : String} {af : Array Edge} {f : FuncId} {args : Array Value}
end
section
variable {P : Program} {Q : Exit -> Act -> World -> Prop} {ds : List Deferred} {S0 : Nat -> Prop} {w0 : World} {n : Nat} {ls : List (Nat × Value)} {es : List En} {c : Code}
end
section
variable {P : Program} {ops : Array Oper} {Q : Exit -> Act -> World -> Prop} {ds : List Deferred} {S0 : Nat -> Prop} {w0 : World} {E0 : List En} {hd : List (List Nat)} {n j s : Nat} {l : List Nat} {G E : List En} {ls : List (Nat × Value)} {op : Op} {ty : TypeId} {pos : String} {af : Array Edge} {f : FuncId} {args : Array Value}
theorem bW {t : TypeId} {cs : List Value} {m : Nat} (k : ∀ g, cW ds ⟨P, ops, Q, S0, w0, E0, hd⟩ n l (.row g t cs :: G) E ((s, .slice (some ⟨g, 0, none⟩) m m) :: ls))
 (ho : ops[j]? = some ⟨some s, op, ty, pos, af, none⟩ := by rfl) (hk : (!bE op && cO op && di ls op && Nat.blt s n) = true := by kernel_rfl)
 (hr : ∀ w, (execOp (cj ls) ⟨some s, op, ty, pos, af, none⟩).run P w = .ok (.value (.slice (some ⟨w.heap.size, 0, none⟩) m m)) (w.alloc (.cells cs.toArray t (0, 0))) := by intro w; (try simp only [av]); go_simp <;> with_reducible rfl) : cW ds ⟨P, ops, Q, S0, w0, E0, hd⟩ n (j :: l) G E ls := fun a ha => by
 simp only [Bool.and_eq_true, Bool.not_eq_true'] at hk;refine ⟨_, ho, .inr (.inl ⟨hk.1.1.1, hk.1.1.2, fun g => .slice (some ⟨g, 0, none⟩) m m, t, cs, ⟨rfl, fun w => ?_⟩, fun g => k g _ (ha.put (Nat.le_of_ble_eq_true hk.2) _)⟩)⟩;rw [ha.exec hk.1.2];exact hr w
end
theorem aI.pos {w : World} {L : Nat} {ao : Option Addr} {xs : List Int} (h : aI w L ao xs) {i : Nat} (hi : i < xs.length) : ∃ b o, ao = some ⟨b, o, none⟩ := by
 obtain ⟨b, o, e, _⟩ := h (by omega);exact ⟨b, o, e⟩
theorem kO {w : World} {ao : Option Addr} {k cap : Nat} {ps : List P4} {xs : List Int} (h : mq ao k cap ps w) (hn : bg w ps xs) : ea w ao xs := fun hl => by
 obtain ⟨h1, _, ⟨_, h2⟩ | ⟨b, tl, rfl, ht, hr, _⟩⟩ := h
 · have := hn.1; omega
 · exact (bM.mk' hr ht hn).lsN hl
theorem lO {ls : List (Nat × Value)} {w : World} {t b : Nat} {x y z : Value} (h : ah w b 24 [x, y, z]) (h1 : dT ls (.tmp t) = true := by kernel_rfl) (h2 : cj ls (.tmp t) = .pointer (some ⟨b, 0, none⟩) := by (simp only [bN, Nat.reduceEqDiff, ↓reduceIte]) <;> rfl) : dZ Try.prog ls w (.cell t 24) (.agg #[x, y, z]) :=
 ⟨h1, _, h2, run_loadVar_row w b 24 24 #[x, y, z] (0, 0) _ h Try.underlying24 rfl (by kernel_rfl)⟩
section
variable {P : Program} {ops : Array Oper} {Q : Exit -> Act -> World -> Prop} {ds : List Deferred} {S0 : Nat -> Prop} {w0 : World} {E0 : List En} {hd : List (List Nat)} {n j s sg g : Nat} {l : List Nat} {G E : List En} {ls : List (Nat × Value)} {op : Op} {ty : TypeId} {pos : String} {af : Array Edge} {f : FuncId} {args : Array Value} {v : Value} {want : Bool}
theorem cGg {α : Type} {mk : α -> Value} {ens : α -> List En} (c : ∀ w, Fr S0 w0 w (G ++ E) -> Calls P f args w fun e w' => ∃ p, e = .returned (mk p) /\ Nw w w' (ens p))
 (k : ∀ p, cW ds ⟨P, ops, Q, S0, w0, E0, hd⟩ n l (ens p ++ G) E ((s, mk p) :: ls))
 (ho : ops[j]? = some ⟨some s, op, ty, pos, af, some (g, want)⟩ := by rfl) (hk : (!bE op && !cO op && di ls op && Nat.blt s n) = true := by kernel_rfl)
 (hg : (ops[g]?).bind (·.dst) = some sg := by rfl) (hi : dT ls (.tmp sg) = true := by kernel_rfl) (hb : cj ls (.tmp sg) = .bool want := by (simp only [bN, Nat.reduceEqDiff, ↓reduceIte]) <;> first | rfl | simp [*])
 (hr : ∀ w, (execOp (cj ls) ⟨some s, op, ty, pos, af, some (g, want)⟩).run P w = .ok (.enter f args) w := by intro w; (try simp only [av]); go_simp <;> with_reducible rfl) (hne : Nonempty α := by infer_instance)
 (hst : ew ops hd j [] = true := by kernel_rfl) : cW ds ⟨P, ops, Q, S0, w0, E0, hd⟩ n (j :: l) G E ls := fun a ha => by
 simp only [Bool.and_eq_true, Bool.not_eq_true'] at hk;refine ⟨_, ho, .inr (.inr ⟨hk.1.1.1, hk.1.1.2, α, mk, fun p => ens p ++ G, fun _ => E, [], hne, fun X w hX hw => ?_, hst, fun _ _ _ => rfl, fun p => k p _ (ha.put (Nat.le_of_ble_eq_true hk.2) _)⟩)⟩;rw [if_pos (by rw [iv ha hg hi hb]; simp)];show mg P _ ((execOp a.eval _).run P w);rw [ha.exec hk.1.2, hr w];refine (c w (hw.sub (List.sublist_append_right ..))).mono ?_;rintro e w' ⟨p, rfl, hn⟩;refine ⟨_, rfl, p, rfl, (hn.fr hw).perm ?_⟩;rw [List.append_assoc];exact (List.perm_append_comm_assoc (ens p) X (G ++ E))
theorem vR (c : ∀ w, Fr S0 w0 w (G ++ E) -> Calls P f args w fun e w' => e = .returned v /\ Below w.heap.size w w')
 (k : cW ds ⟨P, ops, Q, S0, w0, E0, hd⟩ n l G E ((s, v) :: ls))
 (ho : ops[j]? = some ⟨some s, op, ty, pos, af, some (g, want)⟩ := by rfl) (hk : (!bE op && !cO op && di ls op && Nat.blt s n) = true := by kernel_rfl)
 (hg : (ops[g]?).bind (·.dst) = some sg := by rfl) (hi : dT ls (.tmp sg) = true := by kernel_rfl) (hb : cj ls (.tmp sg) = .bool want := by (simp only [bN, Nat.reduceEqDiff, ↓reduceIte]) <;> first | rfl | simp [*])
 (hr : ∀ w, (execOp (cj ls) ⟨some s, op, ty, pos, af, some (g, want)⟩).run P w = .ok (.enter f args) w := by intro w; (try simp only [av]); go_simp <;> with_reducible rfl)
 (hst : ew ops hd j [] = true := by kernel_rfl) : cW ds ⟨P, ops, Q, S0, w0, E0, hd⟩ n (j :: l) G E ls := by
 refine cGg (α := Unit) (mk := fun _ => v) (ens := fun _ => []) (fun w hw => (c w hw).mono ?_) (fun _ => k) ho hk hg hi hb hr ⟨()⟩ hst;rintro e w' ⟨rfl, hb⟩;exact ⟨(), rfl, hb, fun e he => (List.not_mem_nil he).elim, .nil⟩
theorem uC (k : cW ds ⟨P, ops, Q, S0, w0, E0, hd⟩ n l G E ((s, undef) :: ls))
 (ho : ops[j]? = some ⟨some s, op, ty, pos, af, some (g, want)⟩ := by rfl) (hk : (!bE op && !cO op && Nat.blt s n) = true := by kernel_rfl)
 (hg : (ops[g]?).bind (·.dst) = some sg := by rfl) (hi : dT ls (.tmp sg) = true := by kernel_rfl) (hb : cj ls (.tmp sg) = .bool (!want) := by (simp only [bN, Nat.reduceEqDiff, ↓reduceIte]) <;> first | rfl | simp [*])
 (hst : ew ops hd j [] = true := by kernel_rfl) : cW ds ⟨P, ops, Q, S0, w0, E0, hd⟩ n (j :: l) G E ls := fun a ha => by
 simp only [Bool.and_eq_true, Bool.not_eq_true'] at hk;refine ⟨_, ho, .inr (.inr ⟨hk.1.1, hk.1.2, Unit, fun _ => undef, fun _ => G, fun _ => E, [], ⟨()⟩, fun X w hX hw => ?_, hst, fun _ _ _ => rfl, fun _ => k _ (ha.put (Nat.le_of_ble_eq_true hk.2) _)⟩)⟩;rw [if_neg (by rw [iv ha hg hi hb]; simp)];exact ⟨(), rfl, hw⟩
end
theorem cNo' {P : Program} {f : FuncId} {args : Array Value} {w : World} {B : Nat} {x : Int} (h : Calls P f args w fun e w' => (∃ v, e = .returned v /\ ak w' w.heap.size v x) /\ Below w.heap.size w w') (hB : B <= w.heap.size) : Calls P f args w fun e w' => ∃ p : P4, e = .returned (av p) /\ Nw w w' [.own B (av p) x] := h.mono fun e w' ⟨⟨v, he, hv⟩, hb⟩ => by
 subst he;obtain ⟨b, ao, l', k', rfl⟩ := ak.parts hv;exact ⟨(b, ao, l', k'), rfl, hb, fun e he => by
  rcases List.mem_singleton.1 he with rfl;exact ⟨ak.mono hv hB, fun _ h => h.elim⟩, List.pairwise_singleton ..⟩
section
variable {ops : Array Oper} {Q : Exit -> Act -> World -> Prop} {ds : List Deferred} {S0 : Nat -> Prop} {w0 : World} {E0 : List En} {hd : List (List Nat)} {n j s : Nat} {l : List Nat} {G E : List En} {ls : List (Nat × Value)} {ty : TypeId} {pos : String} {af : Array Edge}
end
theorem cd {a : Nat} (h : a < 9223372036854775807) : Value.int .i64 (IntKind.i64.wrap ((a : Int) + 1)) = .int .i64 ((a + 1 : Nat) : Int) := by
 rw [wrap_small] <;> first | rfl | omega
theorem oe {a b : Nat} (h : a + b < 9223372036854775807) : Value.int .i64 (IntKind.i64.wrap ((a : Int) + b)) = .int .i64 ((a + b : Nat) : Int) := by
 rw [wrap_small] <;> first | rfl | omega
theorem jR {a b : Nat} (h : a * b < 9223372036854775808) : Value.int .i64 (IntKind.i64.wrap ((a : Int) * b)) = .int .i64 ((a * b : Nat) : Int) := by
 rw [<- Int.natCast_mul, wrap_small] <;> first | rfl | omega
theorem minI (a b : Nat) : Value.int .i64 (min (a : Int) b) = .int .i64 ((min a b : Nat) : Int) := by congr 1; omega
theorem Fr.ln {S0 : Nat -> Prop} {w0 w : World} {es : List En} (h : Fr S0 w0 w es) {ao : Option Addr} {xs : List Int} (hx : ea w ao xs) (hS : ∀ e ∈ es, e.wr = false) : Fr S0 w0 w (.gX ao xs :: es) :=
 h.cons hx (fun e he => ⟨(fun q => nomatch q), fun q => by rw [hS e he] at q; cases q⟩) (fun q => nomatch q)
theorem ea.pos {w : World} {ao : Option Addr} {xs : List Int} (h : ea w ao xs) {i : Nat} (hi : i < xs.length) : ∃ b o, ao = some ⟨b, o, none⟩ := by
 obtain ⟨b, o, e, _⟩ := h (by omega);exact ⟨b, o, e⟩
section
variable {P : Program} {Q : Exit -> Act -> World -> Prop} {ds : List Deferred} {S0 : Nat -> Prop} {w0 : World} {n : Nat} {ls : List (Nat × Value)} {es : List En} {c : Code}
theorem xP {xs : List Int} {b o : Nat} (i : Nat) (hm : En.gX (some ⟨b, o, none⟩) xs ∈ es) (hi : i < xs.length) (k : ∀ p : P4, dL ds P n S0 w0 c Q ls (.cell ⟨b, o + i * 2, none⟩ (.bool p.1) :: .cell ⟨b, o + i * 2 + 1, none⟩ (.slice p.2.1 p.2.2.1 p.2.2.2) :: .num (av p) (gi xs i) :: es)) : dL ds P n S0 w0 c Q ls es := fun a w ha hw => by
 have hA : ea w (some ⟨b, o, none⟩) xs := hw.all _ hm;obtain ⟨b', o', e, hb, hc⟩ := hA (by omega);cases e;obtain ⟨p, h0, h1, hx⟩ := hc i hi;rw [<- bV hi] at hx;have hS : (En.gX (some ⟨b, o, none⟩) xs).S b := ⟨by omega, o, rfl⟩;exact k p a w ha (((hw.pure (e := .num (av p) (gi xs i)) hx (fun _ h => h)).cellOf (List.mem_cons_of_mem _ hm) rfl hS h1).cellOf (List.mem_cons_of_mem _ (List.mem_cons_of_mem _ hm)) rfl hS h0)
end
theorem ui {n : Nat} (h0 : 0 < n) (h : n < W) : ez n = [n] := by
 have e := fD (Ok.one h);have hv : aa [n] = n := by simp [aa]
 have hw : ag n = 1 := by
  have e1 : ag n ≠ 0 := fun e => by have := cH.1 e; omega
  have e2 : ag n <= 1 := an (by simpa using h);omega
 have ht := bD (Ok.one h);rw [hv, hw] at ht;rw [hv, <- ht] at e;simpa using e
theorem fU {n : Nat} (h0 : 0 < n) (h : n < W) : ag n = 1 := by
 have e1 : ag n ≠ 0 := fun e => by have := cH.1 e; omega
 have e2 : ag n <= 1 := an (by simpa using h);omega
theorem xe {r c i j : Nat} (hi : i < r) (hj : j < c) : i * c + j < r * c := by
 have h1 : (i + 1) * c <= r * c := Nat.mul_le_mul_right _ hi;have h2 : (i + 1) * c = i * c + c := Nat.succ_mul i c;omega
section
variable {P : Program} {ops : Array Oper} {Q : Exit -> Act -> World -> Prop} {ds : List Deferred} {S0 : Nat -> Prop} {w0 : World} {E0 : List En} {n j s sg g : Nat} {l : List Nat} {G E : List En} {ls : List (Nat × Value)} {op : Op} {ty : TypeId} {pos : String} {af : Array Edge} {v v' : Value} {want : Bool}
theorem dGE (hv : v' = v) (k : cW ds ⟨P, ops, Q, S0, w0, E0, []⟩ n l G E ((s, v) :: ls))
 (ho : ops[j]? = some ⟨some s, op, ty, pos, af, some (g, want)⟩ := by rfl) (hk : (bE op && di ls op && Nat.blt s n) = true := by kernel_rfl)
 (hg : (ops[g]?).bind (·.dst) = some sg := by rfl) (hi : dT ls (.tmp sg) = true := by kernel_rfl) (hb : cj ls (.tmp sg) = .bool want := by (simp only [bN, Nat.reduceEqDiff, ↓reduceIte]) <;> first | rfl | simp [*])
 (hr : ∀ w, (nP op = true -> Fr S0 w0 w E0) -> (execOp (cj ls) ⟨some s, op, ty, pos, af, some (g, want)⟩).run P w = .ok (.value v') w := by intro w H; (first | (have c := (H rfl).c; try simp only [rz, cl, List.cons_append, List.nil_append] at c) | skip); clear H; go_simp <;> with_reducible rfl) : cW ds ⟨P, ops, Q, S0, w0, E0, []⟩ n (j :: l) G E ls :=
 dG k ho hk hg hi hb (by rw [<- hv]; exact hr)
end
theorem Fr.cl {S0 : Nat -> Prop} {w0 w : World} {es : List En} (h : Fr S0 w0 w es) {a : Addr} {v : Value} (hc : w.cell? a = some v) (hS : ∀ e ∈ es, e.wr = false) : Fr S0 w0 w (.cell a v :: es) :=
 h.cons (e := .cell a v) hc (fun e he => ⟨(fun q => nomatch q), fun q => by rw [hS e he] at q; cases q⟩) (fun q => nomatch q)
end Go.Proofs.Ytjjlmfmoihooiaa
namespace Go.Proofs.Ytjjlmfmoihooiaa
def aC (c : Nat) (f : Nat -> Nat -> Int) (k : Nat) : List Int := (List.range k).map fun q => f (q / c) (q % c)
theorem aA (c : Nat) (f : Nat -> Nat -> Int) (k : Nat) : (aC c f k).length = k := by simp [aC]
theorem mz {c i j : Nat} (f : Nat -> Nat -> Int) (hj : j < c) : aC c f (i * c + j + 1) = aC c f (i * c + j) ++ [f i j] := by
 have h1 : (i * c + j) / c = i := by rw [Nat.mul_comm, Nat.mul_add_div (by omega), Nat.div_eq_of_lt hj]; rfl
 have h2 : (i * c + j) % c = j := by rw [Nat.mul_comm, Nat.mul_add_mod, Nat.mod_eq_of_lt hj]
 unfold aC;rw [List.range_succ, List.map_append];simp [h1, h2]
theorem eP {r c i j : Nat} (f : Nat -> Nat -> Int) (hi : i < r) (hj : j < c) : (aC c f (r * c)).getD (i * c + j) 0 = f i j := by
 have h1 : (i * c + j) / c = i := by rw [Nat.mul_comm, Nat.mul_add_div (by omega), Nat.div_eq_of_lt hj]; rfl
 have h2 : (i * c + j) % c = j := by rw [Nat.mul_comm, Nat.mul_add_mod, Nat.mod_eq_of_lt hj]
 have h3 : (i + 1) * c <= r * c := Nat.mul_le_mul_right _ hi;have h4 : (i + 1) * c = i * c + c := Nat.succ_mul i c;unfold aC;rw [List.getD_eq_getElem?_getD, List.getElem?_map, List.getElem?_range (by omega)];simp [h1, h2]
end Go.Proofs.Ytjjlmfmoihooiaa
