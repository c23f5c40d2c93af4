/- Part 1 of 9 of the proof that the law GroupSmith returns true for every input of bulk at most 1048576 and leaves its arguments as they were. -/
import Derived.WalkKit
import Derived.Test.YtbgecfleamckcaaGreatProg
import Derived.Lib.Hide
import Derived.Shelf.Spec.BitsCarry
import Derived.Outline
import Derived.WalkSpells
import Derived.WalkLawsBesides
import Derived.BigQuiet
import Derived.Deep.QuietTactic
import Derived.Deep.DeepCutAuto
import Derived.Laws.CopyOwn
import Derived.Shelf.Small.Bits
import Derived.Shelf.Strconv.Itoa0
import Derived.Shelf.Bits.Mul64
import Derived.Lib.ItoaNum
import Derived.Deep.CutBlock
import Derived.RegionTactic
import Derived.BigRegion
import Derived.WalkMore
import Derived.Deep.RegionHeld3
import Derived.StillTailTactics
set_option linter.all false
set_option maxRecDepth 100000
set_option maxHeartbeats 2000000
namespace Go.Proofs.YtbgecfleamckcaaGreat
def W : Nat := 18446744073709551616
theorem bE : 0 < W := by unfold W; omega
theorem gH : 2 <= W := by unfold W; omega
def a7 : List Nat -> Nat
 | [] => 0
 | x :: r => x + W * a7 r
def gw (l : List Nat) (i : Nat) : Nat := l.getD i 0
def Ok (l : List Nat) : Prop := ∀ x ∈ l, x < W
def aj : List Nat -> Nat
 | [] => 0
 | x :: r => if aj r = 0 then (if x = 0 then 0 else 1) else aj r + 1
def ew (n : Nat) : List Nat := if h : n = 0 then [] else (n % W) :: ew (n / W)
termination_by n
decreasing_by exact Nat.div_lt_self (by omega) (gH)
theorem ed : ew 0 = [] := by unfold ew; simp
theorem j6 {n : Nat} (h : n ≠ 0) : ew n = (n % W) :: ew (n / W) := by rw [ew]; simp [h]
def aa (n : Nat) : Nat := (ew n).length
theorem cM (n : Nat) : a7 (ew n) = n := by
 induction n using Nat.strongRecOn with
 | _ n ih =>
  by_cases h : n = 0
  . subst h; simp [ed, a7]
  . rw [j6 h, a7, ih _ (Nat.div_lt_self (by omega) gH)];exact Nat.mod_add_div n W
theorem ui (n : Nat) : Ok (ew n) := by
 induction n using Nat.strongRecOn with
 | _ n ih =>
  by_cases h : n = 0
  . subst h; simp [ed, Ok]
  . rw [j6 h];intro x hx;rcases List.mem_cons.1 hx with rfl | hx
    . exact Nat.mod_lt _ bE
    . exact ih _ (Nat.div_lt_self (by omega) gH) x hx
theorem Ok.nil : Ok [] := by simp [Ok]
theorem Ok.tail {x : Nat} {r : List Nat} (h : Ok (x :: r)) : Ok r := fun y hy => h y (List.mem_cons_of_mem _ hy)
theorem Ok.head {x : Nat} {r : List Nat} (h : Ok (x :: r)) : x < W := h x (List.mem_cons_self ..)
theorem Ok.append {a b : List Nat} (ha : Ok a) (hb : Ok b) : Ok (a ++ b) := fun x hx => (List.mem_append.1 hx).elim (ha x) (hb x)
theorem Ok.take {l : List Nat} (h : Ok l) (k : Nat) : Ok (l.take k) := fun x hx => h x (List.mem_of_mem_take hx)
theorem Ok.drop {l : List Nat} (h : Ok l) (k : Nat) : Ok (l.drop k) := fun x hx => h x (List.mem_of_mem_drop hx)
theorem Ok.set {l : List Nat} (h : Ok l) (k v : Nat) (hv : v < W) : Ok (l.set k v) := fun x hx => (List.mem_or_eq_of_mem_set hx).elim (h x) (fun e => e ▸ hv)
theorem Ok.get {l : List Nat} (h : Ok l) (k : Nat) : l.getD k 0 < W := by
 rw [List.getD_eq_getElem?_getD];cases hk : l[k]? with
 | none => simpa using bE
 | some v => exact h v (List.mem_of_getElem? hk)
theorem Ok.replicate (n : Nat) : Ok (List.replicate n 0) := fun x hx => by rw [List.eq_of_mem_replicate hx]; exact bE
theorem Ok.one {x : Nat} (h : x < W) : Ok [x] := by simpa [Ok] using h
theorem jx (a b : List Nat) : a7 (a ++ b) = a7 a + W ^ a.length * a7 b := by
 induction a with
 | nil => simp [a7]
 | cons x r ih => simp only [List.cons_append, a7, ih, List.length_cons, Nat.pow_succ, Nat.mul_add]; rw [Nat.mul_comm (W ^ r.length) W, Nat.mul_assoc]; omega
theorem gI (n : Nat) : a7 (List.replicate n 0) = 0 := by
 induction n with
 | zero => simp [a7]
 | succ n ih => simp [List.replicate_succ, a7, ih]
theorem dP {l : List Nat} (h : Ok l) : a7 l < W ^ l.length := by
 induction l with
 | nil => simp [a7]
 | cons x r ih =>
  have h1 := h.head;have h2 := ih h.tail;simp only [a7, List.length_cons, Nat.pow_succ];have : W * (a7 r + 1) <= W * W ^ r.length := Nat.mul_le_mul_left _ h2;rw [Nat.mul_comm (W ^ r.length) W];rw [Nat.mul_add] at this;omega
theorem fm (l : List Nat) (k : Nat) (hk : k <= l.length) : a7 l = a7 (l.take k) + W ^ k * a7 (l.drop k) := by
 conv => lhs; rw [<- List.take_append_drop k l]
 rw [jx, List.length_take, Nat.min_eq_left hk]
theorem aH (l : List Nat) : aj l <= l.length := by
 induction l with
 | nil => simp [aj]
 | cons x r ih => simp only [aj, List.length_cons]; split <;> (try split) <;> omega
theorem kj (l : List Nat) (k : Nat) (hk : ∀ j, k <= j -> l.getD j 0 = 0) : aj l <= k := by
 induction l generalizing k with
 | nil => simp [aj]
 | cons x r ih =>
  simp only [aj];have h1 := ih (k - 1) (fun j hj => by have := hk (j + 1) (by omega); simpa using this);split
  . split
    . omega
    . rcases Nat.eq_zero_or_pos k with rfl | h
      . have := hk 0 (by omega); simp at this; omega
      . omega
  . rename_i h0;have : k ≠ 0 := by
     rintro rfl;have h2 := ih 0 (fun j hj => by have := hk (j + 1) (by omega); simpa using this);omega
    omega
theorem qA (l : List Nat) (k : Nat) (hk : l.getD k 0 ≠ 0) : k < aj l := by
 induction l generalizing k with
 | nil => simp at hk
 | cons x r ih =>
  simp only [aj];match k with
  | 0 => simp at hk; split <;> simp [hk]
  | k + 1 =>
   have := ih k (by simpa using hk);rw [if_neg (by omega)]; omega
theorem j8 (l : List Nat) (k : Nat) (h : aj l <= k) : l.getD k 0 = 0 := by
 by_cases h0 : l.getD k 0 = 0
 . exact h0
 . have := qA l k h0; omega
theorem sr (l : List Nat) (h : aj l ≠ 0) : l.getD (aj l - 1) 0 ≠ 0 := by
 induction l with
 | nil => simp [aj] at h
 | cons x r ih =>
  simp only [aj] at h |-;by_cases h1 : aj r = 0
  . simp only [h1, if_true] at h |-;by_cases h2 : x = 0
    . simp [h2] at h
    . simp [h2]
  . simp only [h1, if_false] at h |-;have := ih h1;obtain ⟨k, hk⟩ : ∃ k, aj r = k + 1 := ⟨aj r - 1, by omega⟩;rw [hk] at this |-;simpa using this
theorem iC {l : List Nat} (h : Ok l) : ew (a7 l) = l.take (aj l) := by
 induction l with
 | nil => simp [a7, ed]
 | cons x r ih =>
  have h1 := h.head;have h2 := ih h.tail;have hm : (x + W * a7 r) % W = x := by rw [Nat.add_mul_mod_self_left, Nat.mod_eq_of_lt h1]
  have hd : (x + W * a7 r) / W = a7 r := by rw [Nat.add_mul_div_left _ _ bE, Nat.div_eq_of_lt h1]; omega
  simp only [a7, aj];by_cases ht : aj r = 0
  . rw [ht] at h2;have hr : a7 r = 0 := by have := cM (a7 r); rw [h2] at this; simpa [a7] using this.symm
    by_cases hx : x = 0
    . subst hx; simp [ht, hr, ed]
    . have : x + W * a7 r ≠ 0 := by omega
      rw [j6 this, hm, hd, hr, ed]; simp [ht, hx]
  . have hr : a7 r ≠ 0 := by
     intro e;rw [e, ed] at h2;have := congrArg List.length h2;simp [List.length_take] at this;have := aH r;omega
    have : x + W * a7 r ≠ 0 := by have := bE; have := Nat.mul_pos this (Nat.pos_of_ne_zero hr); omega
    rw [j6 this, hm, hd, h2]; simp [ht]
theorem bU {l : List Nat} (h : Ok l) : aa (a7 l) = aj l := by
 unfold aa; rw [iC h, List.length_take, Nat.min_eq_left (aH l)]
theorem bN {l : List Nat} (h : Ok l) : a7 (l.take (aj l)) = a7 l := by rw [<- iC h, cM]
theorem gk {l : List Nat} (h : Ok l) : aj l = 0 ↔ a7 l = 0 := by
 constructor
 . intro e; rw [<- bN h, e]; simp [a7]
 . intro e; rw [<- bU h, e]; simp [aa, ed]
theorem yf (n : Nat) : aj (ew n) = (ew n).length := by
 have := bU (ui n); rw [cM] at this; exact this.symm
theorem bg : aa 0 = 0 := by simp [aa, ed]
theorem da {n : Nat} : aa n = 0 ↔ n = 0 := by
 constructor
 . intro h;by_cases h0 : n = 0
   . exact h0
   . simp [aa, j6 h0] at h
 . rintro rfl; exact bg
theorem bK (n : Nat) : n < W ^ aa n := by
 have := dP (ui n); rwa [cM] at this
theorem nK {n : Nat} (h : n ≠ 0) : W ^ (aa n - 1) <= n := by
 induction n using Nat.strongRecOn with
 | _ n ih =>
  have e : aa n = aa (n / W) + 1 := by simp [aa, j6 h]
  rw [e, Nat.add_sub_cancel];by_cases h0 : n / W = 0
  . rw [h0, bg]; simp; omega
  . have := ih (n / W) (Nat.div_lt_self (by omega) gH) h0;have e2 : aa (n / W) = (aa (n / W) - 1) + 1 := by
     have : aa (n / W) ≠ 0 := fun e => h0 (da.1 e);omega
    rw [e2, Nat.pow_succ];exact Nat.le_trans (Nat.mul_le_mul_right _ this) (Nat.div_mul_le_self n W)
theorem an {n k : Nat} (h : n < W ^ k) : aa n <= k := by
 by_cases h0 : n = 0
 . subst h0; rw [bg]; omega
 . have h1 := nK h0;have h2 : W ^ (aa n - 1) < W ^ k := Nat.lt_of_le_of_lt h1 h;have h3 := (Nat.pow_lt_pow_iff_right (a := W) (by unfold W; omega)).1 h2;omega
theorem aF {a b : Nat} (h : a <= b) : aa a <= aa b := an (Nat.lt_of_le_of_lt h (bK b))
theorem eO (a b : Nat) : aa (a * b) <= aa a + aa b := by
 apply an;rw [Nat.pow_add];have h1 := bK a;have h2 := bK b;exact Nat.mul_lt_mul_of_le_of_lt (Nat.le_of_lt h1) h2 (Nat.pow_pos bE)
theorem oA (a b : Nat) : aa (a + b) <= max (aa a) (aa b) + 1 := by
 apply an;rw [Nat.pow_succ];have h1 := Nat.lt_of_lt_of_le (bK a) (Nat.pow_le_pow_right bE (Nat.le_max_left (aa a) (aa b)));have h2 := Nat.lt_of_lt_of_le (bK b) (Nat.pow_le_pow_right bE (Nat.le_max_right (aa a) (aa b)));have h3 : W ^ max (aa a) (aa b) * 2 <= W ^ max (aa a) (aa b) * W := Nat.mul_le_mul_left _ gH;omega
theorem ep {l : List Nat} (h : Ok l) : aa (a7 l) <= l.length := by rw [bU h]; exact aH l
theorem xD (l : List Nat) (k v : Nat) (hk : k < l.length) : a7 (l.set k v) + W ^ k * l.getD k 0 = a7 l + W ^ k * v := by
 induction l generalizing k with
 | nil => simp at hk
 | cons x r ih =>
  match k with
  | 0 => simp [a7]; omega
  | k + 1 =>
   have := ih k (by simpa using hk);simp only [List.set_cons_succ, a7, List.getD_cons_succ, Nat.pow_succ];have e : W * (a7 (r.set k v) + W ^ k * r.getD k 0) = W * (a7 r + W ^ k * v) := by rw [this]
   rw [Nat.mul_add, Nat.mul_add, <- Nat.mul_assoc, <- Nat.mul_assoc] at e;rw [Nat.mul_comm (W ^ k) W];omega
theorem oM (l : List Nat) (k : Nat) (hk : k < l.length) : l.take (k + 1) = l.take k ++ [l.getD k 0] := by
 rw [List.take_succ_eq_append_getElem hk]; simp [List.getD_eq_getElem?_getD, List.getElem?_eq_getElem hk]
theorem oL (l : List Nat) (k : Nat) (hk : k < l.length) : a7 (l.take (k + 1)) = a7 (l.take k) + W ^ k * l.getD k 0 := by
 rw [oM l k hk, jx, List.length_take, Nat.min_eq_left (by omega)]; simp [a7]
theorem n5 (l : List Nat) (k : Nat) : a7 (l.take (k + 1)) = a7 (l.take k) + W ^ k * l.getD k 0 := by
 by_cases hk : k < l.length
 . exact oL l k hk
 . rw [List.take_of_length_le (by omega), List.take_of_length_le (by omega)];simp [List.getD_eq_getElem?_getD, List.getElem?_eq_none (by omega : l.length <= k)]
theorem gR (l : List Nat) (k : Nat) : a7 (l ++ List.replicate k 0) = a7 l := by rw [jx, gI]; simp
theorem Ok.gw {l : List Nat} (h : Ok l) (k : Nat) : gw l k < W := h.get k
theorem aD (l : List Nat) (k : Nat) : a7 (l.take (k + 1)) = a7 (l.take k) + W ^ k * gw l k := n5 l k
theorem iS {l : List Nat} (h : Ok l) (k : Nat) : a7 (l.take k) < W ^ k :=
 Nat.lt_of_lt_of_le (dP (h.take k)) (Nat.pow_le_pow_right bE (by rw [List.length_take]; exact Nat.min_le_left ..))
theorem kh {a b : List Nat} (ha : Ok a) (_hb : Ok b) (k : Nat) (h : ∀ j, k < j -> gw a j = gw b j) (hk : gw a k < gw b k) : a7 a < a7 b := by
 have key : ∀ d, a7 (a.take (k + 1 + d)) < a7 (b.take (k + 1 + d)) := by
  intro d;induction d with
  | zero =>
   rw [Nat.add_zero, aD, aD];have h1 := iS ha k;have h2 : W ^ k * (gw a k + 1) <= W ^ k * gw b k := Nat.mul_le_mul_left _ hk;rw [Nat.mul_add] at h2;omega
  | succ d ih =>
   rw [<- Nat.add_assoc, aD, aD, h _ (by omega)];omega
 have := key (a.length + b.length)
 rwa [List.take_of_length_le (by omega), List.take_of_length_le (by omega)] at this
theorem ko {a b : List Nat} (h : ∀ j, gw a j = gw b j) : a7 a = a7 b := by
 have key : ∀ d, a7 (a.take d) = a7 (b.take d) := by
  intro d;induction d with
  | zero => rfl
  | succ d ih => rw [aD, aD, h, ih]
 have := key (a.length + b.length)
 rwa [List.take_of_length_le (by omega), List.take_of_length_le (by omega)] at this
theorem j7 {l : List Nat} {j : Nat} (h : aj l <= j) : gw l j = 0 := j8 l j h
theorem ja {a b : List Nat} (ha : Ok a) (hb : Ok b) (h : aj a < aj b) : a7 a < a7 b := by
 rw [<- bU ha, <- bU hb] at h;refine Decidable.byContradiction fun hn => ?_;have := aF (Nat.le_of_not_lt hn);omega
theorem zp (l : List Nat) (n j : Nat) : gw (l.take n) j = if j < n then gw l j else 0 := by
 simp only [gw, List.getD_eq_getElem?_getD, List.getElem?_take];split <;> simp
theorem gS {l : List Nat} {n : Nat} (h : aj l <= n) : a7 (l.take n) = a7 l :=
 ko fun j => by
  rw [zp]; split
  . rfl
  . rw [j7 (by omega)]
theorem jl {l : List Nat} {k : Nat} (hk : k < l.length) (v : Nat) : gw (l.set k v) k = v := by
 simp [gw, List.getD_eq_getElem?_getD, List.getElem?_set, hk]
theorem bS {l : List Nat} {k j : Nat} (h : k ≠ j) (v : Nat) : gw (l.set k v) j = gw l j := by
 simp [gw, List.getD_eq_getElem?_getD, List.getElem?_set, h]
theorem kt (l : List Nat) (k v : Nat) : (l.set k v).take k = l.take k := by
 apply List.ext_getElem?;intro j;simp only [List.getElem?_take, List.getElem?_set];by_cases h : j < k
 . have : ¬ k = j := by omega
   simp [h, this]
 . simp [h]
theorem dU {l : List Nat} {k : Nat} (hk : k < l.length) (v : Nat) : a7 ((l.set k v).take (k + 1)) = a7 (l.take k) + W ^ k * v := by
 rw [aD, kt, jl hk]
def bG (x y c : Nat) : Nat := (x + y + c) % W
def bh (x y c : Nat) : Nat := (x + y + c) / W
def ei (x y c : Nat) : Nat := (x + W - y - c) % W
def bM (x y : Nat) : Nat := x * y / W
def aL (x y : Nat) : Nat := x * y % W
theorem add_eq (x y c : Nat) : bG x y c + W * bh x y c = x + y + c := Nat.mod_add_div _ _
theorem mul_eq (x y : Nat) : aL x y + W * bM x y = x * y := Nat.mod_add_div _ _
theorem ft (x y c : Nat) : bG x y c < W := Nat.mod_lt _ bE
theorem iB (x y c : Nat) : ei x y c < W := Nat.mod_lt _ bE
theorem jE (x y : Nat) : aL x y < W := Nat.mod_lt _ bE
theorem ta {ls : List Nat} {k c x y A B : Nat} (hk : k < ls.length) (h : a7 (ls.take k) + W ^ k * c = A + B) :
 a7 ((ls.set k (bG x y c)).take (k + 1)) + W ^ (k + 1) * bh x y c = (A + W ^ k * x) + (B + W ^ k * y) := by
 unfold bG bh;rw [dU hk, Nat.pow_succ, Nat.mul_assoc];have e : W ^ k * ((x + y + c) % W) + W ^ k * (W * ((x + y + c) / W)) = W ^ k * (x + y + c) := by rw [<- Nat.mul_add, Nat.mod_add_div]
 rw [Nat.mul_add, Nat.mul_add] at e;omega
theorem ju {x y c : Nat} (hx : x < W) (hy : y < W) (hc : c <= 1) : bh x y c <= 1 := by
 unfold bh;have : (x + y + c) / W < 2 := (Nat.div_lt_iff_lt_mul bE).2 (by omega);omega
def uP (x y c : Nat) : Nat := if x < y + c then 1 else 0
theorem mh (x y c : Nat) : uP x y c <= 1 := by unfold uP; split <;> omega
theorem tG {ls : List Nat} {k c x y A B : Nat} (hk : k < ls.length) (h : a7 (ls.take k) + B = A + W ^ k * c) (hx : x < W) (hy : y < W) (hc : c <= 1) :
 a7 ((ls.set k (ei x y c)).take (k + 1)) + (B + W ^ k * y) = (A + W ^ k * x) + W ^ (k + 1) * uP x y c := by
 unfold uP ei;rw [dU hk, Nat.pow_succ];split
 . have e : (x + W - y - c) % W = x + W - y - c := Nat.mod_eq_of_lt (by omega);have e2 : W ^ k * (x + W - y - c) + W ^ k * y + W ^ k * c = W ^ k * x + W ^ k * W := by
    rw [<- Nat.mul_add, <- Nat.mul_add, <- Nat.mul_add]; congr 1; omega
   rw [e]; omega
 . have e : (x + W - y - c) % W = x - y - c := by
    have : x + W - y - c = (x - y - c) + W := by omega
    rw [this, Nat.add_mod_right, Nat.mod_eq_of_lt (by omega)]
   have e2 : W ^ k * (x - y - c) + W ^ k * y + W ^ k * c = W ^ k * x := by
    rw [<- Nat.mul_add, <- Nat.mul_add]; congr 1; omega
   rw [e]; omega
theorem jG (n : Nat) : n % W < W := Nat.mod_lt _ bE
theorem xj : W = 2 ^ 64 := rfl
theorem jP {s : Nat} (h : s <= 64) : W = 2 ^ (64 - s) * 2 ^ s := by rw [xj, <- Nat.pow_add]; congr 1; omega
theorem sR {l : List Nat} (h : Ok l) (k : Nat) : a7 l % W ^ k = a7 (l.take k) := by
 by_cases hk : k <= l.length
 . rw [fm l k hk, Nat.add_mul_mod_self_left, Nat.mod_eq_of_lt (iS h k)]
 . rw [List.take_of_length_le (by omega), Nat.mod_eq_of_lt];exact Nat.lt_of_lt_of_le (dP h) (Nat.pow_le_pow_right bE (by omega))
theorem si {l : List Nat} (h : Ok l) (k : Nat) : a7 l / W ^ k = gw l k + W * (a7 l / W ^ (k + 1)) := by
 have e1 := sR h k;have e2 := sR h (k + 1);rw [aD, <- e1] at e2;have hp : 0 < W ^ k := Nat.pow_pos bE;have h1 := Nat.div_add_mod (a7 l) (W ^ k);have h2 := Nat.div_add_mod (a7 l) (W ^ (k + 1));rw [e2, Nat.pow_succ, Nat.mul_assoc] at h2;have h3 : W ^ k * (a7 l / W ^ k) = W ^ k * (gw l k + W * (a7 l / W ^ (k + 1))) := by rw [Nat.mul_add, Nat.pow_succ]; omega
 exact Nat.eq_of_mul_eq_mul_left hp h3
theorem ks (n k : Nat) : n % W ^ (k + 1) = n % W ^ k + W ^ k * (n / W ^ k % W) := by
 rw [Nat.pow_succ, Nat.mod_mul]
theorem sX {l : List Nat} (h : Ok l) {s : Nat} (hs : s < 64) (k : Nat) :
 gw l k / 2 ^ s + gw l (k + 1) * 2 ^ (64 - s) % W = a7 l / 2 ^ s / W ^ k % W := by
 have e0 : a7 l / 2 ^ s / W ^ k = a7 l / W ^ k / 2 ^ s := by rw [Nat.div_div_eq_div_mul, Nat.div_div_eq_div_mul, Nat.mul_comm]
 have e1 := si h k;have e2 := si h (k + 1);have hW := jP (Nat.le_of_lt hs);have hp : 0 < 2 ^ s := Nat.two_pow_pos s;generalize hM : a7 l / W ^ (k + 1 + 1) = M at *;have e3 : a7 l / 2 ^ s / W ^ k = gw l k / 2 ^ s + 2 ^ (64 - s) * (gw l (k + 1) + W * M) := by
  rw [e0, e1, e2];have : W * (gw l (k + 1) + W * M) = 2 ^ s * (2 ^ (64 - s) * (gw l (k + 1) + W * M)) := by
   rw [<- Nat.mul_assoc, Nat.mul_comm (2 ^ s), <- hW]
  rw [this, Nat.add_mul_div_left _ _ hp]
 have hlt : gw l k / 2 ^ s < 2 ^ (64 - s) := by
  rw [Nat.div_lt_iff_lt_mul hp, <- hW]; exact h.gw k
 have e4 : gw l (k + 1) * 2 ^ (64 - s) % W = 2 ^ (64 - s) * (gw l (k + 1) % 2 ^ s) := by
  rw [Nat.mul_comm]; conv => lhs; rhs; rw [hW]
  exact Nat.mul_mod_mul_left ..
 have hlt2 : gw l (k + 1) % 2 ^ s < 2 ^ s := Nat.mod_lt _ hp;have hlt3 : gw l k / 2 ^ s + 2 ^ (64 - s) * (gw l (k + 1) % 2 ^ s) < W := by
  have : 2 ^ (64 - s) * (gw l (k + 1) % 2 ^ s + 1) <= 2 ^ (64 - s) * 2 ^ s := Nat.mul_le_mul_left _ hlt2;rw [<- hW, Nat.mul_add] at this;omega
 rw [e4, e3, Nat.mul_add, <- Nat.add_assoc, <- Nat.mul_assoc, Nat.mul_comm (2 ^ (64 - s)) W, Nat.mul_assoc, Nat.add_mul_mod_self_left];have e5 := Nat.mod_add_div (gw l (k + 1)) (2 ^ s);have e6 : gw l k / 2 ^ s + 2 ^ (64 - s) * gw l (k + 1) = (gw l k / 2 ^ s + 2 ^ (64 - s) * (gw l (k + 1) % 2 ^ s)) + W * (gw l (k + 1) / 2 ^ s) := by
  conv => lhs; rw [<- e5]
  rw [Nat.mul_add, <- Nat.mul_assoc, <- hW]; omega
 rw [e6, Nat.add_mul_mod_self_left, Nat.mod_eq_of_lt hlt3]
theorem pT {a b n : Nat} (h : a < 2 ^ n) : a ||| (2 ^ n * b) = a + 2 ^ n * b := by
 have := Nat.two_pow_add_eq_or_of_lt h b;rw [Nat.or_comm, <- this, Nat.add_comm]
theorem xn {l : List Nat} (h : Ok l) {s : Nat} (hs : s < 64) (k : Nat) :
 gw l k / 2 ^ s ||| gw l (k + 1) * 2 ^ (64 - s) % W = a7 l / 2 ^ s / W ^ k % W := by
 rw [<- sX h hs];have hW := jP (Nat.le_of_lt hs);have hp : 0 < 2 ^ s := Nat.two_pow_pos s;have hlt : gw l k / 2 ^ s < 2 ^ (64 - s) := by
  rw [Nat.div_lt_iff_lt_mul hp, <- hW]; exact h.gw k
 have e4 : gw l (k + 1) * 2 ^ (64 - s) % W = 2 ^ (64 - s) * (gw l (k + 1) % 2 ^ s) := by
  rw [Nat.mul_comm]; conv => lhs; rhs; rw [hW]
  exact Nat.mul_mod_mul_left ..
 rw [e4, pT hlt]
def sv (l : List Nat) (o n : Nat) : Nat := a7 ((l.drop o).take n)
theorem vU (l : List Nat) (o j : Nat) : gw (l.drop o) j = gw l (o + j) := by simp [gw, List.getD_eq_getElem?_getD, List.getElem?_drop]
theorem iU (l : List Nat) (o : Nat) : sv l o 0 = 0 := by simp [sv, a7]
theorem cT (l : List Nat) (o n : Nat) : sv l o (n + 1) = sv l o n + W ^ n * gw l (o + n) := by
 unfold sv; rw [aD, vU]
theorem oj {l l' : List Nat} {o n : Nat} (h : ∀ i, i < n -> gw l (o + i) = gw l' (o + i)) : sv l o n = sv l' o n := by
 induction n with
 | zero => simp [iU]
 | succ n ih => rw [cT, cT, ih (fun i hi => h i (by omega)), h n (by omega)]
theorem lQ (l : List Nat) (o m n : Nat) : sv l o (m + n) = sv l o m + W ^ m * sv l (o + m) n := by
 induction n with
 | zero => simp [iU]
 | succ n ih =>
  rw [<- Nat.add_assoc, cT, ih, cT, Nat.mul_add, <- Nat.mul_assoc, <- Nat.pow_add, Nat.add_assoc, Nat.add_assoc o m n]
theorem fF (l : List Nat) : sv l 0 l.length = a7 l := by simp [sv]
theorem nv (l : List Nat) (n : Nat) : sv l 0 n = a7 (l.take n) := by simp [sv]
theorem zn (l : List Nat) (o : Nat) : sv l o (l.length - o) = a7 (l.drop o) := by
 unfold sv; rw [List.take_of_length_le (by rw [List.length_drop]; exact Nat.le_refl _)]
theorem o5 {l : List Nat} (h : Ok l) (o n : Nat) : sv l o n < W ^ n := iS (h.drop o) n
theorem uy {l : List Nat} {o n j v : Nat} (h : j < o \/ o + n <= j) : sv (l.set j v) o n = sv l o n :=
 oj fun i hi => bS (by omega) v
theorem gQ {l : List Nat} {o n v : Nat} (h : o + n < l.length) : sv (l.set (o + n) v) o (n + 1) = sv l o n + W ^ n * v := by
 rw [cT, uy (by omega), jl h]
theorem pP {l l' : List Nat} {o i n X Y : Nat} (hin : i <= n) (h : sv l' o i + X = sv l o i + Y) (hs : ∀ j, o + i <= j -> gw l' j = gw l j) : sv l' o n + X = sv l o n + Y := by
 obtain ⟨d, rfl⟩ : ∃ d, n = i + d := ⟨n - i, by omega⟩;rw [lQ, lQ, oj (l := l') (l' := l) (o := o + i) (n := d) (fun k _ => hs _ (by omega))];omega
theorem iX {cu cur ws : List Nat} {o k cr y N M : Nat} (hlt : o + k < cu.length) (he : sv cu o k + W ^ k * cr = sv cur o k + N) (hg : gw cu (o + k) = gw cur (o + k)) (hM : M = N + W ^ k * y) :
 sv (cu.set (o + k) (bG (gw cu (o + k)) y cr)) o (k + 1) + W ^ (k + 1) * bh (gw cu (o + k)) y cr = sv cur o (k + 1) + M := by
 rw [gQ hlt, cT cur, <- hg, hM, Nat.pow_succ, Nat.mul_assoc];have e := add_eq (gw cu (o + k)) y cr;have e2 : W ^ k * bG (gw cu (o + k)) y cr + W ^ k * (W * bh (gw cu (o + k)) y cr) = W ^ k * (gw cu (o + k) + y + cr) := by rw [<- Nat.mul_add, e]
 rw [Nat.mul_add, Nat.mul_add] at e2;omega
theorem sub_eq {x y c : Nat} (hx : x < W) (hy : y < W) (hc : c <= 1) : ei x y c + y + c = x + W * uP x y c := by
 unfold ei uP;split
 . rw [Nat.mod_eq_of_lt (by omega)]; omega
 . have : x + W - y - c = (x - y - c) + W := by omega
   rw [this, Nat.add_mod_right, Nat.mod_eq_of_lt (by omega)]; omega
theorem lI {cu cur : List Nat} {o k cr y N M : Nat} (hlt : o + k < cu.length) (he : sv cu o k + N = sv cur o k + W ^ k * cr) (hg : gw cu (o + k) = gw cur (o + k)) (hM : M = N + W ^ k * y)
 (hx : gw cu (o + k) < W) (hy : y < W) (hc : cr <= 1) :
 sv (cu.set (o + k) (ei (gw cu (o + k)) y cr)) o (k + 1) + M = sv cur o (k + 1) + W ^ (k + 1) * uP (gw cu (o + k)) y cr := by
 rw [gQ hlt, cT cur, <- hg, hM, Nat.pow_succ, Nat.mul_assoc];have e := sub_eq hx hy hc;have e2 : W ^ k * (ei (gw cu (o + k)) y cr + y + cr) = W ^ k * (gw cu (o + k) + W * uP (gw cu (o + k)) y cr) := by rw [e]
 rw [Nat.mul_add, Nat.mul_add, Nat.mul_add] at e2;omega
theorem mT {l : List Nat} {k v : Nat} (hk : k < l.length) : a7 (l.set k v) + W ^ k * gw l k = a7 l + W ^ k * v := xD l k v hk
theorem kx {g x y c : Nat} (hg : g < W) (hx : x < W) (hy : y < W) (hc : c < W) :
 bM x y + bh (aL x y) c 0 < W /\ bM x y + bh (aL x y) c 0 + bh g (bG (aL x y) c 0) 0 < W /\
 bG g (bG (aL x y) c 0) 0 + W * (bM x y + bh (aL x y) c 0 + bh g (bG (aL x y) c 0) 0) = g + x * y + c := by
 have e1 := mul_eq x y;have e2 := add_eq (aL x y) c 0;have e3 := add_eq g (bG (aL x y) c 0) 0;have h1 : x * y <= (W - 1) * (W - 1) := Nat.mul_le_mul (by omega) (by omega);have h2 : (W - 1) * (W - 1) + 2 * (W - 1) + 1 = W * W := by
  obtain ⟨v, hv⟩ : ∃ v, W = v + 1 := ⟨W - 1, by have := bE; omega⟩;rw [hv, Nat.add_sub_cancel, Nat.add_mul, Nat.mul_add]; omega
 have e4 : bG g (bG (aL x y) c 0) 0 + W * (bM x y + bh (aL x y) c 0 + bh g (bG (aL x y) c 0) 0) = g + x * y + c := by
  rw [Nat.mul_add, Nat.mul_add]; omega
 have h3 : W * (bM x y + bh (aL x y) c 0 + bh g (bG (aL x y) c 0) 0) < W * W := by omega
 have h4 := Nat.lt_of_mul_lt_mul_left h3;exact ⟨by omega, h4, e4⟩
theorem x8 {cu ys : List Nat} {k j c x A : Nat} (hlt : k + j < cu.length) (he : a7 cu + W ^ (k + j) * c = A + W ^ k * (x * a7 (ys.take j))) (hg : gw cu (k + j) < W) (hx : x < W) (hy : gw ys j < W) (hc : c < W) :
 a7 (cu.set (k + j) (bG (gw cu (k + j)) (bG (aL x (gw ys j)) c 0) 0)) + W ^ (k + (j + 1)) * (bM x (gw ys j) + bh (aL x (gw ys j)) c 0 + bh (gw cu (k + j)) (bG (aL x (gw ys j)) c 0) 0) =
  A + W ^ k * (x * a7 (ys.take (j + 1))) := by
 obtain ⟨_, _, e⟩ := kx hg hx hy hc;have e1 := mT (v := bG (gw cu (k + j)) (bG (aL x (gw ys j)) c 0) 0) hlt;rw [aD, <- Nat.add_assoc, Nat.pow_succ, Nat.mul_assoc];have e2 : W ^ (k + j) * (bG (gw cu (k + j)) (bG (aL x (gw ys j)) c 0) 0) + W ^ (k + j) * (W * (bM x (gw ys j) + bh (aL x (gw ys j)) c 0 + bh (gw cu (k + j)) (bG (aL x (gw ys j)) c 0) 0)) = W ^ (k + j) * gw cu (k + j) + W ^ (k + j) * (x * gw ys j) + W ^ (k + j) * c := by
  rw [<- Nat.mul_add, e, Nat.mul_add, Nat.mul_add]
 have e3 : W ^ k * (x * (a7 (ys.take j) + W ^ j * gw ys j)) = W ^ k * (x * a7 (ys.take j)) + W ^ (k + j) * (x * gw ys j) := by
  rw [Nat.mul_add, Nat.mul_add, Nat.pow_add]; congr 1;rw [Nat.mul_left_comm x, Nat.mul_assoc]
 rw [e3];omega
def gB (m n : Nat) : Int := if m < n then -1 else if n < m then 1 else 0
theorem ny {m n : Nat} (h : m < n) : gB m n = -1 := by simp [gB, h]
theorem vL {m n : Nat} (h : n < m) : gB m n = 1 := by simp [gB, h]; omega
theorem Ae {m n : Nat} (h : m = n) : gB m n = 0 := by simp [gB, h]
end Go.Proofs.YtbgecfleamckcaaGreat
namespace Go.Proofs.YtbgecfleamckcaaGreat
open Go.RowKit
def a6 (w : World) (b : Nat) (t : TypeId) (cs : List Value) : Prop := w.heap[b]? = some (.cells cs.toArray t (0, 0))
theorem a6.lt {w : World} {b : Nat} {t : TypeId} {cs : List Value} (h : a6 w b t cs) : b < w.heap.size := (Array.getElem?_eq_some_iff.1 h).1
theorem a6.cell {w : World} {b : Nat} {t : TypeId} {cs : List Value} (h : a6 w b t cs) (i : Nat) : w.cell? ⟨b, i, none⟩ = cs[i]? := by
 have := cell_of_row w b i cs.toArray t (0, 0) h; simpa using this
theorem a6.free {w : World} {b : Nat} {t : TypeId} {cs : List Value} (h : a6 w b t cs) (i : Nat) : w.frozen? ⟨b, i, none⟩ = false := frozen_of_row w b i cs.toArray t h
theorem a6.set {w : World} {b : Nat} {t : TypeId} {cs : List Value} (h : a6 w b t cs) (i : Nat) (v : Value) : a6 (w.setCell ⟨b, i, none⟩ v) b t (cs.set i v) := by
 have := heap_setCell_same w b i cs.toArray t v h; unfold a6; rw [this]; simp
theorem a6.other {w : World} {b : Nat} {t : TypeId} {cs : List Value} (h : a6 w b t cs) {p : Addr} (hp : b ≠ p.block) (v : Value) : a6 (w.setCell p v) b t cs := by
 unfold a6; rw [Below.heap_setCell _ _ _ _ hp]; exact h
theorem a6.below {w w' : World} {b B : Nat} {t : TypeId} {cs : List Value} (h : a6 w b t cs) (hb : Below B w w') (hB : b < B) : a6 w' b t cs := by
 unfold a6; rw [hb.block b hB]; exact h
theorem a6.alloc {w : World} {b : Nat} {t : TypeId} {cs : List Value} (h : a6 w b t cs) (o : Obj) : a6 (w.alloc o) b t cs := by
 unfold a6; rw [Below.heap_alloc _ _ _ h.lt]; exact h
theorem a6.new (w : World) (cs : Array Value) (t : TypeId) : a6 (w.alloc (.cells cs t)) w.heap.size t cs.toList := by
 unfold a6; rw [heap_alloc_new]
def wv (n : Nat) : Value := .int .u64 (n : Int)
def cU (w : World) (ao : Option Addr) (ws : List Nat) : Prop :=
 Ok ws /\ (0 < ws.length -> ∃ b o, ao = some ⟨b, o, none⟩ /\ b < w.heap.size /\ ∀ i, i < ws.length -> w.cell? ⟨b, o + i, none⟩ = some (.int .u64 ((gw ws i : Nat) : Int)))
theorem cU.ok {w : World} {ao : Option Addr} {ws : List Nat} (h : cU w ao ws) : Ok ws := h.1
theorem cU.pos {w : World} {ao : Option Addr} {ws : List Nat} (h : cU w ao ws) (hl : 0 < ws.length) :
 ∃ b o, ao = some ⟨b, o, none⟩ /\ b < w.heap.size /\ ∀ i, i < ws.length -> w.cell? ⟨b, o + i, none⟩ = some (.int .u64 ((gw ws i : Nat) : Int)) := h.2 hl
theorem cU.below {w w' : World} {ao : Option Addr} {ws : List Nat} (h : cU w ao ws) (hb : Below w.heap.size w w') : cU w' ao ws :=
 ⟨h.1, fun hl => by
  obtain ⟨b, o, rfl, hlt, hc⟩ := h.2 hl;exact ⟨b, o, rfl, Nat.lt_of_lt_of_le hlt hb.size, fun i hi => (hb.cell (p := ⟨b, o + i, none⟩) hlt).trans (hc i hi)⟩⟩
theorem cU.nil (w : World) (ao : Option Addr) : cU w ao [] := ⟨Ok.nil, fun h => by simp at h⟩
theorem cU.drop {w : World} {b o : Nat} {ws : List Nat} (h : cU w (some ⟨b, o, none⟩) ws) (k : Nat) : cU w (some ⟨b, o + k, none⟩) (ws.drop k) :=
 ⟨h.1.drop k, fun hl => by
  rw [List.length_drop] at hl;obtain ⟨b', o', he, hlt, hc⟩ := h.2 (by omega);cases he;refine ⟨b, o + k, rfl, hlt, fun i hi => ?_⟩;rw [List.length_drop] at hi;have := hc (k + i) (by omega);rw [Nat.add_assoc];rw [this, vU]⟩
theorem cU.take {w : World} {ao : Option Addr} {ws : List Nat} (h : cU w ao ws) (k : Nat) : cU w ao (ws.take k) :=
 ⟨h.1.take k, fun hl => by
  have hl' : 0 < ws.length := by simp [List.length_take] at hl; omega
  obtain ⟨b, o, rfl, hlt, hc⟩ := h.2 hl';refine ⟨b, o, rfl, hlt, fun i hi => ?_⟩;rw [List.length_take] at hi;rw [hc i (by omega)];simp only [gw, List.getD_eq_getElem?_getD, List.getElem?_take];rw [if_pos (by omega)]⟩
def ct (w : World) (B : Nat) (ao : Option Addr) (len cap : Nat) (ws : List Nat) : Prop :=
 Ok ws /\ len = ws.length /\ w.ownsRow B 47 1 (.slice ao len cap) len (ws.map wv)
theorem ct.len {w : World} {B : Nat} {ao : Option Addr} {len cap : Nat} {ws : List Nat} (h : ct w B ao len cap ws) : len = ws.length := h.2.1
theorem ct.at_ {w : World} {B : Nat} {ao : Option Addr} {len cap : Nat} {ws : List Nat} (h : ct w B ao len cap ws) : cU w ao ws := by
 obtain ⟨h1, h2, h3, h4⟩ := h;refine ⟨h1, fun hl => ?_⟩;rcases h4 with ⟨_, h0⟩ | ⟨g, c, cur, hv, hb, hg, hn, hm, hs, ht⟩
 . omega
 . cases hv;refine ⟨g, 0, rfl, (Array.getElem?_eq_some_iff.1 hg).1, fun i hi => ?_⟩;have hcell := cell_of_row w g i cur _ (0, 0) hg;rw [Nat.zero_add, hcell];have : (ws.map wv)[i]? = some (wv (gw ws i)) := by
    rw [List.getElem?_map, List.getElem?_eq_getElem hi]; simp [gw, List.getD_eq_getElem?_getD, List.getElem?_eq_getElem hi]
   rw [<- ht, List.getElem?_take, if_pos (by omega)] at this;simpa [wv] using this
theorem ct.cap {w : World} {B : Nat} {ao : Option Addr} {len cap : Nat} {ws : List Nat} (h : ct w B ao len cap ws) : len <= cap /\ cap <= maxLen := by
 obtain ⟨h1, h2, h3, h4⟩ := h;rcases h4 with ⟨hv, h0⟩ | ⟨g, c, cur, hv, hb, hg, hn, hm, hs, ht⟩
 . cases hv; simp
 . cases hv; exact ⟨hn, hm⟩
theorem ct.below {w w' : World} {B : Nat} {ao : Option Addr} {len cap : Nat} {ws : List Nat} (h : ct w B ao len cap ws) (hb : Below w.heap.size w w') : ct w' B ao len cap ws := by
 obtain ⟨h1, h2, h3, h4⟩ := h;refine ⟨h1, h2, h3, ?_⟩;rcases h4 with h0 | ⟨g, c, cur, hv, hbb, hg, r⟩
 . exact .inl h0
 . refine .inr ⟨g, c, cur, hv, hbb, ?_, r⟩;rw [hb.block g (Array.getElem?_eq_some_iff.1 hg).1]; exact hg
theorem ct.mono {w : World} {B B' : Nat} {ao : Option Addr} {len cap : Nat} {ws : List Nat} (h : ct w B ao len cap ws) (hb : B' <= B) : ct w B' ao len cap ws := by
 obtain ⟨h1, h2, h3, h4⟩ := h;refine ⟨h1, h2, h3, ?_⟩;rcases h4 with h0 | ⟨g, c, cur, hv, hbb, r⟩
 . exact .inl h0
 . exact .inr ⟨g, c, cur, hv, by omega, r⟩
theorem ct.nil (w : World) (B : Nat) : ct w B none 0 0 [] := ⟨Ok.nil, rfl, by simpa using World.ownsRow_nil w B _ 1⟩
theorem a6.own {w : World} {b B n : Nat} {ws : List Nat} {cap : Nat} (h : a6 w b 47 (ws.map wv)) (hok : Ok ws) (hB : B <= b) (hn : n <= ws.length) (hc : cap = ws.length) (hm : cap <= maxLen) :
 ct w B (some ⟨b, 0, none⟩) n cap (ws.take n) :=
 ⟨hok.take n, by simp; omega, by simp [List.length_take]; omega, .inr ⟨b, cap, _, rfl, hB, h, by omega, hm, by simp [hc], by simp [List.map_take]⟩⟩
structure Made (w w' : World) (b : Nat) (t : TypeId) (cs : List Value) : Prop where
 at_ : b = w.heap.size
 size : w'.heap.size = w.heap.size + 1
 row : a6 w' b t cs
 below : Below w.heap.size w w'
theorem eR {P : Program} {w : World} {ops : Array Oper} {rest : List Oper} {o : Oper} {a : Act} {Q : Exit -> Act -> World -> Prop}
 (hg : o.guard = none) (l c : Operand) (t : TypeId) (hop : o.op = Op.makeSlice t l c) (e : TypeId) (z : Value) (size bytes : Nat)
 (h1 : P.underlying t = some (.slice e)) (h2 : (P.info? e).map (fun i => (i.zero, i.size, i.bytes)) = some (some z, size, bytes))
 {kl kc : IntKind} {L C : Int} (n m : Nat) (hl : a.eval l = .int kl L) (hc : a.eval c = .int kc C) (hL : L = (n : Int)) (hC : C = (m : Int)) (hnm : n <= m) (b2 : bytes * m <= 281474976710656) (b3 : m <= maxLen)
 (hK : ∀ b w', Made w w' b e (madeCells z.cells (m * size)).toList -> wpList P ops Q rest (a.put o.dst (.slice (some ⟨b, 0, none⟩) n m)) w') :
 wpList P ops Q (o :: rest) a w := by
 refine wpList_plain hg fun K hK' => ?_;obtain ⟨i, hi, hz, hs, hb⟩ := info_parts h2;subst hL hC hs hb;have h63 : (m : Int) <= 9223372036854775807 := by have h := b3; unfold maxLen at h; omega
 have hb' : (i.bytes : Int) * (m : Int) <= 281474976710656 := by
  have h : ((i.bytes * m : Nat) : Int) <= 281474976710656 := by omega
  rwa [Int.natCast_mul] at h
 have hr := run_make (P := P) w t e i z h1 hi hz kl kc n m (by omega) (by omega) hb' h63;simp only [Int.toNat_natCast] at hr;unfold Oper.wp;simp [execOp, hop, hl, hc, hr, Result.andThen];exact hK' _ _ (hK _ _ ⟨rfl, by simp, a6.new _ _ _, (Below.refl _ _).alloc (Nat.le_refl _) _⟩)
theorem ib (z : Value) (h : z.cells = #[z]) (n : Nat) : (madeCells z.cells (n * 1)).toList = List.replicate n z := by
 rw [h, Nat.mul_one, toList_madeCells_one]
theorem u9 (n : Nat) : (madeCells (Value.int .u64 0).cells (n * 1)).toList = (List.replicate n 0).map wv := by
 rw [ib _ rfl]; simp [wv]
theorem tF (ws : List Nat) (i : Nat) (h : i < ws.length) : (ws.map wv)[i]? = some (.int .u64 ((gw ws i : Nat) : Int)) := by
 rw [List.getElem?_map, List.getElem?_eq_getElem h]; simp [wv, gw, List.getD_eq_getElem?_getD, List.getElem?_eq_getElem h]
theorem uB (ws : List Nat) (i v : Nat) : (ws.map wv).set i (.int .u64 (v : Int)) = (ws.set i v).map wv := by
 rw [List.map_set]; rfl
theorem a6.word {w : World} {b : Nat} {t : TypeId} {ws : List Nat} (h : a6 w b t (ws.map wv)) {i : Nat} (hi : i < ws.length) : w.cell? ⟨b, i, none⟩ = some (.int .u64 ((gw ws i : Nat) : Int)) :=
 (h.cell i).trans (tF ws i hi)
theorem a6.dp {w : World} {b : Nat} {t : TypeId} {ws : List Nat} (h : a6 w b t (ws.map wv)) (i v : Nat) : a6 (w.setCell ⟨b, i, none⟩ (.int .u64 (v : Int))) b t ((ws.set i v).map wv) := by
 rw [<- uB]; exact h.set i _
theorem y9 : (Tryz.prog.info? 47).map (fun i => (i.zero, i.size, i.bytes)) = some (some (.int .u64 0), 1, 8) := by kernel_rfl
theorem eP {w : World} {ops : Array Oper} {rest : List Oper} {o : Oper} {a : Act} {Q : Exit -> Act -> World -> Prop}
 (hg : o.guard = none) (l c : Operand) (hop : o.op = Op.makeSlice 38 l c)
 {kl kc : IntKind} {L C : Int} (n m : Nat) (hl : a.eval l = .int kl L) (hc : a.eval c = .int kc C) (hL : L = (n : Int)) (hC : C = (m : Int)) (hnm : n <= m) (b2 : m <= 35184372088832)
 (hK : ∀ b w', Made w w' b 47 ((List.replicate m 0).map wv) -> wpList Tryz.prog ops Q rest (a.put o.dst (.slice (some ⟨b, 0, none⟩) n m)) w') :
 wpList Tryz.prog ops Q (o :: rest) a w :=
 eR hg l c 38 hop 47 (.int .u64 0) 1 8 Tryz.underlying38 y9 n m hl hc hL hC hnm (by omega) (by unfold maxLen; omega)
  (fun b w' h => hK b w' (by rw [u9] at h; exact h))
theorem nX {w : World} {ops : Array Oper} {rest : List Oper} {o : Oper} {a : Act} {Q : Exit -> Act -> World -> Prop} (hgd : o.guard = none) (d s : Operand)
 (ho : o.op = .call { callee := .builtin .copy, args := #[d, s], argTypes := #[38, 38] })
 {ao : Option Addr} {len cap b off dl dc : Nat} {ws cur : List Nat} (hA : cU w ao ws) (hl : len = ws.length) (hrow : a6 w b 47 (cur.map wv))
 (hd : a.eval d = .slice (some ⟨b, off, none⟩) dl dc) (hs : a.eval s = .slice ao len cap) (hfit : off + dl <= cur.length)
 (h : ∀ w', a6 w' b 47 ((splice cur off (ws.take dl)).map wv) -> w.grownBy w' (some b) -> wpList Tryz.prog ops Q rest (a.put o.dst (goInt (Nat.min ws.length dl : Nat))) w') :
 wpList Tryz.prog ops Q (o :: rest) a w := by
 have e : ((ws.take dl).map wv).length = Nat.min ws.length dl := by simp [List.length_take, Nat.min_comm]
 have es : ((cur.map wv).take off ++ ((ws.take dl).map wv ++ (cur.map wv).drop (off + ((ws.take dl).map wv).length))) = (splice cur off (ws.take dl)).map wv := by
  simp [splice, List.map_take, List.map_drop]
 by_cases h0 : ((ws.take dl).map wv).length = 0
 . have h1 : (ws.take dl) = [] := List.eq_nil_of_length_eq_zero (by simpa using h0);refine wpList_copy_nothing hgd d s 38 38 ho 47 Tryz.underlying38 (by kernel_rfl) (some ⟨b, off, none⟩) ao dl dc len cap hd hs (by rw [hl, <- e]; exact h0) ?_;have := h w (by rw [h1]; simpa [splice] using hrow) ⟨rfl, rfl, rfl, Nat.le_refl _, fun _ _ _ => rfl⟩;rw [<- e, h0] at this;exact this
 . have hp : 0 < ((ws.take dl).map wv).length := by omega
   rw [e] at hp;obtain ⟨b', o', rfl, hlt, hc⟩ := hA.pos (Nat.lt_of_lt_of_le hp (Nat.min_le_left ..));refine wpList_copy_own hgd d s 38 38 ho 47 Tryz.underlying38 (by kernel_rfl) b off dl dc ⟨b', o', none⟩ len cap hd hs (cur.map wv).toArray 47 hrow ((ws.take dl).map wv)
    (by rw [e, hl]) ?_ ?_ ?_ ?_
   . intro j v hj;rw [List.getElem?_map, List.getElem?_take] at hj;split at hj
     . obtain ⟨x, hx, rfl⟩ := Option.map_eq_some_iff.1 hj;have hjl : j < ws.length := (List.getElem?_eq_some_iff.1 hx).1;have := hc j hjl;rw [Addr.add_lit];rw [this];simp [wv, gw, List.getD_eq_getElem?_getD, hx]
     . simp at hj
   . rw [e];have : Nat.min ws.length dl <= dl := Nat.min_le_right ..;simp;omega
   . intro v hv;obtain ⟨x, _, rfl⟩ := List.mem_map.1 hv;rfl
   . rw [e];refine h _ ?_ ⟨rfl, rfl, rfl, by simp, fun k _ hk => setRow_other w b k _ (fun e => hk (by rw [e]))⟩;unfold a6;rw [setRow_heap w b (cur.map wv).toArray _ 47 (0, 0) hrow];rw [<- es, e]
theorem qV (x y c : Nat) (hc : c <= 1) (w : World) : (callFunc 123 #[.int .u64 (x : Int), .int .u64 (y : Int), .int .u64 (c : Int)]).run Tryz.prog w =
 .ok (.value (.tuple #[.int .u64 ((bG x y c : Nat) : Int), .int .u64 ((bh x y c : Nat) : Int)])) w := by
 rw [run_callFunc_extern Tryz.func123 (by kernel_rfl) (by kernel_rfl) (by kernel_rfl) (e := add64Entry) (by kernel_rfl), run_add64 x y c (by omega) (by omega) (by omega) (by omega)];simp only [Result.andThen, W, bG, bh];congr 5 <;> omega
theorem zq (x y c : Nat) (hc : c <= 1) (w : World) : (callFunc 124 #[.int .u64 (x : Int), .int .u64 (y : Int), .int .u64 (c : Int)]).run Tryz.prog w =
 .ok (.value (.tuple #[.int .u64 ((ei x y c : Nat) : Int), .int .u64 ((uP x y c : Nat) : Int)])) w := by
 unfold uP ei;rw [run_callFunc_extern Tryz.func124 (by kernel_rfl) (by kernel_rfl) (by kernel_rfl) (e := sub64Entry) (by kernel_rfl), run_sub64 x y c hc];rfl
theorem nM {o : Oper} {a : Act} {f : FuncId} {p q r : Operand} {tys : Array TypeId} (ho : o.op = .call { callee := .value (.func f), args := #[p, q, r], argTypes := tys }) :
 execOp a.eval o = callFunc f #[a.eval p, a.eval q, a.eval r] := by
 obtain ⟨dst, op, type, pos, after, guard⟩ := o;simp only at ho; subst ho;show callFunc f (#[] ++ (#[p, q, r].map a.eval) ++ #[]) = _;simp
theorem cf {w : World} {ops : Array Oper} {rest : List Oper} {o : Oper} {a : Act} {Q : Exit -> Act -> World -> Prop} (hg : o.guard = none) (p q r : Operand) (tys : Array TypeId)
 (ho : o.op = .call { callee := .value (.func 123), args := #[p, q, r], argTypes := tys }) {X Y C : Int} (x y c : Nat) (hc : c <= 1)
 (hp : a.eval p = .int .u64 X) (hq : a.eval q = .int .u64 Y) (hr : a.eval r = .int .u64 C) (hX : X = (x : Int)) (hY : Y = (y : Int)) (hC : C = (c : Int))
 (h : wpList Tryz.prog ops Q rest (a.put o.dst (.tuple #[.int .u64 ((bG x y c : Nat) : Int), .int .u64 ((bh x y c : Nat) : Int)])) w) : wpList Tryz.prog ops Q (o :: rest) a w := by
 subst hX hY hC;refine wpList_plain hg fun K hK => ?_;unfold Oper.wp;rw [nM ho, hp, hq, hr, qV x y c hc w];exact hK _ _ h
theorem iI {w : World} {ops : Array Oper} {rest : List Oper} {o : Oper} {a : Act} {Q : Exit -> Act -> World -> Prop} (hg : o.guard = none) (p q r : Operand) (tys : Array TypeId)
 (ho : o.op = .call { callee := .value (.func 124), args := #[p, q, r], argTypes := tys }) {X Y C : Int} (x y c : Nat) (hc : c <= 1)
 (hp : a.eval p = .int .u64 X) (hq : a.eval q = .int .u64 Y) (hr : a.eval r = .int .u64 C) (hX : X = (x : Int)) (hY : Y = (y : Int)) (hC : C = (c : Int))
 (h : wpList Tryz.prog ops Q rest (a.put o.dst (.tuple #[.int .u64 ((ei x y c : Nat) : Int), .int .u64 ((uP x y c : Nat) : Int)])) w) : wpList Tryz.prog ops Q (o :: rest) a w := by
 subst hX hY hC;refine wpList_plain hg fun K hK => ?_;unfold Oper.wp;rw [nM ho, hp, hq, hr, zq x y c hc w];exact hK _ _ h
theorem a6.j3 {w : World} {b : Nat} {t : TypeId} {ws : List Nat} (h : a6 w b t (ws.map wv)) (hok : Ok ws) : cU w (some ⟨b, 0, none⟩) ws :=
 ⟨hok, fun _ => ⟨b, 0, rfl, h.lt, fun i hi => by rw [Nat.zero_add]; exact h.word hi⟩⟩
theorem mi {w : World} {b B n m : Nat} {ws : List Nat} (h : a6 w b 47 (ws.map wv)) (hok : Ok ws) (hB : B <= b) (hm : ws.length = m) (hmm : m <= 35184372088832) (hn : a7 ws = n) :
 aj ws = aa n /\ ct w B (some ⟨b, 0, none⟩) (aa n) m (ew n) := by
 have h1 := bU hok;rw [hn] at h1;refine ⟨h1.symm, ?_⟩;have := h.own (B := B) (n := aj ws) (cap := m) hok hB (aH ws) hm.symm (by unfold maxLen; omega);rw [h1, <- hn, iC hok]; exact this
theorem yH (x n : Nat) : IntKind.u64.wrap ((x : Int) * 2 ^ n) = ((x * 2 ^ n % W : Nat) : Int) := by
 rw [IntKind.wrap_u64, Int.natCast_emod, Int.natCast_mul, Int.natCast_pow]; rfl
theorem s5 (x n : Nat) : (x : Int) / 2 ^ n = ((x / 2 ^ n : Nat) : Int) := by
 rw [Int.natCast_ediv, Int.natCast_pow]; rfl
theorem or_cast (x y : Nat) (hx : x < W) (hy : y < W) : bits BinOp.or .u64 (x : Int) (y : Int) = ((x ||| y : Nat) : Int) := bits_or_u64_nat x y hx hy
theorem and_cast (x y : Nat) (hx : x < W) (hy : y < W) : bits BinOp.and .u64 (x : Int) (y : Int) = ((x &&& y : Nat) : Int) := bits_and_u64_nat x y hx hy
theorem a6.drew {w : World} {b : Nat} {t : TypeId} {cs : List Value} (h : a6 w b t cs) : a6 w.drew b t cs := h
def ki (ao : Option Addr) (ws : List Nat) (b : Nat) : Prop := 0 < ws.length -> ∀ a, ao = some a -> a.block ≠ b
theorem cU.apart {w : World} {b : Nat} {ao : Option Addr} {ws : List Nat} (h : cU w ao ws) (hb : w.heap.size <= b) : ki ao ws b := fun hl a ha => by
 obtain ⟨b', o', rfl, hlt, _⟩ := h.2 hl;cases ha;exact Nat.ne_of_lt (Nat.lt_of_lt_of_le hlt hb)
theorem cU.grown {w w' : World} {b : Nat} {ao : Option Addr} {ws : List Nat} (h : cU w ao ws) (hg : w.grownBy w' (some b)) (hne : ki ao ws b) : cU w' ao ws :=
 ⟨h.1, fun hl => by
  obtain ⟨b', o', rfl, hlt, hc⟩ := h.2 hl;exact ⟨b', o', rfl, Nat.lt_of_lt_of_le hlt hg.size, fun i hi => hg.cell (hc i hi) (fun e => hne hl _ rfl (Option.some.inj e))⟩⟩
theorem a6.grown {w w' : World} {b b' : Nat} {t : TypeId} {cs : List Value} (h : a6 w b t cs) (hg : w.grownBy w' (some b')) (hne : b ≠ b') : a6 w' b t cs := by
 unfold a6; rw [hg.block b h.lt (fun e => hne (Option.some.inj e))]; exact h
theorem oW {a w : World} {b : Nat} (h : a.grownBy w (some b)) (i : Nat) (v : Value) : a.grownBy (w.setCell ⟨b, i, none⟩ v) (some b) :=
 ⟨h.os, h.tape, h.output, by simpa using h.size, fun k hk hne => by rw [Below.heap_setCell _ _ _ _ (fun e => hne (by rw [e]))]; exact h.block k hk hne⟩
theorem fb {a w : World} {r : Option Nat} (h : a.grownBy w r) (n : Nat) : a.grownBy (w.drewN n) r := ⟨h.os, h.tape, h.output, h.size, h.block⟩
theorem nW {a w : World} {r : Option Nat} (h : a.grownBy w r) : a.grownBy w.drew r := ⟨h.os, h.tape, h.output, h.size, h.block⟩
theorem jq {a w u : World} {r : Option Nat} (h : a.grownBy w r) (k : w.grownBy u r) : a.grownBy u r :=
 ⟨k.os.trans h.os, k.tape.trans h.tape, k.output.trans h.output, Nat.le_trans h.size k.size, fun i hi hne => (k.block i (Nat.lt_of_lt_of_le hi h.size) hne).trans (h.block i hi hne)⟩
theorem a6.drewN {w : World} {b : Nat} {t : TypeId} {cs : List Value} (h : a6 w b t cs) (n : Nat) : a6 (w.drewN n) b t cs := h
structure ud (w w' : World) (b : Nat) (zs : List Nat) : Prop where
 row : a6 w' b 47 (zs.map wv)
 ok : Ok zs
 ge : w.heap.size <= b
 below : Below w.heap.size w w'
theorem ud.own {w w' : World} {b n : Nat} {zs : List Nat} (h : ud w w' b zs) (hn : n = zs.length) (hm : n <= maxLen) : ct w' w.heap.size (some ⟨b, 0, none⟩) n n zs := by
 have := h.row.own (B := w.heap.size) (n := n) (cap := n) h.ok h.ge (by omega) hn hm
 rwa [List.take_of_length_le (by omega)] at this
theorem gT {k : IntKind} {a b : Int} (h : a = b) : Ending.returned (.int k a) = .returned (.int k b) := by rw [h]
def ea (x s : Nat) : Nat := x * 2 ^ s % W
def ik (x s : Nat) : Nat := x / 2 ^ s
def vT (x y : Nat) : Nat := x ||| y
def pj (x y : Nat) : Nat := x &&& y
def n0 (x y : Nat) : Nat := x / y
section
variable {w : World} {ops : Array Oper} {rest : List Oper} {o : Oper} {a : Act} {Q : Exit -> Act -> World -> Prop}
theorem fa (hg : o.guard = none) {v : Value} (hr : (execOp a.eval o).run Tryz.prog w = .ok (.value v) w) (h : wpList Tryz.prog ops Q rest (a.put o.dst v) w) : wpList Tryz.prog ops Q (o :: rest) a w := by
 refine wpList_plain hg fun K hK => ?_;unfold Oper.wp;rw [hr];exact hK _ _ h
theorem zz (ρ : Operand -> Value) (o : Oper) (p q : Operand) (ho : o.op = .binOp .mul 47 p q 47) (x y : Nat)  (hp : ρ p = .int .u64 (x : Int)) (hq : ρ q = .int .u64 (y : Int)) :
 (execOp ρ o).run Tryz.prog w = .ok (.value (.int .u64 ((aL x y : Nat) : Int))) w := by
 obtain ⟨dst, op, type, pos, after, guard⟩ := o;simp only at ho; subst ho;simp [go_sem, hp, hq, IntKind.wrap_u64, aL, W]
theorem kC (hg : o.guard = none) (p q : Operand) (ho : o.op = .binOp .mul 47 p q 47) {X Y : Int} (x y : Nat) 
 (hp : a.eval p = .int .u64 X) (hq : a.eval q = .int .u64 Y) (hX : X = (x : Int)) (hY : Y = (y : Int))
 (h : wpList Tryz.prog ops Q rest (a.put o.dst (.int .u64 ((aL x y : Nat) : Int))) w) : wpList Tryz.prog ops Q (o :: rest) a w := by
 subst hX hY;exact fa hg (zz _ _ p q ho x y  hp hq) h
theorem An (ρ : Operand -> Value) (o : Oper) (p q : Operand) (ho : o.op = .binOp .add 47 p q 47) (x y : Nat)  (hp : ρ p = .int .u64 (x : Int)) (hq : ρ q = .int .u64 (y : Int)) :
 (execOp ρ o).run Tryz.prog w = .ok (.value (.int .u64 ((bG x y 0 : Nat) : Int))) w := by
 obtain ⟨dst, op, type, pos, after, guard⟩ := o;simp only at ho; subst ho;simp [go_sem, hp, hq, IntKind.wrap_u64, bG, W]
theorem qL (hg : o.guard = none) (p q : Operand) (ho : o.op = .binOp .add 47 p q 47) {X Y : Int} (x y : Nat) 
 (hp : a.eval p = .int .u64 X) (hq : a.eval q = .int .u64 Y) (hX : X = (x : Int)) (hY : Y = (y : Int))
 (h : wpList Tryz.prog ops Q rest (a.put o.dst (.int .u64 ((bG x y 0 : Nat) : Int))) w) : wpList Tryz.prog ops Q (o :: rest) a w := by
 subst hX hY;exact fa hg (An _ _ p q ho x y  hp hq) h
theorem Am (ρ : Operand -> Value) (o : Oper) (p q : Operand) (ho : o.op = .binOp .sub 47 p q 47) (x y : Nat) (hy : y < W) (hp : ρ p = .int .u64 (x : Int)) (hq : ρ q = .int .u64 (y : Int)) :
 (execOp ρ o).run Tryz.prog w = .ok (.value (.int .u64 ((ei x y 0 : Nat) : Int))) w := by
 obtain ⟨dst, op, type, pos, after, guard⟩ := o;simp only at ho; subst ho;simp [go_sem, hp, hq, IntKind.wrap_u64, ei];unfold W at *;omega
theorem uz (hg : o.guard = none) (p q : Operand) (ho : o.op = .binOp .sub 47 p q 47) {X Y : Int} (x y : Nat) (hy : y < W)
 (hp : a.eval p = .int .u64 X) (hq : a.eval q = .int .u64 Y) (hX : X = (x : Int)) (hY : Y = (y : Int))
 (h : wpList Tryz.prog ops Q rest (a.put o.dst (.int .u64 ((ei x y 0 : Nat) : Int))) w) : wpList Tryz.prog ops Q (o :: rest) a w := by
 subst hX hY;exact fa hg (Am _ _ p q ho x y hy hp hq) h
theorem pY (hg : o.guard = none) (p q : Operand) (ho : o.op = .binOp .sub 47 p q 47) {X Y : Int} (x y z : Nat) (hy : y < W) (hz : ei x y 0 = z)
 (hp : a.eval p = .int .u64 X) (hq : a.eval q = .int .u64 Y) (hX : X = (x : Int)) (hY : Y = (y : Int))
 (h : wpList Tryz.prog ops Q rest (a.put o.dst (.int .u64 ((z : Nat) : Int))) w) : wpList Tryz.prog ops Q (o :: rest) a w := by
 subst hz;exact uz hg p q ho x y hy hp hq hX hY h
theorem zQ (ρ : Operand -> Value) (o : Oper) (p q : Operand) (ho : o.op = .binOp .quo 47 p q 47) (x y : Nat) (hx : x < W) (hy : y ≠ 0) (hp : ρ p = .int .u64 (x : Int)) (hq : ρ q = .int .u64 (y : Int)) :
 (execOp ρ o).run Tryz.prog w = .ok (.value (.int .u64 ((n0 x y : Nat) : Int))) w := by
 obtain ⟨dst, op, type, pos, after, guard⟩ := o;simp only at ho; subst ho;simp [go_sem, hp, hq, IntKind.wrap_u64, n0, hy];have h1 := Nat.div_le_self x y;unfold W at hx;rw [<- Int.natCast_ediv];generalize x / y = z at *;omega
theorem yu (hg : o.guard = none) (p q : Operand) (ho : o.op = .binOp .quo 47 p q 47) {X Y : Int} (x y : Nat) (hx : x < W) (hy : y ≠ 0)
 (hp : a.eval p = .int .u64 X) (hq : a.eval q = .int .u64 Y) (hX : X = (x : Int)) (hY : Y = (y : Int))
 (h : wpList Tryz.prog ops Q rest (a.put o.dst (.int .u64 ((n0 x y : Nat) : Int))) w) : wpList Tryz.prog ops Q (o :: rest) a w := by
 subst hX hY;exact fa hg (zQ _ _ p q ho x y hx hy hp hq) h
theorem Aj (ρ : Operand -> Value) (o : Oper) (p q : Operand) (ho : o.op = .binOp .shl 47 p q 133) (x y : Nat) (hy : y <= 64) (hp : ρ p = .int .u64 (x : Int)) (hq : ρ q = .int .u64 (y : Int)) :
 (execOp ρ o).run Tryz.prog w = .ok (.value (.int .u64 ((ea x y : Nat) : Int))) w := by
 obtain ⟨dst, op, type, pos, after, guard⟩ := o;simp only at ho; subst ho;simp [go_sem, hp, hq, IntKind.wrap_u64, ea, hy];rfl
theorem oi (hg : o.guard = none) (p q : Operand) (ho : o.op = .binOp .shl 47 p q 133) {X Y : Int} (x y : Nat) (hy : y <= 64)
 (hp : a.eval p = .int .u64 X) (hq : a.eval q = .int .u64 Y) (hX : X = (x : Int)) (hY : Y = (y : Int))
 (h : wpList Tryz.prog ops Q rest (a.put o.dst (.int .u64 ((ea x y : Nat) : Int))) w) : wpList Tryz.prog ops Q (o :: rest) a w := by
 subst hX hY;exact fa hg (Aj _ _ p q ho x y hy hp hq) h
theorem zT (ρ : Operand -> Value) (o : Oper) (p q : Operand) (ho : o.op = .binOp .shr 47 p q 133) (x y : Nat) (hx : x < W) (hy : y <= 64) (hp : ρ p = .int .u64 (x : Int)) (hq : ρ q = .int .u64 (y : Int)) :
 (execOp ρ o).run Tryz.prog w = .ok (.value (.int .u64 ((ik x y : Nat) : Int))) w := by
 obtain ⟨dst, op, type, pos, after, guard⟩ := o;simp only at ho; subst ho;simp [go_sem, hp, hq, IntKind.wrap_u64, ik, hy]
theorem o3 (hg : o.guard = none) (p q : Operand) (ho : o.op = .binOp .shr 47 p q 133) {X Y : Int} (x y : Nat) (hx : x < W) (hy : y <= 64)
 (hp : a.eval p = .int .u64 X) (hq : a.eval q = .int .u64 Y) (hX : X = (x : Int)) (hY : Y = (y : Int))
 (h : wpList Tryz.prog ops Q rest (a.put o.dst (.int .u64 ((ik x y : Nat) : Int))) w) : wpList Tryz.prog ops Q (o :: rest) a w := by
 subst hX hY;exact fa hg (zT _ _ p q ho x y hx hy hp hq) h
theorem CL (ρ : Operand -> Value) (o : Oper) (p q : Operand) (ho : o.op = .binOp .or 47 p q 47) (x y : Nat) (hx : x < W) (hy : y < W) (hp : ρ p = .int .u64 (x : Int)) (hq : ρ q = .int .u64 (y : Int)) :
 (execOp ρ o).run Tryz.prog w = .ok (.value (.int .u64 ((vT x y : Nat) : Int))) w := by
 obtain ⟨dst, op, type, pos, after, guard⟩ := o;simp only at ho; subst ho;simp [go_sem, hp, hq, IntKind.wrap_u64, vT, or_cast x y hx hy]
theorem tC (hg : o.guard = none) (p q : Operand) (ho : o.op = .binOp .or 47 p q 47) {X Y : Int} (x y : Nat) (hx : x < W) (hy : y < W)
 (hp : a.eval p = .int .u64 X) (hq : a.eval q = .int .u64 Y) (hX : X = (x : Int)) (hY : Y = (y : Int))
 (h : wpList Tryz.prog ops Q rest (a.put o.dst (.int .u64 ((vT x y : Nat) : Int))) w) : wpList Tryz.prog ops Q (o :: rest) a w := by
 subst hX hY;exact fa hg (CL _ _ p q ho x y hx hy hp hq) h
theorem AZ (ρ : Operand -> Value) (o : Oper) (p q : Operand) (ho : o.op = .binOp .and 47 p q 47) (x y : Nat) (hx : x < W) (hy : y < W) (hp : ρ p = .int .u64 (x : Int)) (hq : ρ q = .int .u64 (y : Int)) :
 (execOp ρ o).run Tryz.prog w = .ok (.value (.int .u64 ((pj x y : Nat) : Int))) w := by
 obtain ⟨dst, op, type, pos, after, guard⟩ := o;simp only at ho; subst ho;simp [go_sem, hp, hq, IntKind.wrap_u64, pj, and_cast x y hx hy]
theorem xE (hg : o.guard = none) (p q : Operand) (ho : o.op = .binOp .and 47 p q 47) {X Y : Int} (x y : Nat) (hx : x < W) (hy : y < W)
 (hp : a.eval p = .int .u64 X) (hq : a.eval q = .int .u64 Y) (hX : X = (x : Int)) (hY : Y = (y : Int))
 (h : wpList Tryz.prog ops Q rest (a.put o.dst (.int .u64 ((pj x y : Nat) : Int))) w) : wpList Tryz.prog ops Q (o :: rest) a w := by
 subst hX hY;exact fa hg (AZ _ _ p q ho x y hx hy hp hq) h
end
end Go.Proofs.YtbgecfleamckcaaGreat
namespace Go.Proofs.YtbgecfleamckcaaGreat
def HB : Nat := 4294967296
theorem xO : HB = 4294967296 := rfl
theorem vG : HB * HB = W := rfl
theorem iz {u y w y1 y0 : Nat} (hy : y = y1 * HB + y0) (h1 : 2147483648 <= y1) (hu : u < y) (hw : w < HB) (h0 : y0 < HB) :
 (u * HB + w) / y < HB /\ (u * HB + w) / y <= u / y1 /\ u / y1 <= HB + 1 := by
 have hyp : 0 < y := by unfold HB at hy; omega
 have hy1 : 0 < y1 := by omega
 refine ⟨?_, ?_, ?_⟩
 . rw [Nat.div_lt_iff_lt_mul hyp];have : (u + 1) * HB <= y * HB := Nat.mul_le_mul_right _ hu;rw [Nat.add_mul, Nat.one_mul] at this;rw [Nat.mul_comm HB y]; omega
 . rw [Nat.le_div_iff_mul_le hy1];have h2 := Nat.div_mul_le_self (u * HB + w) y;generalize (u * HB + w) / y = q at *;have h3 : q * y1 * HB <= q * y := by rw [Nat.mul_assoc]; exact Nat.mul_le_mul_left _ (by omega)
   have h4 : q * y1 * HB < (u + 1) * HB := by rw [Nat.add_mul, Nat.one_mul]; omega
   have h5 := Nat.lt_of_mul_lt_mul_right h4;omega
 . have : u / y1 < HB + 2 := by
    rw [Nat.div_lt_iff_lt_mul hy1, Nat.add_mul];have : HB * y1 = y1 * HB := Nat.mul_comm ..;unfold HB at *;omega
   omega
theorem jN {u y w y1 y0 q q1 rh : Nat} (hy : y = y1 * HB + y0) (hq : q = (u * HB + w) / y) (hyp : 0 < y) (he : q1 * y1 + rh = u) (hc : HB <= q1 \/ HB * rh + w < q1 * y0) (hqB : q < HB) : q < q1 := by
 rcases hc with h | h
 . omega
 . refine Decidable.byContradiction fun hn => ?_;have h1 : q1 * y <= q * y := Nat.mul_le_mul_right _ (by omega);have h2 := Nat.div_mul_le_self (u * HB + w) y;rw [<- hq] at h2;have h3 : q1 * y = q1 * y1 * HB + q1 * y0 := by rw [hy, Nat.mul_add, Nat.mul_assoc]
   have h4 : u * HB = q1 * y1 * HB + rh * HB := by rw [<- he, Nat.add_mul]
   rw [Nat.mul_comm HB rh] at h;omega
theorem qi {u y w y1 y0 q q1 rh : Nat} (hy : y = y1 * HB + y0) (hq : q = (u * HB + w) / y) (hyp : 0 < y) (he : q1 * y1 + rh = u) (hc : q1 * y0 <= HB * rh + w) (hle : q <= q1) : q1 = q := by
 have h3 : q1 * y = q1 * y1 * HB + q1 * y0 := by rw [hy, Nat.mul_add, Nat.mul_assoc]
 have h4 : u * HB = q1 * y1 * HB + rh * HB := by rw [<- he, Nat.add_mul]
 have h5 : q1 * y <= u * HB + w := by rw [Nat.mul_comm HB rh] at hc; omega
 have h6 : q1 <= q := by rw [hq]; exact (Nat.le_div_iff_mul_le hyp).2 h5
 omega
theorem uI {w y0 q1 rh : Nat} (h0 : y0 < HB) (hq1 : q1 <= HB) (hrh : HB <= rh) : q1 * y0 <= HB * rh + w := by
 have h1 : q1 * y0 <= HB * HB := Nat.mul_le_mul hq1 (by omega);have h2 : HB * HB <= HB * rh := Nat.mul_le_mul_left _ hrh;omega
theorem pV {u y w q : Nat} (hq : q = (u * HB + w) / y) (hyp : 0 < y) (hyW : y < W) :
 ei (bG (aL u HB) w 0) (aL q y) 0 = (u * HB + w) % y := by
 have h1 := Nat.div_add_mod (u * HB + w) y;have h2 := Nat.mod_lt (u * HB + w) hyp;rw [<- hq, Nat.mul_comm] at h1;unfold ei bG aL;generalize (u * HB + w) % y = r at *;generalize u * HB = A at *;generalize q * y = C at *;unfold W at *;omega
def kG (h l y : Nat) : Nat := (h * W + l) / y
def mZ (h l y : Nat) : Nat := (h * W + l) % y
theorem xC {h l s y : Nat} (hl : l < W) (hs : s < 64) (hh : h < y) (hy : y * 2 ^ s < W) :
 vT (ea h s) (ik l (64 - s)) * W + ea l s = (h * W + l) * 2 ^ s /\ vT (ea h s) (ik l (64 - s)) < y * 2 ^ s /\ ea h s < W /\ ik l (64 - s) < W := by
 unfold vT ea ik;have hp : 0 < 2 ^ s := Nat.two_pow_pos s;have hW := jP (Nat.le_of_lt hs);have h1 : (h + 1) * 2 ^ s <= y * 2 ^ s := Nat.mul_le_mul_right _ hh;rw [Nat.add_mul, Nat.one_mul] at h1;have e1 : h * 2 ^ s % W = h * 2 ^ s := Nat.mod_eq_of_lt (by omega);have hq : 0 < 2 ^ (64 - s) := Nat.two_pow_pos _;have h2 : l / 2 ^ (64 - s) < 2 ^ s := by rw [Nat.div_lt_iff_lt_mul hq, Nat.mul_comm, <- hW]; exact hl
 have e2 : h * 2 ^ s ||| l / 2 ^ (64 - s) = h * 2 ^ s + l / 2 ^ (64 - s) := by
  rw [Nat.mul_comm h, <- Nat.two_pow_add_eq_or_of_lt h2]
 have e3 : l * 2 ^ s = l / 2 ^ (64 - s) * W + l * 2 ^ s % W := by
  have h3 := Nat.div_add_mod (l * 2 ^ s) W;have h4 : l * 2 ^ s / W = l / 2 ^ (64 - s) := by
   rw [hW]; exact Nat.mul_div_mul_right _ _ hp
  rw [h4, Nat.mul_comm W] at h3;omega
 rw [e1, e2];refine ⟨?_, by omega, by omega, Nat.lt_of_le_of_lt (Nat.div_le_self ..) hl⟩;have e4 : h * 2 ^ s * W = h * W * 2 ^ s := Nat.mul_right_comm ..;have e5 : (h * W + l) * 2 ^ s = h * W * 2 ^ s + l * 2 ^ s := Nat.add_mul ..;have e6 : (h * 2 ^ s + l / 2 ^ (64 - s)) * W = h * 2 ^ s * W + l / 2 ^ (64 - s) * W := Nat.add_mul ..;omega
theorem yv {h l s y u v q1 q0 r1 : Nat} (hs : u * W + v = (h * W + l) * 2 ^ s) (hy : 0 < y) (hq1 : q1 = (u * HB + v / HB) / (y * 2 ^ s)) (hr1 : r1 = (u * HB + v / HB) % (y * 2 ^ s)) (hq0 : q0 = (r1 * HB + v % HB) / (y * 2 ^ s))
 (hb1 : q1 < HB) (hb0 : q0 < HB) : bG (aL q1 HB) q0 0 = kG h l y /\ ik ((r1 * HB + v % HB) % (y * 2 ^ s)) s = mZ h l y := by
 have hp : 0 < 2 ^ s := Nat.two_pow_pos s;have hyp : 0 < y * 2 ^ s := Nat.mul_pos hy hp;have e1 := Nat.div_add_mod (u * HB + v / HB) (y * 2 ^ s);have e0 := Nat.div_add_mod (r1 * HB + v % HB) (y * 2 ^ s);rw [<- hq1, <- hr1] at e1;rw [<- hq0] at e0;have hlt := Nat.mod_lt (r1 * HB + v % HB) hyp;have ev := Nat.div_add_mod v HB;generalize (r1 * HB + v % HB) % (y * 2 ^ s) = r0 at *;have tot : (h * W + l) * 2 ^ s = (q1 * HB + q0) * (y * 2 ^ s) + r0 := by
  rw [<- hs, <- vG, <- Nat.mul_assoc];have : (u * HB + v / HB) * HB = (y * 2 ^ s * q1 + r1) * HB := by rw [e1]
  rw [Nat.add_mul, Nat.add_mul] at this;rw [Nat.mul_comm HB] at ev;have e3 : (q1 * HB + q0) * (y * 2 ^ s) = y * 2 ^ s * q1 * HB + y * 2 ^ s * q0 := by
   rw [Nat.add_mul, Nat.mul_comm q0, Nat.mul_comm (q1 * HB), <- Nat.mul_assoc]
  rw [e3]; omega
 have hq : bG (aL q1 HB) q0 0 = q1 * HB + q0 := by
  unfold bG aL;have : q1 * HB + HB <= HB * HB := by rw [<- Nat.succ_mul]; exact Nat.mul_le_mul_right _ hb1
  rw [vG] at this;rw [Nat.mod_eq_of_lt (by omega : q1 * HB < W), Nat.add_zero, Nat.mod_eq_of_lt (by omega)]
 have hN : h * W + l = (q1 * HB + q0) * y + r0 / 2 ^ s := by
  have h3 : (h * W + l) * 2 ^ s / 2 ^ s = ((q1 * HB + q0) * (y * 2 ^ s) + r0) / 2 ^ s := by rw [tot]
  have e9 : (q1 * HB + q0) * (y * 2 ^ s) = 2 ^ s * ((q1 * HB + q0) * y) := by rw [<- Nat.mul_assoc, Nat.mul_comm]
  rw [Nat.mul_div_cancel _ hp, e9, Nat.mul_add_div hp] at h3;exact h3
 have hr0 : r0 / 2 ^ s < y := by rw [Nat.div_lt_iff_lt_mul hp]; exact hlt
 refine ⟨?_, ?_⟩
 . rw [hq]; unfold kG; rw [hN, Nat.add_comm ((q1 * HB + q0) * y), Nat.add_mul_div_right _ _ hy, Nat.div_eq_of_lt hr0, Nat.zero_add]
 . unfold mZ ik; rw [hN, Nat.add_comm ((q1 * HB + q0) * y), Nat.add_mul_mod_self_right, Nat.mod_eq_of_lt hr0]
theorem sY {u y : Nat} (hu : u < W) : ei u (aL (n0 u y) y) 0 = u % y := by
 have h1 := Nat.div_add_mod u y;rw [Nat.mul_comm] at h1;unfold ei aL n0;generalize u % y = r at *;generalize u / y * y = c at *;unfold W at *;omega
structure dO (u y w y1 y0 q1 rh : Nat) : Prop where
 le : (u * HB + w) / y <= q1
 eq : q1 * y1 + rh = u
 rh : rh < HB
 top : q1 <= HB + 1
theorem dO.start {u y w y1 y0 : Nat} (hy : y = y1 * HB + y0) (h1 : 2147483648 <= y1) (hu : u < y) (hw : w < HB) (h0 : y0 < HB) (hyW : y < W) : dO u y w y1 y0 (n0 u y1) (ei u (aL (n0 u y1) y1) 0) := by
 obtain ⟨a, b, c⟩ := iz hy h1 hu hw h0;have e := sY (u := u) (y := y1) (by omega);have hy1 : y1 < HB := by
  refine Decidable.byContradiction fun hn => ?_;have : HB * HB <= y1 * HB := Nat.mul_le_mul_right _ (by omega);rw [vG] at this;omega
 have hm := Nat.mod_lt u (by omega : y1 > 0);refine ⟨b, ?_, by rw [e]; omega, c⟩;rw [e]; unfold n0; rw [Nat.mul_comm]; exact Nat.div_add_mod u y1
theorem dO.step {u y w y1 y0 q1 rh : Nat} (hi : dO u y w y1 y0 q1 rh) (hgt : (u * HB + w) / y < q1) : (q1 - 1) * y1 + (rh + y1) = u := by
 obtain ⟨p, rfl⟩ : ∃ p, q1 = p + 1 := ⟨q1 - 1, by have := Nat.lt_of_le_of_lt (Nat.zero_le _) hgt; omega⟩;have := hi.eq;rw [Nat.add_mul] at this;rw [Nat.add_sub_cancel]; omega
theorem dO.stop {u y w y1 y0 q1 rh : Nat} (hi : dO u y w y1 y0 q1 rh) (hy : y = y1 * HB + y0) (hyp : 0 < y) (h0 : y0 < HB) (hgt : (u * HB + w) / y < q1) (hbr : HB <= rh + y1) : q1 - 1 = (u * HB + w) / y :=
 qi hy rfl hyp (hi.step hgt) (uI h0 (by have := hi.top; omega) hbr) (Nat.le_sub_one_of_lt hgt)
theorem dO.next {u y w y1 y0 q1 rh : Nat} (hi : dO u y w y1 y0 q1 rh) (hgt : (u * HB + w) / y < q1) (hbr : rh + y1 < HB) : dO u y w y1 y0 (q1 - 1) (rh + y1) :=
 ⟨Nat.le_sub_one_of_lt hgt, hi.step hgt, hbr, by have := hi.top; omega⟩
theorem dO.done {u y w y1 y0 q1 rh : Nat} (hi : dO u y w y1 y0 q1 rh) (hy : y = y1 * HB + y0) (hyp : 0 < y) (hc : q1 * y0 <= HB * rh + w) : q1 = (u * HB + w) / y :=
 qi hy rfl hyp hi.eq hc hi.le
theorem lE (x : Nat) : pj x 4294967295 = x % HB := by
 unfold pj; exact Nat.and_two_pow_sub_one_eq_mod x 32
theorem jm (x : Nat) : ik x 32 = x / HB := rfl
end Go.Proofs.YtbgecfleamckcaaGreat
namespace Go.Proofs
open Go.Shelf
def Tryz.sB : Go.Shelf.Ren := ⟨fun | 134 => 143 | 129 => 83 | n => n, fun | 53 => 47 | 3 => 3 | 4 => 4 | 46 => 133 | 5 => 5 | 9 => 9 | n => n, fun | n => n⟩
theorem Tryz.A9 : Go.Proofs.Lays.n134 Tryz.prog Tryz.sB := {
 mixed := by kernel_rfl
 f129 := Tryz.func83.trans (congrArg some (by kernel_rfl))
 f134 := Tryz.func143.trans (congrArg some (by kernel_rfl))
 t3 := Tryz.underlying3
 a3 := Tryz.isAgg3
 z3 := Tryz.sizeOf3
 v3 := Tryz.zeroValue3
 t4 := Tryz.underlying4
 a4 := Tryz.isAgg4
 z4 := Tryz.sizeOf4
 v4 := Tryz.zeroValue4
 t5 := Tryz.underlying5
 a5 := Tryz.isAgg5
 z5 := Tryz.sizeOf5
 v5 := Tryz.zeroValue5
 t9 := Tryz.underlying9
 a9 := Tryz.isAgg9
 z9 := Tryz.sizeOf9
 v9 := Tryz.zeroValue9
 t46 := Tryz.underlying133
 a46 := Tryz.isAgg133
 z46 := Tryz.sizeOf133
 v46 := Tryz.zeroValue133
 t53 := Tryz.underlying47
 a53 := Tryz.isAgg47
 z53 := Tryz.sizeOf47
 v53 := Tryz.zeroValue47 }
theorem Tryz.bits_LeadingZeros64 (x : Int) (w : World) (h0 : 0 <= x) (h1 : x <= 18446744073709551615) :
 Calls Tryz.prog 143 #[.int .u64 x] w fun e w' => e = .returned (.int .i64 (64 - (Lib.bitLen x.toNat : Int))) /\ w' = w := Any.bits_LeadingZeros64 Tryz.A9 x w h0 h1
def Tryz.rE : Go.Shelf.Ren := ⟨fun | 129 => 83 | n => n, fun | 53 => 47 | 3 => 3 | 4 => 4 | 46 => 133 | 5 => 5 | 9 => 9 | n => n, fun | n => n⟩
theorem Tryz.AB : Go.Proofs.Lays.n129 Tryz.prog Tryz.rE := {
 mixed := by kernel_rfl
 f129 := Tryz.func83.trans (congrArg some (by kernel_rfl))
 t3 := Tryz.underlying3
 a3 := Tryz.isAgg3
 z3 := Tryz.sizeOf3
 v3 := Tryz.zeroValue3
 t4 := Tryz.underlying4
 a4 := Tryz.isAgg4
 z4 := Tryz.sizeOf4
 v4 := Tryz.zeroValue4
 t5 := Tryz.underlying5
 a5 := Tryz.isAgg5
 z5 := Tryz.sizeOf5
 v5 := Tryz.zeroValue5
 t9 := Tryz.underlying9
 a9 := Tryz.isAgg9
 z9 := Tryz.sizeOf9
 v9 := Tryz.zeroValue9
 t46 := Tryz.underlying133
 a46 := Tryz.isAgg133
 z46 := Tryz.sizeOf133
 v46 := Tryz.zeroValue133
 t53 := Tryz.underlying47
 a53 := Tryz.isAgg47
 z53 := Tryz.sizeOf47
 v53 := Tryz.zeroValue47 }
theorem Tryz.bits_Len64 (x : Int) (w : World) (h0 : 0 <= x) (h1 : x <= 18446744073709551615) :
 Calls Tryz.prog 83 #[.int .u64 x] w fun e w' => e = .returned (.int .i64 (Lib.bitLen x.toNat)) /\ w' = w := Any.bits_Len64 Tryz.AB x w h0 h1
def Tryz.tL : Go.Shelf.Ren := ⟨fun | 264 => 125 | n => n, fun | 53 => 47 | 46 => 133 | n => n, fun | n => n⟩
theorem Tryz.AX : Go.Proofs.Lays.n264 Tryz.prog Tryz.tL := {
 mixed := by kernel_rfl
 f264 := Tryz.func125.trans (congrArg some (by kernel_rfl))
 t46 := Tryz.underlying133
 a46 := Tryz.isAgg133
 z46 := Tryz.sizeOf133
 v46 := Tryz.zeroValue133
 t53 := Tryz.underlying47
 a53 := Tryz.isAgg47
 z53 := Tryz.sizeOf47
 v53 := Tryz.zeroValue47 }
open Go.RowKit Go.Lib in
theorem Tryz.bits_Mul64 (x y : Nat) (hx : x < 18446744073709551616) (hy : y < 18446744073709551616) (w : World) :
 Calls Tryz.prog 125 #[.int .u64 x, .int .u64 y] w fun e w' => e = .returned (.tuple #[.int .u64 ((x * y / 18446744073709551616 : Nat) : Int), .int .u64 ((x * y % 18446744073709551616 : Nat) : Int)]) /\ w' = w := Any.bits_Mul64 Tryz.AX x y hx hy w
end Go.Proofs
namespace Go.Proofs.YtbgecfleamckcaaGreat
open Go.RowKit
theorem H5 {p : Prop} (h : p) : Go.RowKit.Hid p := Go.Lib.hid h
theorem dV (ao : Option Addr) (len cap : Nat) (ws : List Nat) (w : World) (hA : cU w ao ws) (hl : len = ws.length) (hm : len <= maxLen) :
 Calls Tryz.prog 64 #[.slice ao len cap] w fun e w' => e = .returned (.int .i64 (aj ws : Nat)) /\ w = w' := by
 unfold maxLen at hm;subst hl;have htl := aH ws;go_enter Tryz.func64, Tryz.ntmps64;go_wp2
 go_loop [3] (fun i => ∃ k : Nat, k <= ws.length /\ aj ws <= k /\ i = .int .i64 k) (fun i => (intOf i).toNat)
 case atStart => exact ⟨ws.length, by omega, by omega, rfl⟩
 case round =>
  obtain ⟨k, hk, ht, rfl⟩ := hrel;by_cases h0 : 0 < k
  . obtain ⟨b, o, rfl, hb, hc⟩ := hA.pos (by omega);have hcell := hc (k - 1) (by omega);by_cases hz : gw ws (k - 1) = 0
    . have hzb : (((gw ws (k - 1) : Nat) : Int) == 0) = true := by rw [hz]; rfl
      have Hz := H5 hz; clear hz hc;go_wp2
      go_round
      case rel => exact ⟨k - 1, by omega, kj ws (k - 1) (fun j hj => by
       by_cases hj' : j = k - 1
       . rw [hj']; exact Hz.out
       . exact j8 ws j (by omega)), by go_num⟩
      case measure => simp [intOf]; omega
    . have hzb : (((gw ws (k - 1) : Nat) : Int) == 0) = false := by rw [beq_eq_false_iff_ne]; omega
      have h1 := qA ws (k - 1) hz;clear hc hz;go_wp2;go_ret;exact ⟨gT (by omega), rfl⟩
  . go_wp2;go_ret;exact ⟨gT (by omega), rfl⟩
theorem own_s (ao : Option Addr) (len cap : Nat) (ws : List Nat) (w : World) (hA : cU w ao ws) (hl : len = ws.length) (hm : len <= 17592186044416) :
 Calls Tryz.prog 65 #[.slice ao len cap] w fun e w' => ∃ b, e = .returned (.slice (some ⟨b, 0, none⟩) (aa (a7 ws)) (aa (a7 ws))) /\ ud w w' b (ew (a7 ws)) := by
 subst hl;have htl := aH ws;have hm' : ws.length <= maxLen := by unfold maxLen; omega
 have Hm := H5 hm'; clear hm';go_enter Tryz.func65, Tryz.ntmps65;go_wp2_with (first
  | (go_at_call 64; refine (dV _ _ _ ws _ hA rfl Hm.out).mono ?_; rintro e w' ⟨rfl, rfl⟩)
  | (at_make; refine eP rfl _ _ rfl (aj ws) (aj ws) rfl rfl rfl rfl (Nat.le_refl _) (by omega) ?_; intro b w1 hm1)
  | (with_reducible show wpList _ _ _ (⟨some 11, _, _, _, _, _⟩ :: _) _ _; refine nX rfl _ _ rfl (hA.below hm1.below) rfl hm1.row rfl rfl (by simp) ?_; intro w2 hr2 hg2; have hb2 := hm1.below.grown hg2 hm1.below.size (fun k e => by cases e; exact Nat.le_of_eq hm1.at_.symm)))
 go_ret;have e : splice (List.replicate (aj ws) 0) 0 (ws.take (aj ws)) = ws.take (aj ws) := by simp [splice, List.length_take, Nat.min_eq_left htl]
 rw [e] at hr2;rw [bU hA.ok, iC hA.ok];have hl : (ws.take (aj ws)).length = aj ws := by simp [List.length_take, Nat.min_eq_left htl]
 exact ⟨b, rfl, hr2, hA.ok.take _, Nat.le_of_eq hm1.at_.symm, hb2⟩
theorem vC (ao : Option Addr) (len cap : Nat) (ws : List Nat) (w : World) (hA : cU w ao ws) (hl : len = ws.length) (hm : len <= 17592186044416) :
 Calls Tryz.prog 35 #[.slice ao len cap] w fun e w' => ∃ b, e = .returned (.slice (some ⟨b, 0, none⟩) (aa (a7 ws)) (aa (a7 ws))) /\ ud w w' b (ew (a7 ws)) := by
 subst hl;go_enter Tryz.func35, Tryz.ntmps35;go_wp2_with (go_at_call 65; refine (own_s _ _ _ ws _ hA rfl hm).mono ?_; rintro e w' ⟨b, rfl, h1⟩)
 go_ret;exact ⟨_, rfl, h1⟩
theorem eC (ao : Option Addr) (len cap : Nat) (ws : List Nat) (w : World) (hA : cU w ao ws) (hl : len = ws.length) (hm : len <= 17592186044416) :
 Calls Tryz.prog 35 #[.slice ao len cap] w fun e w' => (∃ ao' cap', e = .returned (.slice ao' (aa (a7 ws)) cap') /\ ct w' w.heap.size ao' (aa (a7 ws)) cap' (ew (a7 ws))) /\ Below w.heap.size w w' :=
 (vC ao len cap ws w hA hl hm).mono fun _ _ ⟨b, he, hN⟩ => ⟨⟨_, _, he, hN.own rfl (by have := ep hA.ok; unfold maxLen; omega)⟩, hN.below⟩
theorem vY (aoA aoB : Option Addr) (lA cA lB cB : Nat) (xs ys : List Nat) (w : World) (hA : cU w aoA xs) (hB : cU w aoB ys) (hlA : lA = xs.length) (hlB : lB = ys.length) (hmA : lA <= 17592186044416) (hmB : lB <= 17592186044416) :
 Calls Tryz.prog 33 #[.slice aoA lA cA, .slice aoB lB cB] w fun e w' => e = .returned (.int .i64 (gB (a7 xs) (a7 ys))) /\ Below w.heap.size w w' := by
 subst hlA hlB;have htA := aH xs;have htB := aH ys;have hmA' : xs.length <= maxLen := by unfold maxLen; omega
 have hmB' : ys.length <= maxLen := by unfold maxLen; omega
 have HA := H5 hmA'; clear hmA';have HB := H5 hmB'; clear hmB';by_cases hs : aj xs = aj ys
 . have hb : (((aj xs : Nat) : Int) != ((aj ys : Nat) : Int)) = false := by rw [hs]; simp
   have Hs := H5 hs; clear hs;go_enter Tryz.func33, Tryz.ntmps33;go_wp2_with fail
   refine (dV _ _ _ xs _ hA rfl HA.out).mono ?_;rintro e w' ⟨rfl, rfl⟩;go_wp2_with fail
   refine (dV _ _ _ ys _ hB rfl HB.out).mono ?_;rintro e w' ⟨rfl, rfl⟩;go_wp2;go_loopw [7] (fun i wr => ∃ k : Nat, k <= aj xs /\ i = .int .i64 ((k : Int) - 1) /\ Hid (∀ j, k <= j -> gw xs j = gw ys j) /\ Below w.heap.size w wr) (fun i _ => (intOf i + 1).toNat)
   case atStart => exact ⟨aj xs, Nat.le_refl _, rfl, H5 (fun j hj => by rw [j7 hj, j7 (by have := Hs.out; omega)]), Below.refl _ _⟩
   case round =>
    obtain ⟨k, hk, rfl, hag, hbl⟩ := hrel;by_cases h0 : 0 < k
    . have hk2 : k <= aj ys := by have := Hs.out; omega
      obtain ⟨b1, o1, rfl, hb1, hc1⟩ := (hA.below hbl).pos (by omega);obtain ⟨b2, o2, rfl, hb2, hc2⟩ := (hB.below hbl).pos (by omega);have e1 := hc1 (k - 1) (by omega);have e2 := hc2 (k - 1) (by omega);clear hc1 hc2;have i1 : (k : Int) - 1 < (xs.length : Int) := by omega
      have i2 : (k : Int) - 1 < (ys.length : Int) := by omega
      have i3 : (0 : Int) <= (k : Int) - 1 := by omega
      by_cases hlt : gw xs (k - 1) < gw ys (k - 1)
      . have t1 : decide (((gw xs (k - 1) : Nat) : Int) < ((gw ys (k - 1) : Nat) : Int)) = true := by simp; omega
        go_wp2
        go_quiet (fail)
        go_wp2;go_ret;exact ⟨gT (ny (kh hA.ok hB.ok (k - 1) (fun j hj => hag.out j (by omega)) hlt)).symm, below_drewN hbl _⟩
      . have t1 : decide (((gw xs (k - 1) : Nat) : Int) < ((gw ys (k - 1) : Nat) : Int)) = false := by simp; omega
        by_cases hgt : gw ys (k - 1) < gw xs (k - 1)
        . have t2 : decide (((gw ys (k - 1) : Nat) : Int) < ((gw xs (k - 1) : Nat) : Int)) = true := by simp; omega
          go_wp2
          go_quiet (fail)
          go_wp2
          go_quiet (fail)
          go_wp2;go_ret;exact ⟨gT (vL (kh hB.ok hA.ok (k - 1) (fun j hj => (hag.out j (by omega)).symm) hgt)).symm, below_drewN (below_drewN hbl _) _⟩
        . have t2 : decide (((gw ys (k - 1) : Nat) : Int) < ((gw xs (k - 1) : Nat) : Int)) = false := by simp; omega
          go_wp2
          go_quiet (fail)
          go_wp2
          go_quiet (fail)
          go_wp2;go_roundw
          case rel => exact ⟨k - 1, by omega, by go_num, H5 (fun j hj => by
           by_cases e : j = k - 1
           . subst e; omega
           . exact hag.out j (by omega)), below_drewN hbl _⟩
          case measure => simp [intOf]; omega
    . go_wp2;go_ret;refine ⟨gT (Ae (ko fun j => hag.out j (by omega))).symm, hbl⟩
 . have hb : (((aj xs : Nat) : Int) != ((aj ys : Nat) : Int)) = true := by rw [bne_iff_ne]; omega
   by_cases hlt : aj xs < aj ys;all_goals
    go_enter Tryz.func33, Tryz.ntmps33;go_wp2_with fail
    refine (dV _ _ _ xs _ hA rfl HA.out).mono ?_;rintro e w' ⟨rfl, rfl⟩;go_wp2_with fail
    refine (dV _ _ _ ys _ hB rfl HB.out).mono ?_;rintro e w' ⟨rfl, rfl⟩;go_wp2;go_ret
   . exact ⟨gT (ny (ja hA.ok hB.ok hlt)).symm, Below.refl _ _⟩
   . exact ⟨gT (vL (ja hB.ok hA.ok (by omega))).symm, Below.refl _ _⟩
theorem Add_c (aoA aoB : Option Addr) (lA cA lB cB : Nat) (xs ys : List Nat) (w : World) (hA : cU w aoA xs) (hB : cU w aoB ys) (hlA : lA = xs.length) (hlB : lB = ys.length) (hmA : lA <= 17592186044416) (hmB : lB <= 17592186044416) :
 Calls Tryz.prog 103 #[.slice aoA lA cA, .slice aoB lB cB] w fun e w' =>
  (∃ ao' cap', e = .returned (.slice ao' (aa (a7 xs + a7 ys)) cap') /\ ct w' w.heap.size ao' (aa (a7 xs + a7 ys)) cap' (ew (a7 xs + a7 ys))) /\ Below w.heap.size w w' := by
 subst hlA hlB;have htA := aH xs;have htB := aH ys;have hmA' : xs.length <= maxLen := by unfold maxLen; omega
 have hmB' : ys.length <= maxLen := by unfold maxLen; omega
 have HA := H5 hmA'; clear hmA';have HB := H5 hmB'; clear hmB';go_enter Tryz.func103, Tryz.ntmps103
 go_upto_if 15 with (go_at_call 64; first | ((with_reducible refine (dV aoA _ _ xs _ hA rfl HA.out).mono ?_); rintro e w' ⟨rfl, rfl⟩) | ((with_reducible refine (dV aoB _ _ ys _ hB rfl HB.out).mono ?_); rintro e w' ⟨rfl, rfl⟩))
 go_cut [0, 1] (fun s0 s1 wc => ∃ (ao1 ao2 : Option Addr) (c1 c2 : Nat) (as_ bs : List Nat), s0 = .slice ao1 as_.length c1 /\ s1 = .slice ao2 bs.length c2 /\ cU w ao1 as_ /\ cU w ao2 bs /\ aj bs <= aj as_ /\ as_.length <= 17592186044416 /\ bs.length <= 17592186044416 /\
  Hid (a7 as_ + a7 bs = a7 xs + a7 ys) /\ w = wc)
 case first =>
  by_cases hlt : aj xs < aj ys
  . have t1 : decide (((aj xs : Nat) : Int) < ((aj ys : Nat) : Int)) = true := by simp; omega
    go_wp2
    go_meet
    exact ⟨_, _, _, _, ys, xs, rfl, rfl, hB, hA, by omega, hmB, hmA, H5 (by omega), rfl⟩
  . have t1 : decide (((aj xs : Nat) : Int) < ((aj ys : Nat) : Int)) = false := by simp; omega
    go_wp2
    go_meet
    exact ⟨_, _, _, _, xs, ys, rfl, rfl, hA, hB, by omega, hmA, hmB, H5 rfl, rfl⟩
 case rest =>
  obtain ⟨ao1, ao2, c1, c2, as_, bs, rfl, rfl, h1, h2, hle, hm1, hm2, hsum, rfl⟩ := hcut;have k1 : as_.length <= maxLen := by unfold maxLen; omega
  have k2 : bs.length <= maxLen := by unfold maxLen; omega
  have K1 := H5 k1; clear k1;have K2 := H5 k2; clear k2;have l1 := aH as_;go_wp2_with (first
   | (go_at_call 64; first | ((with_reducible refine (dV ao1 _ _ as_ _ h1 rfl K1.out).mono ?_); rintro e w' ⟨rfl, rfl⟩) | ((with_reducible refine (dV ao2 _ _ bs _ h2 rfl K2.out).mono ?_); rintro e w' ⟨rfl, rfl⟩))
   | (at_make; refine eP rfl _ _ rfl (aj as_ + 1) (aj as_ + 1) rfl rfl (by omega) (by omega) (Nat.le_refl _) (by omega) ?_; intro b w1 hm1))
  go_loopw [8, 26] (fun c i wr => ∃ (k cr : Nat) (ls : List Nat), k <= aj as_ /\ i = .int .i64 k /\ c = .int .u64 cr /\ cr <= 1 /\ ls.length = aj as_ + 1 /\ Ok ls /\ a6 wr b 47 (ls.map wv) /\ Below w.heap.size w wr /\
   a7 (ls.take k) + W ^ k * cr = a7 (as_.take k) + a7 (bs.take k)) (fun _ i _ => aj as_ - (intOf i).toNat)
  case atStart => exact ⟨0, 0, _, Nat.zero_le _, rfl, rfl, by omega, by simp, Ok.replicate _, hm1.row, hm1.below, by simp [a7]⟩
  case round =>
   obtain ⟨k, cr, ls, hk, rfl, rfl, hcr, hll, hok, hrow, hbl, heq⟩ := hrel;have Hll := H5 hll; clear hll;have Heq := H5 heq; clear heq;by_cases hlt : k < aj as_
   . obtain ⟨b1, o1, rfl, hb1, hc1⟩ := (h1.below hbl).pos (by omega);have e1 := hc1 k (by omega);clear hc1;have hcell := hrow.word (i := k) (by have := Hll.out; omega);have hfree := hrow.free k;by_cases hlt2 : k < aj bs
     . have l2 := aH bs;obtain ⟨b2, o2, rfl, hb2, hc2⟩ := (h2.below hbl).pos (by omega);have e2 := hc2 k (by omega);clear hc2;go_wp2_with (with_reducible show wpList _ _ _ (⟨some 45, _, _, _, _, _⟩ :: _) _ _; refine cf rfl _ _ _ _ rfl (gw as_ k) (gw bs k) cr hcr rfl rfl rfl rfl rfl rfl ?_)
       go_roundw
       case rel => exact ⟨k + 1, _, _, by omega, by go_num, rfl, ju (h1.ok.gw k) (h2.ok.gw k) hcr, by rw [List.length_set]; exact Hll.out, hok.set _ _ (ft _ _ _), hrow.dp _ _, hbl.setCell (by exact Nat.le_of_eq hm1.at_.symm) _, by
        rw [aD as_, aD bs]; exact ta (by have := Hll.out; omega) Heq.out⟩
       case measure => simp [intOf]; omega
     . have hz : gw bs k = 0 := j7 (by omega);have Hz := H5 hz; clear hz;go_wp2_with (with_reducible show wpList _ _ _ (⟨some 45, _, _, _, _, _⟩ :: _) _ _; refine cf rfl _ _ _ _ rfl (gw as_ k) 0 cr hcr rfl rfl rfl rfl rfl rfl ?_)
       go_roundw
       case rel => exact ⟨k + 1, _, _, by omega, by go_num, rfl, ju (h1.ok.gw k) bE hcr, by rw [List.length_set]; exact Hll.out, hok.set _ _ (ft _ _ _), hrow.dp _ _, hbl.setCell (by exact Nat.le_of_eq hm1.at_.symm) _, by
        rw [aD as_, aD bs, Hz.out]; exact ta (x := gw as_ k) (y := 0) (by have := Hll.out; omega) Heq.out⟩
       case measure => simp [intOf]; omega
   . have ek : k = aj as_ := by omega
     subst ek;have hcell := hrow.word (i := aj as_) (by have := Hll.out; omega);have hfree := hrow.free (aj as_);have hrow2 := hrow.dp (aj as_) cr;have hbl2 := hbl.setCell (p := ⟨b, aj as_, none⟩) (by exact Nat.le_of_eq hm1.at_.symm) (.int .u64 (cr : Int));have hl2 : (ls.set (aj as_) cr).length = aj as_ + 1 := by rw [List.length_set]; exact Hll.out
     have hok2 := hok.set (aj as_) cr (by have := gH; omega);have hv : a7 (ls.set (aj as_) cr) = a7 xs + a7 ys := by
      have e1 := dU (l := ls) (k := aj as_) (by have := Hll.out; omega) cr;rw [List.take_of_length_le (by rw [hl2]; exact Nat.le_refl _)] at e1;have e2 : a7 (bs.take (aj as_)) = a7 bs := gS hle;rw [e1, Heq.out, bN h1.ok, e2, hsum.out]
     have Hfin := H5 (mi hrow2 hok2 (B := w.heap.size) (Nat.le_of_eq hm1.at_.symm) hl2 (by omega) hv);have Hs1 := H5 (hrow2.j3 hok2);have Hl2 := H5 hl2;have hmx : aj as_ + 1 <= maxLen := by unfold maxLen; omega
     have Hmx := H5 hmx;clear hmx hl2 hv hok2 hrow2;have l3 := aH (ls.set (aj as_) cr);rw [Hl2.out] at l3;go_wp2_with (go_at_call 64; (with_reducible refine (dV _ _ _ (ls.set (aj as_) cr) _ Hs1.out Hl2.out.symm Hmx.out).mono ?_); rintro e w' ⟨rfl, rfl⟩)
     go_ret;obtain ⟨q1, q2⟩ := Hfin.out;refine ⟨⟨_, _, ?_, q2⟩, hbl2⟩;rw [<- q1]; rfl
theorem Bj (aoA aoB : Option Addr) (lA cA lB cB : Nat) (xs ys : List Nat) (w : World) (hA : cU w aoA xs) (hB : cU w aoB ys) (hlA : lA = xs.length) (hlB : lB = ys.length) (hmA : lA <= 17592186044416) (hmB : lB <= 17592186044416)
 (hle : a7 ys <= a7 xs) :
 Calls Tryz.prog 104 #[.slice aoA lA cA, .slice aoB lB cB] w fun e w' =>
  (∃ ao' cap', e = .returned (.tuple #[.slice ao' (aa (a7 xs - a7 ys)) cap', .int .i64 0]) /\ ct w' w.heap.size ao' (aa (a7 xs - a7 ys)) cap' (ew (a7 xs - a7 ys))) /\ Below w.heap.size w w' := by
 subst hlA hlB;have htA := aH xs;have htB := aH ys;have htl : aj ys <= aj xs := by rw [<- bU hA.ok, <- bU hB.ok]; exact aF hle
 have hmA' : xs.length <= maxLen := by unfold maxLen; omega
 have hmB' : ys.length <= maxLen := by unfold maxLen; omega
 have HA := H5 hmA'; clear hmA';have HB := H5 hmB'; clear hmB';have hcn : decide (gB (a7 xs) (a7 ys) < 0) = false := by unfold gB; simp; split <;> (try split) <;> omega
 have Hle := H5 hle; clear hle;go_enter Tryz.func104, Tryz.ntmps104;go_wp2_with (first
  | (go_at_call 33; refine (vY aoA aoB _ _ _ _ xs ys _ hA hB rfl rfl hmA hmB).mono ?_; rintro e w0 ⟨rfl, hb0⟩; have hA0 := hA.below hb0; have hB0 := hB.below hb0)
  | (go_at_call 64; first | ((with_reducible refine (dV aoA _ _ xs _ hA0 rfl HA.out).mono ?_); rintro e w' ⟨rfl, rfl⟩) | ((with_reducible refine (dV aoB _ _ ys _ hB0 rfl HB.out).mono ?_); rintro e w' ⟨rfl, rfl⟩))
  | (at_make; refine eP rfl _ _ rfl (aj xs) (aj xs) rfl rfl rfl rfl (Nat.le_refl _) (by omega) ?_; intro b w1 hm1))
 have hb1 : Below w.heap.size w w1 := hb0.trans (hm1.below.mono hb0.size);have hB1 : w.heap.size <= b := by have := hm1.at_; have := hb0.size; omega
 go_loopw [9, 23] (fun c i wr => ∃ (k cr : Nat) (ls : List Nat), k <= aj xs /\ i = .int .i64 k /\ c = .int .u64 cr /\ cr <= 1 /\ ls.length = aj xs /\ Ok ls /\ a6 wr b 47 (ls.map wv) /\ Below w.heap.size w wr /\
  a7 (ls.take k) + a7 (ys.take k) = a7 (xs.take k) + W ^ k * cr) (fun _ i _ => aj xs - (intOf i).toNat)
 case atStart => exact ⟨0, 0, _, Nat.zero_le _, rfl, rfl, by omega, by simp, Ok.replicate _, hm1.row, hb1, by simp [a7]⟩
 case round =>
  obtain ⟨k, cr, ls, hk, rfl, rfl, hcr, hll, hok, hrow, hbl, heq⟩ := hrel;have Hll := H5 hll; clear hll;have Heq := H5 heq; clear heq;by_cases hlt : k < aj xs
  . obtain ⟨b1, o1, rfl, hb1, hc1⟩ := (hA.below hbl).pos (by omega);have e1 := hc1 k (by omega);clear hc1;have hcell := hrow.word (i := k) (by have := Hll.out; omega);have hfree := hrow.free k;by_cases hlt2 : k < aj ys
    . obtain ⟨b2, o2, rfl, hb2, hc2⟩ := (hB.below hbl).pos (by omega);have e2 := hc2 k (by omega);clear hc2;go_wp2_with (with_reducible show wpList _ _ _ (⟨some 42, _, _, _, _, _⟩ :: _) _ _; refine iI rfl _ _ _ _ rfl (gw xs k) (gw ys k) cr hcr rfl rfl rfl rfl rfl rfl ?_)
      go_roundw
      case rel => exact ⟨k + 1, _, _, by omega, by go_num, rfl, mh _ _ _, by rw [List.length_set]; exact Hll.out, hok.set _ _ (iB _ _ _), hrow.dp _ _, hbl.setCell hB1 _, by
       rw [aD xs, aD ys]; exact tG (by have := Hll.out; omega) Heq.out (hA.ok.gw k) (hB.ok.gw k) hcr⟩
      case measure => simp [intOf]; omega
    . have hz : gw ys k = 0 := j7 (by omega);have Hz := H5 hz; clear hz;go_wp2_with (with_reducible show wpList _ _ _ (⟨some 42, _, _, _, _, _⟩ :: _) _ _; refine iI rfl _ _ _ _ rfl (gw xs k) 0 cr hcr rfl rfl rfl rfl rfl rfl ?_)
      go_roundw
      case rel => exact ⟨k + 1, _, _, by omega, by go_num, rfl, mh _ _ _, by rw [List.length_set]; exact Hll.out, hok.set _ _ (iB _ _ _), hrow.dp _ _, hbl.setCell hB1 _, by
       rw [aD xs, aD ys, Hz.out]; exact tG (x := gw xs k) (y := 0) (by have := Hll.out; omega) Heq.out (hA.ok.gw k) bE hcr⟩
      case measure => simp [intOf]; omega
  . have ek : k = aj xs := by omega
    subst ek;have hv : a7 ls = a7 xs - a7 ys := by
     have e1 := Heq.out;rw [List.take_of_length_le (by have := Hll.out; omega), bN hA.ok, gS htl] at e1;have e2 : cr = 0 := by
      refine Decidable.byContradiction fun hne => ?_;have e3 : cr = 1 := by omega
      subst e3;have := dP hok;rw [Hll.out] at this;have := Hle.out;omega
     subst e2;omega
    have Hfin := H5 (mi hrow hok (B := w.heap.size) hB1 Hll.out (by omega) hv);have Hs1 := H5 (hrow.j3 hok);have hmx : aj xs <= maxLen := by unfold maxLen; omega
    have Hmx := H5 hmx;clear hmx hv;have l3 := aH ls;rw [Hll.out] at l3;go_wp2_with (go_at_call 64; (with_reducible refine (dV _ _ _ ls _ Hs1.out Hll.out.symm Hmx.out).mono ?_); rintro e w' ⟨rfl, rfl⟩)
    go_ret2;obtain ⟨q1, q2⟩ := Hfin.out;refine ⟨⟨_, _, ?_, q2⟩, hbl⟩;rw [<- q1]; rfl
theorem oR {x : Nat} (h0 : x ≠ 0) (h : x < W) : 1 <= Lib.bitLen x /\ Lib.bitLen x <= 64 := by
 have h1 := Lib.bitLenAux_bounds 64 x (by unfold W at h; omega) h0;refine ⟨h1.1, ?_⟩;refine Decidable.byContradiction fun hn => ?_;have h2 : 2 ^ 64 <= 2 ^ (Lib.bitLenAux 64 x - 1) := Nat.pow_le_pow_right (by omega) (by unfold Lib.bitLen at hn; omega);unfold W at h;omega
theorem yR (ao : Option Addr) (len cap : Nat) (ws : List Nat) (w : World) (hA : cU w ao ws) (hl : len = ws.length) (hm : len <= 17592186044416) :
 Calls Tryz.prog 57 #[.slice ao len cap] w fun e w' => (∃ n : Nat, e = .returned (.int .i64 (n : Int)) /\ (n = 0 ↔ a7 ws = 0)) /\ w = w' := by
 subst hl;have htA := aH ws;have hmA' : ws.length <= maxLen := by unfold maxLen; omega
 have HA := H5 hmA'; clear hmA';by_cases h0 : aj ws = 0
 . have hb : (((aj ws : Nat) : Int) == 0) = true := by rw [h0]; rfl
   have H0 := H5 h0; clear h0;go_enter Tryz.func57, Tryz.ntmps57;go_wp2_with (go_at_call 64; refine (dV _ _ _ ws _ hA rfl HA.out).mono ?_; rintro e w' ⟨rfl, rfl⟩)
   go_ret;exact ⟨⟨0, rfl, by simp [(gk hA.ok).1 H0.out]⟩, rfl⟩
 . have hb : (((aj ws : Nat) : Int) == 0) = false := by rw [beq_eq_false_iff_ne]; omega
   obtain ⟨b1, o1, rfl, hb1, hc1⟩ := hA.pos (by omega);have e1 := hc1 (aj ws - 1) (by omega);have hne : gw ws (aj ws - 1) ≠ 0 := sr ws h0;have hw := hA.ok.gw (aj ws - 1);have hbl := oR hne hw;have hx : ((gw ws (aj ws - 1) : Nat) : Int) <= 18446744073709551615 := by unfold W at hw; omega
   have Hx := H5 hx;have H0 := H5 h0;have i1 : 1 <= aj ws := by omega
   clear hc1 hne hw hx h0;go_enter Tryz.func57, Tryz.ntmps57;go_wp2_with (first
    | (go_at_call 64; refine (dV _ _ _ ws _ hA rfl HA.out).mono ?_; rintro e w' ⟨rfl, rfl⟩)
    | (go_at_call 83; refine (Tryz.bits_Len64 _ _ (by omega) Hx.out).mono ?_; rintro e w' ⟨rfl, rfl⟩; simp only [Int.toNat_natCast]))
   go_ret;refine ⟨⟨64 * (aj ws - 1) + Lib.bitLen (gw ws (aj ws - 1)), gT (by omega), ?_⟩, rfl⟩;rw [<- gk hA.ok];omega
theorem nO {y : Nat} (h0 : y ≠ 0) (h : y < W) : ∃ s : Nat, s < 64 /\ (64 - (Lib.bitLen y : Int)) = (s : Int) /\ 9223372036854775808 <= y * 2 ^ s /\ y * 2 ^ s < W := by
 have h1 := Lib.bitLenAux_bounds 64 y (by unfold W at h; omega) h0;have h2 := oR h0 h;refine ⟨64 - Lib.bitLen y, by omega, by omega, ?_, ?_⟩
 . have h3 : 2 ^ (Lib.bitLen y - 1) <= y := h1.2.1;have h4 : 2 ^ (Lib.bitLen y - 1) * 2 ^ (64 - Lib.bitLen y) <= y * 2 ^ (64 - Lib.bitLen y) := Nat.mul_le_mul_right _ h3;rw [<- Nat.pow_add] at h4;have h5 : Lib.bitLen y - 1 + (64 - Lib.bitLen y) = 63 := by omega
   rw [h5] at h4;exact h4
 . have h3 : y < 2 ^ Lib.bitLen y := h1.2.2;have h4 : y * 2 ^ (64 - Lib.bitLen y) < 2 ^ Lib.bitLen y * 2 ^ (64 - Lib.bitLen y) := Nat.mul_lt_mul_of_pos_right h3 (Nat.two_pow_pos _);rw [<- Nat.pow_add] at h4;have h5 : Lib.bitLen y + (64 - Lib.bitLen y) = 64 := by omega
   rw [h5] at h4;exact h4
theorem vm (h l y : Nat) (w : World) (hh : h < y) (hl : l < W) (hy : y < W) :
 Calls Tryz.prog 142 #[.int .u64 (h : Int), .int .u64 (l : Int), .int .u64 (y : Int)] w fun e w' =>
  e = .returned (.tuple #[.int .u64 ((kG h l y : Nat) : Int), .int .u64 ((mZ h l y : Nat) : Int)]) /\ ∃ m, w' = w.drewN m := by
 have y0 : (((y : Nat) : Int) == 0) = false := by rw [beq_eq_false_iff_ne]; omega
 have y1 : decide ((y : Int) <= (h : Int)) = false := by simp; omega
 by_cases h0 : h = 0
 . subst h0;have y2 : ¬ (y = 0) := by omega
   go_enter Tryz.func142, Tryz.ntmps142;go_wp2
   go_quiet (fail)
   go_wp2;go_ret2;have d1 : kG 0 l y = l / y := by unfold kG; rw [Nat.zero_mul, Nat.zero_add]
   have d2 : mZ 0 l y = l % y := by unfold mZ; rw [Nat.zero_mul, Nat.zero_add]
   rw [d1, d2];refine ⟨?_, _, rfl⟩;have hw : IntKind.u64.wrap ((l : Int) / (y : Int)) = ((l / y : Nat) : Int) := by
    rw [<- Int.natCast_ediv, IntKind.wrap_u64];have h1 := Nat.div_le_self l y;unfold W at hl;generalize l / y = z at *;omega
   show Ending.returned (.tuple #[.int .u64 (IntKind.u64.wrap ((l : Int) / (y : Int))), .int .u64 ((l : Int) % (y : Int))]) = _;rw [hw, Int.natCast_emod]
 . have h1 : (((h : Nat) : Int) == 0) = false := by rw [beq_eq_false_iff_ne]; omega
   obtain ⟨s, hs, hsl, hy1, hy2⟩ := nO (by omega : y ≠ 0) hy;have Hsl := H5 hsl; clear hsl;obtain ⟨p1, p2, p3, p4⟩ := xC hl hs hh hy2;have e1 : ea y s = y * 2 ^ s := Nat.mod_eq_of_lt hy2;have H := H5 (And.intro p1 (And.intro p2 (And.intro p3 (And.intro p4 (And.intro hy1 (And.intro hy2 e1)))))); clear p1 p2 p3 p4 hy1 hy2 e1;have hyb : (y : Int) <= 18446744073709551615 := by unfold W at hy; omega
   have Hyb := H5 hyb; clear hyb;have hylt : ea y s < W := jG _;have hllt : ea l s < W := jG _;have hY := H5 (show ea y s = ik (ea y s) 32 * HB + pj (ea y s) 4294967295 by rw [jm, lE, Nat.mul_comm]; exact (Nat.div_add_mod _ _).symm);have hY0 : pj (ea y s) 4294967295 < HB := by rw [lE]; exact Nat.mod_lt _ (by unfold HB; omega)
   have hYb : 9223372036854775808 <= ea y s := by rw [H.out.2.2.2.2.2.2]; exact H.out.2.2.2.2.1
   have hY1 : 2147483648 <= ik (ea y s) 32 := by rw [jm]; unfold HB; omega
   have hY1u : ik (ea y s) 32 < 4294967296 := by rw [jm, Nat.div_lt_iff_lt_mul (by unfold HB; omega)]; exact hylt
   have hU1 : ik (ea l s) 32 < HB := by rw [jm, Nat.div_lt_iff_lt_mul (by unfold HB; omega), vG]; exact hllt
   have hU0 : pj (ea l s) 4294967295 < HB := by rw [lE]; exact Nat.mod_lt _ (by unfold HB; omega)
   have hUY : vT (ea h s) (ik l (64 - s)) < ea y s := by rw [H.out.2.2.2.2.2.2]; exact H.out.2.1
   generalize hYg : ea y s = Y at *;generalize hVg : ea l s = V at *;generalize hY1g : ik Y 32 = Y1 at *;generalize hY0g : pj Y 4294967295 = Y0 at *;generalize hU1g : ik V 32 = U1 at *;generalize hU0g : pj V 4294967295 = U0 at *;generalize hUg : vT (ea h s) (ik l (64 - s)) = U at *;have G7 := H5 hUg; clear hUg;have G1 := H5 hYg; clear hYg;have G2 := H5 hVg; clear hVg;have G3 := H5 hY1g; clear hY1g;have G4 := H5 hY0g; clear hY0g;have G5 := H5 hU1g; clear hU1g;have G6 := H5 hU0g; clear hU0g;go_enter Tryz.func142, Tryz.ntmps142
   go_upto_block 0 with (first
    | (go_at_call 143; refine (Tryz.bits_LeadingZeros64 _ _ (by omega) Hyb.out).mono ?_; rintro e w' ⟨rfl, hw'⟩; obtain rfl := hw'.symm; simp only [Int.toNat_natCast]; rw [Hsl.out])
    | (with_reducible show wpList _ _ _ (⟨some 39, _, _, _, _, _⟩ :: _) _ _; refine oi rfl _ _ rfl y s (by omega) rfl rfl rfl rfl ?_; rw [G1.out])
    | (with_reducible show wpList _ _ _ (⟨some 41, _, _, _, _, _⟩ :: _) _ _; refine o3 rfl _ _ rfl Y 32 hylt (by omega) rfl rfl rfl rfl ?_; rw [G3.out])
    | (with_reducible show wpList _ _ _ (⟨some 43, _, _, _, _, _⟩ :: _) _ _; refine xE rfl _ _ rfl Y 4294967295 hylt (by unfold W; omega) rfl rfl rfl rfl ?_; rw [G4.out])
    | (with_reducible show wpList _ _ _ (⟨some 46, _, _, _, _, _⟩ :: _) _ _; refine oi rfl _ _ rfl h s (by omega) rfl rfl rfl rfl ?_)
    | (with_reducible show wpList _ _ _ (⟨some 50, _, _, _, _, _⟩ :: _) _ _; refine o3 rfl _ _ rfl l (64 - s) hl (by omega) rfl rfl rfl (by omega) ?_)
    | (with_reducible show wpList _ _ _ (⟨some 51, _, _, _, _, _⟩ :: _) _ _; refine tC rfl _ _ rfl (ea h s) (ik l (64 - s)) H.out.2.2.1 H.out.2.2.2.1 rfl rfl rfl rfl ?_; rw [G7.out])
    | (with_reducible show wpList _ _ _ (⟨some 54, _, _, _, _, _⟩ :: _) _ _; refine oi rfl _ _ rfl l s (by omega) rfl rfl rfl rfl ?_; rw [G2.out])
    | (with_reducible show wpList _ _ _ (⟨some 56, _, _, _, _, _⟩ :: _) _ _; refine o3 rfl _ _ rfl V 32 hllt (by omega) rfl rfl rfl rfl ?_; rw [G5.out])
    | (with_reducible show wpList _ _ _ (⟨some 58, _, _, _, _, _⟩ :: _) _ _; refine xE rfl _ _ rfl V 4294967295 hllt (by unfold W; omega) rfl rfl rfl rfl ?_; rw [G6.out])
    | (with_reducible show wpList _ _ _ (⟨some 61, _, _, _, _, _⟩ :: _) _ _; refine yu rfl _ _ rfl U Y1 (by omega) (by omega) rfl rfl rfl rfl ?_)
    | (with_reducible show wpList _ _ _ (⟨some 65, _, _, _, _, _⟩ :: _) _ _; refine kC rfl _ _ rfl (n0 U Y1) Y1 rfl rfl rfl rfl ?_)
    | (with_reducible show wpList _ _ _ (⟨some 66, _, _, _, _, _⟩ :: _) _ _; refine uz rfl _ _ rfl U (aL (n0 U Y1) Y1) (jE _ _) rfl rfl rfl rfl ?_))
   go_cut [15, 16] (fun q r wc => q = .int .u64 (((U * HB + U1) / Y : Nat) : Int) /\ (∃ rh : Nat, r = .int .u64 (rh : Int)) /\ w = wc)
   case first =>
    go_wp2
    go_loop [15, 16] (fun q r => ∃ q1 rh : Nat, q = .int .u64 (q1 : Int) /\ r = .int .u64 (rh : Int) /\ dO U Y U1 Y1 Y0 q1 rh) (fun q _ => (intOf q).toNat)
    case atStart => exact ⟨_, _, rfl, rfl, dO.start hY.out hY1 hUY hU1 hY0 hylt⟩
    case round =>
     obtain ⟨q1, rh, rfl, rfl, hi⟩ := hrel;have hrh := hi.rh;have htop := hi.top;have hqB := (iz hY.out hY1 hUY hU1 hY0).1;have Hq := H5 hqB; clear hqB;have HU1 := H5 hU1; have HY0 := H5 hY0; have HYb := H5 hYb; have Hyl := H5 hylt;have hYp : 0 < Y := by omega
     unfold HB at hrh htop hU1 hY0;clear hYb hylt hllt hy hl;by_cases hA : 4294967296 <= q1
     . have t1 : decide ((4294967296 : Int) <= (q1 : Int)) = true := by simp; omega
       have hgt := jN hY.out rfl hYp hi.eq (.inl (by unfold HB; exact hA)) Hq.out;have Hgt := H5 hgt;have hq1 : 1 <= q1 := Nat.lt_of_le_of_lt (Nat.zero_le _) hgt;clear hgt;by_cases hbr : 4294967296 <= rh + Y1
       . have t2 : decide ((4294967296 : Int) <= (rh : Int) + (Y1 : Int)) = true := by simp; omega
         go_wp2
         go_meet
         exact ⟨by rw [<- hi.stop hY.out hYp HY0.out Hgt.out (by unfold HB; exact hbr)]; go_num, ⟨_, rfl⟩, rfl⟩
       . have t2 : decide ((4294967296 : Int) <= (rh : Int) + (Y1 : Int)) = false := by simp; omega
         go_wp2
         go_round
         case rel => exact ⟨q1 - 1, rh + Y1, by go_num, by go_num, hi.next Hgt.out (by unfold HB; omega)⟩
         case measure => simp [intOf]; omega
     . have t1 : decide ((4294967296 : Int) <= (q1 : Int)) = false := by simp; omega
       have hmul : q1 * Y0 <= 4294967295 * 4294967295 := Nat.mul_le_mul (by omega) (by omega);have f1 : (q1 : Int) * (Y0 : Int) <= 18446744073709551615 := by rw [<- Int.natCast_mul]; omega
       have f0 : 0 <= (q1 : Int) * (Y0 : Int) := by rw [<- Int.natCast_mul]; omega
       clear hmul;by_cases hB : 4294967296 * rh + U1 < q1 * Y0
       . have t3 : decide ((4294967296 : Int) * (rh : Int) + (U1 : Int) < (q1 : Int) * (Y0 : Int)) = true := by rw [<- Int.natCast_mul]; simp; omega
         have hgt := jN hY.out rfl hYp hi.eq (.inr (by unfold HB; exact hB)) Hq.out;have Hgt := H5 hgt;have hq1 : 1 <= q1 := Nat.lt_of_le_of_lt (Nat.zero_le _) hgt;clear hgt hB;by_cases hbr : 4294967296 <= rh + Y1
         . have t2 : decide ((4294967296 : Int) <= (rh : Int) + (Y1 : Int)) = true := by simp; omega
           go_wp2
           go_meet
           exact ⟨by rw [<- hi.stop hY.out hYp HY0.out Hgt.out (by unfold HB; exact hbr)]; go_num, ⟨_, rfl⟩, rfl⟩
         . have t2 : decide ((4294967296 : Int) <= (rh : Int) + (Y1 : Int)) = false := by simp; omega
           go_wp2
           go_round
           case rel => exact ⟨q1 - 1, rh + Y1, by go_num, by go_num, hi.next Hgt.out (by unfold HB; omega)⟩
           case measure => simp [intOf]; omega
       . have t3 : decide ((4294967296 : Int) * (rh : Int) + (U1 : Int) < (q1 : Int) * (Y0 : Int)) = false := by rw [<- Int.natCast_mul]; simp; omega
         have hd := hi.done hY.out hYp (by unfold HB; omega);have Hd := H5 hd; clear hd hB;go_wp2
         go_meet
         exact ⟨by rw [Hd.out], ⟨_, rfl⟩, rfl⟩
   case rest =>
    obtain ⟨rfl, ⟨rh0, rfl⟩, rfl⟩ := hcut;have hYp : 0 < Y := by omega
    have hR := pV (u := U) (w := U1) rfl hYp hylt;have hRlt := Nat.mod_lt (U * HB + U1) hYp;have hQlt := (iz hY.out hY1 hUY hU1 hY0).1;generalize hQg : (U * HB + U1) / Y = Q at *;generalize hRg : (U * HB + U1) % Y = R at *;have HQ := H5 hQg; clear hQg;have HR := H5 hRg; clear hRg;rw [xO] at hR;have HRest := H5 hR; clear hR;have HQlt := H5 hQlt; clear hQlt;have Hslt := H5 hs;have hRW : R < W := by omega
    go_upto_block 2 with (first
     | (with_reducible show wpList _ _ _ (⟨some 87, _, _, _, _, _⟩ :: _) _ _; refine kC rfl _ _ rfl U 4294967296 rfl rfl rfl rfl ?_)
     | (with_reducible show wpList _ _ _ (⟨some 89, _, _, _, _, _⟩ :: _) _ _; refine qL rfl _ _ rfl (aL U 4294967296) U1 rfl rfl rfl rfl ?_)
     | (with_reducible show wpList _ _ _ (⟨some 92, _, _, _, _, _⟩ :: _) _ _; refine kC rfl _ _ rfl Q Y rfl rfl rfl rfl ?_)
     | (with_reducible show wpList _ _ _ (⟨some 93, _, _, _, _, _⟩ :: _) _ _; refine pY rfl _ _ rfl (bG (aL U 4294967296) U1 0) (aL Q Y) R (jE _ _) (by exact HRest.out) rfl rfl rfl rfl ?_)
     | (with_reducible show wpList _ _ _ (⟨some 96, _, _, _, _, _⟩ :: _) _ _; refine yu rfl _ _ rfl R Y1 hRW (by omega) rfl rfl rfl rfl ?_)
     | (with_reducible show wpList _ _ _ (⟨some 100, _, _, _, _, _⟩ :: _) _ _; refine kC rfl _ _ rfl (n0 R Y1) Y1 rfl rfl rfl rfl ?_)
     | (with_reducible show wpList _ _ _ (⟨some 101, _, _, _, _, _⟩ :: _) _ _; refine uz rfl _ _ rfl R (aL (n0 R Y1) Y1) (jE _ _) rfl rfl rfl rfl ?_))
    go_cut [18, 16] (fun q r wc => q = .int .u64 (((R * HB + U0) / Y : Nat) : Int) /\ (∃ rh : Nat, r = .int .u64 (rh : Int)) /\ w = wc)
    case first =>
     go_wp2
     go_loop [18, 16] (fun q r => ∃ q1 rh : Nat, q = .int .u64 (q1 : Int) /\ r = .int .u64 (rh : Int) /\ dO R Y U0 Y1 Y0 q1 rh) (fun q _ => (intOf q).toNat)
     case atStart => exact ⟨_, _, rfl, rfl, dO.start hY.out hY1 hRlt hU0 hY0 hylt⟩
     case round =>
      obtain ⟨q1, rh, rfl, rfl, hi⟩ := hrel;have hrh := hi.rh;have htop := hi.top;have hqB := (iz hY.out hY1 hRlt hU0 hY0).1;have HqR := H5 hqB; clear hqB;have HU1 := H5 hU1; have HU0 := H5 hU0; have HY0 := H5 hY0; have HYb := H5 hYb; have Hyl := H5 hylt;unfold HB at hrh htop hU0 hY0;clear hU1 hYb hylt hllt hy hl hRW;by_cases hA : 4294967296 <= q1
      . have t1 : decide ((4294967296 : Int) <= (q1 : Int)) = true := by simp; omega
        have hgt := jN hY.out rfl hYp hi.eq (.inl (by unfold HB; exact hA)) HqR.out;have Hgt := H5 hgt;have hq1 : 1 <= q1 := Nat.lt_of_le_of_lt (Nat.zero_le _) hgt;clear hgt;by_cases hbr : 4294967296 <= rh + Y1
        . have t2 : decide ((4294967296 : Int) <= (rh : Int) + (Y1 : Int)) = true := by simp; omega
          go_wp2
          go_meet
          exact ⟨by rw [<- hi.stop hY.out hYp HY0.out Hgt.out (by unfold HB; exact hbr)]; go_num, ⟨_, rfl⟩, rfl⟩
        . have t2 : decide ((4294967296 : Int) <= (rh : Int) + (Y1 : Int)) = false := by simp; omega
          go_wp2
          go_round
          case rel => exact ⟨q1 - 1, rh + Y1, by go_num, by go_num, hi.next Hgt.out (by unfold HB; omega)⟩
          case measure => simp [intOf]; omega
      . have t1 : decide ((4294967296 : Int) <= (q1 : Int)) = false := by simp; omega
        have hmul : q1 * Y0 <= 4294967295 * 4294967295 := Nat.mul_le_mul (by omega) (by omega);have f1 : (q1 : Int) * (Y0 : Int) <= 18446744073709551615 := by rw [<- Int.natCast_mul]; omega
        have f0 : 0 <= (q1 : Int) * (Y0 : Int) := by rw [<- Int.natCast_mul]; omega
        clear hmul;by_cases hB : 4294967296 * rh + U0 < q1 * Y0
        . have t3 : decide ((4294967296 : Int) * (rh : Int) + (U0 : Int) < (q1 : Int) * (Y0 : Int)) = true := by rw [<- Int.natCast_mul]; simp; omega
          have hgt := jN hY.out rfl hYp hi.eq (.inr (by unfold HB; exact hB)) HqR.out;have Hgt := H5 hgt;have hq1 : 1 <= q1 := Nat.lt_of_le_of_lt (Nat.zero_le _) hgt;clear hgt hB;by_cases hbr : 4294967296 <= rh + Y1
          . have t2 : decide ((4294967296 : Int) <= (rh : Int) + (Y1 : Int)) = true := by simp; omega
            go_wp2
            go_meet
            exact ⟨by rw [<- hi.stop hY.out hYp HY0.out Hgt.out (by unfold HB; exact hbr)]; go_num, ⟨_, rfl⟩, rfl⟩
          . have t2 : decide ((4294967296 : Int) <= (rh : Int) + (Y1 : Int)) = false := by simp; omega
            go_wp2
            go_round
            case rel => exact ⟨q1 - 1, rh + Y1, by go_num, by go_num, hi.next Hgt.out (by unfold HB; omega)⟩
            case measure => simp [intOf]; omega
        . have t3 : decide ((4294967296 : Int) * (rh : Int) + (U0 : Int) < (q1 : Int) * (Y0 : Int)) = false := by rw [<- Int.natCast_mul]; simp; omega
          have hd := hi.done hY.out hYp (by unfold HB; omega);have Hd := H5 hd; clear hd hB;go_wp2
          go_meet
          exact ⟨by rw [Hd.out], ⟨_, rfl⟩, rfl⟩
    case rest =>
     obtain ⟨rfl, ⟨rh1, rfl⟩, rfl⟩ := hcut;have hQ0lt := (iz hY.out hY1 hRlt hU0 hY0).1;have hYe : Y = y * 2 ^ s := H.out.2.2.2.2.2.2;have e5 : V / HB = U1 := by rw [<- jm]; exact G5.out
     have e6 : V % HB = U0 := by rw [<- lE]; exact G6.out
     have hj := yv (h := h) (l := l) (s := s) (y := y) (u := U) (v := V) (q1 := Q) (q0 := (R * HB + U0) / Y) (r1 := R) H.out.1 (by omega)
      (by rw [e5, <- hYe]; exact HQ.out.symm) (by rw [e5, <- hYe]; exact HR.out.symm) (by rw [e6, <- hYe]) HQlt.out hQ0lt
     rw [e6, <- hYe] at hj;have HYe := H5 hYe; clear hYe e5 e6;have hR2 := pV (u := R) (w := U0) rfl hYp hylt;have hR2lt := Nat.mod_lt (R * HB + U0) hYp;generalize hQ0g : (R * HB + U0) / Y = Q0 at *;generalize hR0g : (R * HB + U0) % Y = R0 at *;have HQ0 := H5 hQ0g; clear hQ0g;have HR0 := H5 hR0g; clear hR0g;rw [xO] at hR2;have HR2 := H5 hR2; clear hR2;rw [xO] at hj;have Hj := H5 hj; clear hj;have hR0W : R0 < W := by omega
     clear hY0 hU0 hU1;go_wp2_with (first
      | (with_reducible show wpList _ _ _ (⟨some 122, _, _, _, _, _⟩ :: _) _ _; refine kC rfl _ _ rfl Q 4294967296 rfl rfl rfl rfl ?_)
      | (with_reducible show wpList _ _ _ (⟨some 124, _, _, _, _, _⟩ :: _) _ _; refine qL rfl _ _ rfl (aL Q 4294967296) Q0 rfl rfl rfl rfl ?_)
      | (with_reducible show wpList _ _ _ (⟨some 126, _, _, _, _, _⟩ :: _) _ _; refine kC rfl _ _ rfl R 4294967296 rfl rfl rfl rfl ?_)
      | (with_reducible show wpList _ _ _ (⟨some 128, _, _, _, _, _⟩ :: _) _ _; refine qL rfl _ _ rfl (aL R 4294967296) U0 rfl rfl rfl rfl ?_)
      | (with_reducible show wpList _ _ _ (⟨some 131, _, _, _, _, _⟩ :: _) _ _; refine kC rfl _ _ rfl Q0 Y rfl rfl rfl rfl ?_)
      | (with_reducible show wpList _ _ _ (⟨some 132, _, _, _, _, _⟩ :: _) _ _; refine pY rfl _ _ rfl (bG (aL R 4294967296) U0 0) (aL Q0 Y) R0 (jE _ _) (by exact HR2.out) rfl rfl rfl rfl ?_)
      | (with_reducible show wpList _ _ _ (⟨some 134, _, _, _, _, _⟩ :: _) _ _; refine o3 rfl _ _ rfl R0 s hR0W (by omega) rfl rfl rfl rfl ?_))
     go_ret2;rw [<- Hj.out.1, <- Hj.out.2];exact ⟨rfl, 0, rfl⟩
theorem zO (h l y : Nat) (w : World) (hh : h < y) (hl : l < W) (hy : y < W) :
 Calls Tryz.prog 142 #[.int .u64 (h : Int), .int .u64 (l : Int), .int .u64 (y : Int)] w fun e w' =>
  e = .returned (.tuple #[.int .u64 ((kG h l y : Nat) : Int), .int .u64 ((mZ h l y : Nat) : Int)]) /\ w.grownBy w' none :=
 (vm h l y w hh hl hy).mono fun _ _ ⟨a, m, b⟩ => ⟨a, by rw [b]; exact fb (World.grownBy.refl _ _) m⟩
theorem mb (ao : Option Addr) (len cap : Nat) (ws : List Nat) (w : World) (hA : cU w ao ws) (hl : len = ws.length) (hm : len <= 35184372088832) (hcap : len <= cap) :
 Calls Tryz.prog 106 #[.slice ao len cap] w fun e w' => e = .returned (.slice ao (aj ws) (aj ws)) /\ w = w' := by
 subst hl;have htl := aH ws;go_enter Tryz.func106, Tryz.ntmps106;go_wp2
 go_loop [3] (fun i => ∃ k : Nat, k <= ws.length /\ aj ws <= k /\ i = .int .i64 k) (fun i => (intOf i).toNat)
 case atStart => exact ⟨ws.length, by omega, by omega, rfl⟩
 case round =>
  obtain ⟨k, hk, ht, rfl⟩ := hrel;by_cases h0 : 0 < k
  . obtain ⟨b, o, rfl, hb, hc⟩ := hA.pos (by omega);have hcell := hc (k - 1) (by omega);by_cases hz : gw ws (k - 1) = 0
    . have hzb : (((gw ws (k - 1) : Nat) : Int) == 0) = true := by rw [hz]; rfl
      have Hz := H5 hz; clear hz hc;go_wp2
      go_round
      case rel => exact ⟨k - 1, by omega, kj ws (k - 1) (fun j hj => by
       by_cases hj' : j = k - 1
       . rw [hj']; exact Hz.out
       . exact j8 ws j (by omega)), by go_num⟩
      case measure => simp [intOf]; omega
    . have hzb : (((gw ws (k - 1) : Nat) : Int) == 0) = false := by rw [beq_eq_false_iff_ne]; omega
      have h1 := qA ws (k - 1) hz;have hk1 : k = aj ws := by omega
      subst hk1;clear hc hz;go_wp2;go_ret;exact ⟨rfl, rfl⟩
  . have hk1 : k = aj ws := by omega
    subst hk1;go_wp2;go_ret;exact ⟨rfl, rfl⟩
structure fe (w w' : World) (b : Nat) (cur cur' : List Nat) : Prop where
 row : a6 w' b 47 (cur'.map wv)
 ok : Ok cur'
 len : cur'.length = cur.length
 grown : w.grownBy w' (some b)
theorem fe.set {w w' : World} {b : Nat} {cur cur' : List Nat} (h : fe w w' b cur cur') (i v : Nat) (hv : v < W) : fe w (w'.setCell ⟨b, i, none⟩ (.int .u64 (v : Int))) b cur (cur'.set i v) :=
 ⟨h.row.dp i v, h.ok.set i v hv, by rw [List.length_set]; exact h.len, oW h.grown i _⟩
theorem fe.drew {w w' : World} {b : Nat} {cur cur' : List Nat} (h : fe w w' b cur cur') : fe w w'.drew b cur cur' := ⟨h.row, h.ok, h.len, nW h.grown⟩
theorem nk (zo ao : Option Addr) (b o lz cz len cap : Nat) (ws cur : List Nat) (w : World) (hrow : a6 w b 47 (cur.map wv)) (hok : Ok cur) (hz : lz = 0 \/ zo = some ⟨b, o, none⟩) (hfit : o + lz <= cur.length)
 (hA : cU w ao ws) (hne : ki ao ws b) (hl : len = ws.length) (hle : len <= lz) (hm : cur.length <= 35184372088832) :
 Calls Tryz.prog 108 #[.slice zo lz cz, .slice ao len cap] w fun e w' => e = .returned (.tuple #[]) /\ ∃ (cur' : List Nat) (cr : Nat), fe w w' b cur cur' /\ cr <= 1 /\
  (∀ j, j < o \/ o + lz <= j -> gw cur' j = gw cur j) /\ sv cur' o lz + W ^ lz * cr = sv cur o lz + a7 ws := by
 subst hl;go_enter Tryz.func108, Tryz.ntmps108;go_wp2;go_loopw [4, 9] (fun c i wr => ∃ (k cr : Nat) (cu : List Nat), k <= ws.length /\ i = .int .i64 k /\ c = .int .u64 cr /\ cr <= 1 /\ fe w wr b cur cu /\ Hid (∀ j, j < o \/ o + k <= j -> gw cu j = gw cur j) /\
  Hid (sv cu o k + W ^ k * cr = sv cur o k + a7 (ws.take k))) (fun _ i _ => ws.length - (intOf i).toNat)
 case atStart => exact ⟨0, 0, cur, Nat.zero_le _, rfl, rfl, by omega, ⟨hrow, hok, rfl, World.grownBy.refl _ _⟩, H5 (fun _ _ => rfl), H5 (by simp [iU, a7])⟩
 case round =>
  obtain ⟨k, cr, cu, hk, rfl, rfl, hcr, hR, Hs, He⟩ := hrel;by_cases hlt : k < ws.length
  . obtain ⟨b1, o1, rfl, hb1, hc1⟩ := (hA.grown hR.grown hne).pos (by omega);have e1 := hc1 k hlt;clear hc1;obtain rfl : zo = some ⟨b, o, none⟩ := by
     rcases hz with h | h
     . omega
     . exact h
    have hlen := hR.len;have hcell := hR.row.word (i := o + k) (by omega);have hfree := hR.row.free (o + k);have Hlen := H5 hlen; clear hlen;have hadd := qV (gw cu (o + k)) (gw ws k) cr hcr;have i1 : (k : Int) < (lz : Int) := by omega
    have i2 : (k : Int) < (ws.length : Int) := by omega
    go_wp2
    go_region
    go_wp2;go_roundw
    case rel =>
     exact ⟨k + 1, _, _, by omega, by go_num, rfl, ju (hR.ok.gw _) (hA.ok.gw k) hcr, (hR.set (o + k) _ (ft _ _ _)).drew,
      H5 (fun j hj => by rw [bS (by omega)]; exact Hs.out j (by omega)),
      H5 (iX (ws := ws) (by have := Hlen.out; omega) He.out (Hs.out _ (by omega)) (aD ws k))⟩
    case measure => simp [intOf]; omega
  . have hk1 : k = ws.length := by omega
    subst hk1;go_wp2;go_loopw [4, 6] (fun c i wr => ∃ (k cr : Nat) (cu : List Nat), ws.length <= k /\ k <= lz /\ i = .int .i64 k /\ c = .int .u64 cr /\ cr <= 1 /\ fe w wr b cur cu /\ Hid (∀ j, j < o \/ o + k <= j -> gw cu j = gw cur j) /\
     Hid (sv cu o k + W ^ k * cr = sv cur o k + a7 ws)) (fun _ i _ => lz - (intOf i).toNat)
    case atStart => exact ⟨ws.length, cr, cu, Nat.le_refl _, hle, rfl, rfl, hcr, hR, Hs, H5 (by have := He.out; rwa [List.take_of_length_le (Nat.le_refl _)] at this)⟩
    case round =>
     clear hR Hs He hcr;obtain ⟨k, cr, cu, hk0, hk, rfl, rfl, hcr, hR, Hs, He⟩ := hrel;by_cases hc0 : cr = 0
     . subst hc0;go_wp2
       go_end0
       exact ⟨rfl, cu, 0, hR, by omega, fun j hj => Hs.out j (by omega), by
        have := pP (n := lz) hk (X := 0) (by have := He.out; omega) (fun j hj => Hs.out j (by omega)); omega⟩
     . have t1 : (((cr : Nat) : Int) != 0) = true := by rw [bne_iff_ne]; omega
       have Hc0 := H5 hc0; clear hc0;by_cases hlt2 : k < lz
       . obtain rfl : zo = some ⟨b, o, none⟩ := by
          rcases hz with h | h
          . omega
          . exact h
         have hlen := hR.len;have hcell := hR.row.word (i := o + k) (by omega);have hfree := hR.row.free (o + k);have Hlen := H5 hlen; clear hlen;have i1 : (k : Int) < (lz : Int) := by omega
         go_wp2_with (with_reducible show wpList _ _ _ (⟨some 49, _, _, _, _, _⟩ :: _) _ _; refine cf rfl _ _ _ _ rfl (gw cu (o + k)) 0 cr hcr rfl rfl rfl rfl rfl rfl ?_)
         go_roundw
         case rel =>
          exact ⟨k + 1, _, _, by omega, by omega, by go_num, rfl, ju (hR.ok.gw _) bE hcr, hR.set (o + k) _ (ft _ _ _),
           H5 (fun j hj => by rw [bS (by omega)]; exact Hs.out j (by omega)),
           H5 (iX (ws := ws) (by have := Hlen.out; omega) He.out (Hs.out _ (by omega)) (by omega))⟩
         case measure => simp [intOf]; omega
       . have hk1 : k = lz := by omega
         subst hk1;go_wp2
         go_end0
         exact ⟨rfl, cu, cr, hR, hcr, fun j hj => Hs.out j (by omega), He.out⟩
theorem pF (zo ao : Option Addr) (b o lz cz len cap : Nat) (ws cur : List Nat) (w : World) (hrow : a6 w b 47 (cur.map wv)) (hok : Ok cur) (hz : lz = 0 \/ zo = some ⟨b, o, none⟩) (hfit : o + lz <= cur.length)
 (hA : cU w ao ws) (hne : ki ao ws b) (hl : len = ws.length) (hle : len <= lz) (hm : cur.length <= 35184372088832) (hge : a7 ws <= sv cur o lz) :
 Calls Tryz.prog 127 #[.slice zo lz cz, .slice ao len cap] w fun e w' => e = .returned (.tuple #[]) /\ ∃ (cur' : List Nat), fe w w' b cur cur' /\
  (∀ j, j < o \/ o + lz <= j -> gw cur' j = gw cur j) /\ sv cur' o lz + a7 ws = sv cur o lz := by
 subst hl;have Hge := H5 hge; clear hge;go_enter Tryz.func127, Tryz.ntmps127;go_wp2;go_loopw [4, 9] (fun c i wr => ∃ (k cr : Nat) (cu : List Nat), k <= lz /\ i = .int .i64 k /\ c = .int .u64 cr /\ cr <= 1 /\ fe w wr b cur cu /\ Hid (∀ j, j < o \/ o + k <= j -> gw cu j = gw cur j) /\
  Hid (sv cu o k + a7 (ws.take k) = sv cur o k + W ^ k * cr)) (fun _ i _ => lz - (intOf i).toNat)
 case atStart => exact ⟨0, 0, cur, Nat.zero_le _, rfl, rfl, by omega, ⟨hrow, hok, rfl, World.grownBy.refl _ _⟩, H5 (fun _ _ => rfl), H5 (by simp [iU, a7])⟩
 case round =>
  obtain ⟨k, cr, cu, hk, rfl, rfl, hcr, hR, Hs, He⟩ := hrel;by_cases hlt : k < lz
  . obtain rfl : zo = some ⟨b, o, none⟩ := by
     rcases hz with h | h
     . omega
     . exact h
    have hlen := hR.len;have hcell := hR.row.word (i := o + k) (by omega);have hfree := hR.row.free (o + k);have Hlen := H5 hlen; clear hlen;by_cases hlt2 : k < ws.length
    . obtain ⟨b1, o1, rfl, hb1, hc1⟩ := (hA.grown hR.grown hne).pos (by omega);have e1 := hc1 k hlt2;clear hc1;go_wp2_with (with_reducible show wpList _ _ _ (⟨some 31, _, _, _, _, _⟩ :: _) _ _; refine iI rfl _ _ _ _ rfl (gw cu (o + k)) (gw ws k) cr hcr rfl rfl rfl rfl rfl rfl ?_)
      go_roundw
      case rel =>
       exact ⟨k + 1, _, _, by omega, by go_num, rfl, mh _ _ _, hR.set (o + k) _ (iB _ _ _),
        H5 (fun j hj => by rw [bS (by omega)]; exact Hs.out j (by omega)),
        H5 (lI (by have := Hlen.out; omega) He.out (Hs.out _ (by omega)) (aD ws k) (hR.ok.gw _) (hA.ok.gw k) hcr)⟩
      case measure => simp [intOf]; omega
    . by_cases hc0 : cr = 0
      . subst hc0;go_wp2;refine bodyPost_ret (results_none rfl _ _ _) rfl ?_;exact ⟨rfl, cu, hR, fun j hj => Hs.out j (by omega), by
         have := pP (n := lz) (Nat.le_of_lt hlt) (X := a7 ws) (Y := 0) (by have := He.out; rw [List.take_of_length_le (by omega)] at this; omega) (fun j hj => Hs.out j (by omega)); omega⟩
      . have t1 : (((cr : Nat) : Int) == 0) = false := by rw [beq_eq_false_iff_ne]; omega
        have Hc0 := H5 hc0; clear hc0;go_wp2_with (with_reducible show wpList _ _ _ (⟨some 31, _, _, _, _, _⟩ :: _) _ _; refine iI rfl _ _ _ _ rfl (gw cu (o + k)) 0 cr hcr rfl rfl rfl rfl rfl rfl ?_)
        go_roundw
        case rel =>
         exact ⟨k + 1, _, _, by omega, by go_num, rfl, mh _ _ _, hR.set (o + k) _ (iB _ _ _),
          H5 (fun j hj => by rw [bS (by omega)]; exact Hs.out j (by omega)),
          H5 (lI (by have := Hlen.out; omega) He.out (Hs.out _ (by omega)) (by rw [List.take_of_length_le (by omega), List.take_of_length_le (by omega)]; omega) (hR.ok.gw _) bE hcr)⟩
        case measure => simp [intOf]; omega
  . have hk1 : k = lz := by omega
    subst hk1;go_wp2
    go_end0
    refine ⟨rfl, cu, hR, fun j hj => Hs.out j (by omega), ?_⟩;have e1 := He.out;rw [List.take_of_length_le hle] at e1;have e2 := o5 hR.ok o k;have e3 := Hge.out;have e4 : cr = 0 := by
     refine Decidable.byContradiction fun hn => ?_;have : cr = 1 := by omega
     subst this;omega
    subst e4;omega
theorem fe.below {w0 w w' : World} {B b : Nat} {cur cur' : List Nat} (h : fe w w' b cur cur') (hb : Below B w0 w) (hB : B <= b) (hs : B <= w.heap.size) : Below B w0 w' :=
 hb.grown h.grown hs (fun k e => by cases e; exact hB)
theorem At {xs ys cur' cu : List Nat} {n cr : Nat} (hl : cur'.length = n + 1) (hcur : cu.length = n + 1) (hx : xs.length <= n) (hy : ys.length <= n) (okx : Ok xs) (oky : Ok ys) (okc : Ok cur') (hv : a7 cu = a7 xs)
 (he : sv cur' 0 (n + 1) + W ^ (n + 1) * cr = sv cu 0 (n + 1) + a7 ys) (hcr : cr <= 1) : a7 cur' = a7 xs + a7 ys := by
 have s1 : sv cu 0 (n + 1) = a7 xs := by rw [<- hcur, fF, hv]
 have s2 : sv cur' 0 (n + 1) = a7 cur' := by rw [<- hl, fF]
 rw [s1, s2] at he;have e2 := dP okx;have e3 := dP oky;have e4 : W ^ xs.length <= W ^ n := Nat.pow_le_pow_right bE hx;have e5 : W ^ ys.length <= W ^ n := Nat.pow_le_pow_right bE hy;have e7 : W ^ n * 2 <= W ^ (n + 1) := by rw [Nat.pow_succ]; exact Nat.mul_le_mul_left _ gH
 have h0 : cr = 0 := by
  refine Decidable.byContradiction fun hn => ?_;have h1 : cr = 1 := by omega
  rw [h1, Nat.mul_one] at he;omega
 rw [h0, Nat.mul_zero] at he;omega
theorem Bs (aoA aoB : Option Addr) (lA cA lB cB : Nat) (xs ys : List Nat) (w : World) (hA : cU w aoA xs) (hB : cU w aoB ys) (hlA : lA = xs.length) (hlB : lB = ys.length) (hmA : lA <= 17592186044416) (hmB : lB <= 17592186044416) :
 Calls Tryz.prog 126 #[.slice aoA lA cA, .slice aoB lB cB] w fun e w' => ∃ b zs, e = .returned (.slice (some ⟨b, 0, none⟩) (max lA lB + 1) (max lA lB + 1)) /\ ud w w' b zs /\ zs.length = max lA lB + 1 /\ a7 zs = a7 xs + a7 ys := by
 subst hlA hlB;go_enter Tryz.func126, Tryz.ntmps126;go_wp2_with (first
  | (at_make; refine eP rfl _ _ rfl (max xs.length ys.length + 1) (max xs.length ys.length + 1) rfl rfl (by omega) (by omega) (Nat.le_refl _) (by omega) ?_; intro b w1 hm1)
  | (with_reducible show wpList _ _ _ (⟨some 15, _, _, _, _, _⟩ :: _) _ _; refine nX rfl _ _ rfl (hA.below hm1.below) rfl hm1.row rfl rfl (by simp) ?_; intro w2 hr2 hg2; have hb2 := hm1.below.grown hg2 hm1.below.size (fun k e => by cases e; exact Nat.le_of_eq hm1.at_.symm)))
 have hge : w.heap.size <= b := Nat.le_of_eq hm1.at_.symm;have hcur : (splice (List.replicate (max xs.length ys.length + 1) 0) 0 (xs.take (max xs.length ys.length + 1))).length = max xs.length ys.length + 1 := by
  rw [length_splice _ _ _ (by simp [List.length_take]; omega)]; simp
 have hv : a7 (splice (List.replicate (max xs.length ys.length + 1) 0) 0 (xs.take (max xs.length ys.length + 1))) = a7 xs := by
  have : xs.take (max xs.length ys.length + 1) = xs := List.take_of_length_le (by omega);rw [this];simp only [splice, List.take_zero, List.nil_append, Nat.zero_add, List.drop_replicate];exact gR _ _
 have hok2 : Ok (splice (List.replicate (max xs.length ys.length + 1) 0) 0 (xs.take (max xs.length ys.length + 1))) := by
  unfold splice;exact (Ok.replicate _).take _ |>.append ((hA.ok.take _).append ((Ok.replicate _).drop _))
 obtain ⟨cu, hcu⟩ : ∃ cu, cu = splice (List.replicate (max xs.length ys.length + 1) 0) 0 (xs.take (max xs.length ys.length + 1)) := ⟨_, rfl⟩;rw [<- hcu] at hcur hv hok2 hr2;clear hcu;refine (nk _ aoB b 0 _ _ _ cB ys _ _ hr2 hok2 (.inr rfl) (by rw [hcur]; omega) (hB.below hb2) (hB.apart hge) rfl (by omega) (by rw [hcur]; omega)).mono ?_;rintro e w3 ⟨rfl, cur', cr, hR, hcr, hs, he⟩;go_wp2;go_ret;have hl : cur'.length = max xs.length ys.length + 1 := by rw [hR.len, hcur]
 refine ⟨b, cur', rfl, ⟨hR.row, hR.ok, hge, hR.below hb2 hge hb2.size⟩, hl, ?_⟩;exact At hl hcur (by omega) (by omega) hA.ok hB.ok hR.ok hv he hcr
theorem dY (x y : Nat) (hx : x < W) (hy : y < W) (w : World) :
 Calls Tryz.prog 125 #[.int .u64 (x : Int), .int .u64 (y : Int)] w fun e w' => e = .returned (.tuple #[.int .u64 ((bM x y : Nat) : Int), .int .u64 ((aL x y : Nat) : Int)]) /\ w = w' :=
 (Tryz.bits_Mul64 x y hx hy w).mono fun _ _ h => ⟨h.1, h.2.symm⟩
theorem Cg (aoA aoB : Option Addr) (b lz cz lA cA lB cB : Nat) (xs ys : List Nat) (w : World) (hrow : a6 w b 47 ((List.replicate (lA + lB) 0).map wv)) (hA : cU w aoA xs) (hB : cU w aoB ys)
 (hlA : lA = xs.length) (hlB : lB = ys.length) (hm : lA + lB <= 35184372088832) (hlz : lz = lA + lB)
 (hneA : ki aoA xs b) (hneB : ki aoB ys b) :
 Calls Tryz.prog 107 #[.slice (some ⟨b, 0, none⟩) lz cz, .slice aoA lA cA, .slice aoB lB cB] w fun e w' => e = .returned (.tuple #[]) /\ ∃ cur', fe w w' b (List.replicate (lA + lB) 0) cur' /\ a7 cur' = a7 xs * a7 ys := by
 subst hlA hlB hlz;go_enter Tryz.func107, Tryz.ntmps107;go_wp2;go_loopw [16] (fun i wr => ∃ (k : Nat) (cu : List Nat), k <= xs.length /\ i = .int .i64 k /\ fe w wr b (List.replicate (xs.length + ys.length) 0) cu /\ Hid (∀ j, k + ys.length <= j -> gw cu j = 0) /\ Hid (a7 cu = a7 (xs.take k) * a7 ys)) (fun i _ => xs.length - (intOf i).toNat)
 case atStart => exact ⟨0, _, Nat.zero_le _, rfl, ⟨hrow, Ok.replicate _, rfl, World.grownBy.refl _ _⟩, H5 (fun j _ => by simp [gw, List.getD_eq_getElem?_getD, List.getElem?_replicate]; split <;> rfl), H5 (by rw [gI]; simp [a7])⟩
 case round =>
  obtain ⟨k, cu, hk, rfl, hR, Hz, He⟩ := hrel;by_cases hlt : k < xs.length
  . obtain ⟨b1, o1, rfl, hb1, hc1⟩ := (hA.grown hR.grown hneA).pos (by omega);have e1 := hc1 k hlt;clear hc1;by_cases hx0 : gw xs k = 0
    . have t1 : (((gw xs k : Nat) : Int) == 0) = true := by rw [hx0]; rfl
      have Hx0 := H5 hx0; clear hx0;go_wp2;go_roundw
      case rel => exact ⟨k + 1, cu, by omega, by go_num, hR, H5 (fun j hj => Hz.out j (by omega)), H5 (by rw [aD, Hx0.out, Nat.mul_zero, Nat.add_zero]; exact He.out)⟩
      case measure => simp [intOf]; omega
    . have t1 : (((gw xs k : Nat) : Int) == 0) = false := by rw [beq_eq_false_iff_ne]; omega
      have Hx0 := H5 hx0; clear hx0;obtain ⟨wo, rfl⟩ : ∃ wo : World, wo = wr := ⟨_, rfl⟩;go_wp2;go_loopw [8, 25] (fun c i wr => ∃ (j cr : Nat) (cv : List Nat), j <= ys.length /\ i = .int .i64 j /\ c = .int .u64 cr /\ Hid (cr < W) /\ fe w wr b (List.replicate (xs.length + ys.length) 0) cv /\ Hid (∀ j, k + ys.length <= j -> gw cv j = 0) /\
       Hid (a7 cv + W ^ (k + j) * cr = a7 cu + W ^ k * (gw xs k * a7 (ys.take j)))) (fun _ i _ => ys.length - (intOf i).toNat)
      case atStart => exact ⟨0, 0, cu, Nat.zero_le _, rfl, rfl, H5 bE, hR, Hz, H5 (by simp [a7])⟩
      case round =>
       obtain ⟨j, cr, cv, hj, rfl, rfl, Hcr, hV, Hvz, Hve⟩ := hrel;by_cases hlt2 : j < ys.length
       . obtain ⟨b2, o2, rfl, hb2, hc2⟩ := (hB.grown hV.grown hneB).pos (by omega);have e2 := hc2 j hlt2;clear hc2;have hlen := hV.len;rw [List.length_replicate] at hlen;have hcell := hV.row.word (i := k + j) (by omega);have hfree := hV.row.free (k + j);have hbd := kx (hV.ok.gw (k + j)) (hA.ok.gw k) (hB.ok.gw j) Hcr.out;have Hlen := H5 hlen; clear hlen;have Hbd := H5 hbd; clear hbd;have q1 : ((bM (gw xs k) (gw ys j) : Nat) : Int) + ((bh (aL (gw xs k) (gw ys j)) cr 0 : Nat) : Int) <= 18446744073709551615 := by have := Hbd.out.1; unfold W at this; omega
         have q2 : ((bM (gw xs k) (gw ys j) : Nat) : Int) + ((bh (aL (gw xs k) (gw ys j)) cr 0 : Nat) : Int) + ((bh (gw cv (k + j)) (bG (aL (gw xs k) (gw ys j)) cr 0) 0 : Nat) : Int) <= 18446744073709551615 := by have := Hbd.out.2.1; unfold W at this; omega
         go_wp2_with (first
          | (go_at_call 125; refine (dY _ _ (hA.ok.gw k) (hB.ok.gw j) _).mono ?_; rintro e w' ⟨rfl, rfl⟩)
          | (with_reducible show wpList _ _ _ (⟨some 39, _, _, _, _, _⟩ :: _) _ _; refine cf rfl _ _ _ _ rfl (aL (gw xs k) (gw ys j)) cr 0 (by omega) rfl rfl rfl rfl rfl rfl ?_)
          | (with_reducible show wpList _ _ _ (⟨some 57, _, _, _, _, _⟩ :: _) _ _; refine cf rfl _ _ _ _ rfl (gw cv (k + j)) (bG (aL (gw xs k) (gw ys j)) cr 0) 0 (by omega) rfl rfl rfl rfl rfl rfl ?_))
         go_roundw
         case rel =>
          exact ⟨j + 1, _, _, by omega, by go_num, rfl, H5 Hbd.out.2.1, hV.set (k + j) _ (ft _ _ _), H5 (fun i hi => by rw [bS (by omega)]; exact Hvz.out i hi),
           H5 (x8 (by have := Hlen.out; omega) Hve.out (hV.ok.gw _) (hA.ok.gw k) (hB.ok.gw j) Hcr.out)⟩
         case measure => simp [intOf]; omega
       . have hj1 : j = ys.length := by omega
         subst hj1;have hlen := hV.len;rw [List.length_replicate] at hlen;have hcell := hV.row.word (i := k + ys.length) (by omega);have hfree := hV.row.free (k + ys.length);have Hlen := H5 hlen; clear hlen;go_wp2;go_roundw
         case rel =>
          refine ⟨k + 1, _, by omega, by go_num, hV.set (k + ys.length) cr Hcr.out, H5 (fun i hi => by rw [bS (by omega)]; exact Hvz.out i (by omega)), H5 ?_⟩;have e3 := mT (l := cv) (k := k + ys.length) (v := cr) (by have := Hlen.out; omega);rw [Hvz.out _ (Nat.le_refl _), Nat.mul_zero, Nat.add_zero] at e3;rw [e3, Hve.out, List.take_of_length_le (Nat.le_refl _), He.out, aD, Nat.add_mul, Nat.mul_assoc]
         case measure => simp [intOf]; omega
  . have hk1 : k = xs.length := by omega
    subst hk1;go_wp2
    go_end0
    refine ⟨rfl, cu, hR, ?_⟩;have := He.out
    rwa [List.take_of_length_le (Nat.le_refl _)] at this
theorem ga (l : List Nat) (k : Nat) : a7 (l.drop k) = gw l k + W * a7 (l.drop (k + 1)) := by
 by_cases hk : k < l.length
 . rw [List.drop_eq_getElem_cons hk]; simp [a7, gw, List.getD_eq_getElem?_getD, List.getElem?_eq_getElem hk]
 . rw [List.drop_eq_nil_of_le (by omega), List.drop_eq_nil_of_le (by omega)];simp [a7, gw, List.getD_eq_getElem?_getD, List.getElem?_eq_none (by omega : l.length <= k)]
theorem oX (l : List Nat) (k v : Nat) : (l.set k v).drop (k + 1) = l.drop (k + 1) := by
 apply List.ext_getElem?;intro j;simp only [List.getElem?_drop, List.getElem?_set];have : ¬ k = k + 1 + j := by omega
 simp [this]
theorem km {l : List Nat} {k v : Nat} (hk : k < l.length) : a7 ((l.set k v).drop k) = v + W * a7 (l.drop (k + 1)) := by
 rw [ga, jl hk, oX]
theorem pD {Q r y d M : Nat} (hy : 0 < y) (hM : Q = M / y) (hr : r = M % y) : kG r d y + W * Q = (d + W * M) / y /\ mZ r d y = (d + W * M) % y := by
 have h1 := Nat.div_add_mod M y;rw [<- hM, <- hr] at h1;have e : d + W * M = (r * W + d) + y * (W * Q) := by
  rw [<- h1, Nat.mul_add, Nat.mul_left_comm W y Q, Nat.mul_comm W r]; omega
 unfold kG mZ;rw [e, Nat.add_mul_div_left _ _ hy, Nat.add_mul_mod_self_left];exact ⟨rfl, rfl⟩
theorem a6.nI {w w' : World} {b : Nat} {t : TypeId} {cs : List Value} (h : a6 w b t cs) (hg : w.grownBy w' none) : a6 w' b t cs := by
 unfold a6; rw [hg.block b h.lt (fun e => by cases e)]; exact h
theorem Below.nI {B : Nat} {w0 w w' : World} (h : Below B w0 w) (hg : w.grownBy w' none) (hB : B <= w.heap.size) : Below B w0 w' := h.grown hg hB (fun k e => by cases e)
theorem CO (ao : Option Addr) (len cap : Nat) (ws : List Nat) (y : Nat) (w : World) (hA : cU w ao ws) (hl : len = ws.length) (hm : len <= 17592186044416) (hy0 : y ≠ 0) (hy : y < W) :
 Calls Tryz.prog 121 #[.slice ao len cap, .int .u64 (y : Int)] w fun e w' =>
  (∃ ao' cap', e = .returned (.tuple #[.slice ao' (aa (a7 ws / y)) cap', .int .u64 ((a7 ws % y : Nat) : Int), .int .i64 0]) /\ ct w' w.heap.size ao' (aa (a7 ws / y)) cap' (ew (a7 ws / y))) /\ Below w.heap.size w w' := by
 subst hl;have t0 : (((y : Nat) : Int) == 0) = false := by rw [beq_eq_false_iff_ne]; omega
 have hwl := ep hA.ok;have Hy := H5 hy; clear hy;go_enter Tryz.func121, Tryz.ntmps121;go_wp2_with (go_at_call 35; refine (vC _ _ _ ws _ hA rfl hm).mono ?_; rintro e w1 ⟨b, rfl, hN⟩)
 generalize hD : ew (a7 ws) = D at *;have hDl : aa (a7 ws) = D.length := by rw [<- hD]; rfl
 have hDv : a7 D = a7 ws := by rw [<- hD, cM]
 have HD := H5 hD; clear hD;have HDv := H5 hDv; clear hDv;generalize aa (a7 ws) = n at *;have HDl := H5 hDl; clear hDl;go_loopw [8, 9] (fun r i wr => ∃ (k rest : Nat) (cu : List Nat), k <= n /\ i = .int .i64 ((k : Int) - 1) /\ r = .int .u64 (rest : Int) /\ a6 wr b 47 (cu.map wv) /\ Ok cu /\ Hid (cu.length = n) /\ Below w.heap.size w wr /\
  Hid (∀ j, j < k -> gw cu j = gw D j) /\ Hid (a7 (cu.drop k) = a7 (D.drop k) / y) /\ Hid (rest = a7 (D.drop k) % y)) (fun _ i _ => (intOf i + 1).toNat)
 case atStart => exact ⟨n, 0, D, Nat.le_refl _, rfl, rfl, hN.row, hN.ok, HDl.out.symm, hN.below, H5 (fun _ _ => rfl),
  H5 (by rw [List.drop_eq_nil_of_le (by have := HDl.out; omega)]; simp [a7]), H5 (by rw [List.drop_eq_nil_of_le (by have := HDl.out; omega)]; simp [a7])⟩
 case round =>
  obtain ⟨k, rest, cu, hk, rfl, rfl, hrow, hok, Hlen, hb, Hs, Hq, Hr⟩ := hrel;by_cases h0 : 0 < k
  . have hcell := hrow.word (i := k - 1) (by have := Hlen.out; omega);have hyp : 0 < y := by omega
    have hrl : rest < y := by rw [Hr.out]; exact Nat.mod_lt _ hyp
    have Hrl := H5 hrl; clear hrl;go_wp2_with (go_at_call 142; refine (zO rest (gw cu (k - 1)) y _ Hrl.out (hok.gw _) Hy.out).mono ?_; rintro e w3 ⟨rfl, hg3⟩; have hc3 := (hrow.nI hg3).word (i := k - 1) (by have := Hlen.out; omega); have hf3 := (hrow.nI hg3).free (k - 1))
    go_roundw
    case rel =>
     have hlt : k - 1 < cu.length := by have := Hlen.out; omega
     have hkk : k - 1 + 1 = k := by omega
     have hst := pD (d := gw D (k - 1)) hyp Hq.out Hr.out;have hd2 : kG rest (gw cu (k - 1)) y < W := by
      unfold kG;rw [Nat.div_lt_iff_lt_mul hyp];have h1 : (rest + 1) * W <= y * W := Nat.mul_le_mul_right _ Hrl.out;have h2 := hok.gw (k - 1);rw [Nat.add_mul, Nat.one_mul] at h1;rw [Nat.mul_comm W y]; omega
     refine ⟨k - 1, _, _, by omega, by go_num, rfl, (hrow.nI hg3).dp (k - 1) _, hok.set _ _ hd2, H5 (by rw [List.length_set]; exact Hlen.out), (Below.nI hb hg3 hb.size).setCell hN.ge _,
      H5 (fun j hj => by rw [bS (by omega)]; exact Hs.out j (by omega)), H5 ?_, H5 ?_⟩
     . rw [km hlt, hkk, Hs.out _ (by omega), hst.1, ga D (k - 1), hkk]
     . rw [Hs.out _ (by omega), hst.2, ga D (k - 1), hkk]
    case measure => simp [intOf]; omega
  . have hk0 : k = 0 := by omega
    subst hk0;have hv : a7 cu = a7 ws / y := by have := Hq.out; rw [List.drop_zero, List.drop_zero, HDv.out] at this; exact this
    have hr : rest = a7 ws % y := by have := Hr.out; rw [List.drop_zero, HDv.out] at this; exact this
    have Hv := H5 hv; clear hv;have Hr2 := H5 hr; clear hr;have hnb : n <= 17592186044416 := by omega
    go_wp2_with (go_at_call 35; refine (eC _ _ _ cu _ (hrow.j3 hok) Hlen.out.symm hnb).mono ?_; rintro e w4 ⟨⟨ao', cap', rfl, h1⟩, h2⟩)
    go_ret3;rw [Hv.out] at h1 |-;refine ⟨⟨ao', cap', ?_, h1.mono hb.size⟩, hb.trans (h2.mono hb.size)⟩;rw [<- Hr2.out]; rfl
theorem AM {x s c : Nat} (hx : x < W) (hs : s < 64) (hc : c < 2 ^ s) :
 vT (ea x s) c + W * (x * 2 ^ s / W) = x * 2 ^ s + c /\ vT (ea x s) c < W /\ x * 2 ^ s / W < 2 ^ s /\ (0 < s -> ik x (64 - s) = x * 2 ^ s / W) /\ (s = 0 -> x * 2 ^ s / W = 0) := by
 have hw : W = 2 ^ (64 - s) * 2 ^ s := jP (by omega);have hp : 0 < 2 ^ s := Nat.pow_pos (by omega);have e1 : ea x s = 2 ^ s * (x % 2 ^ (64 - s)) := by
  unfold ea; rw [hw, Nat.mul_mod_mul_right, Nat.mul_comm]
 have e2 : x * 2 ^ s / W = x / 2 ^ (64 - s) := by rw [hw, Nat.mul_div_mul_right _ _ hp]
 have e3 : vT (ea x s) c = ea x s + c := by
  unfold vT; rw [e1, Nat.or_comm, pT hc, Nat.add_comm]
 have h4 : x / 2 ^ (64 - s) < 2 ^ s := by
  rw [Nat.div_lt_iff_lt_mul (Nat.pow_pos (by omega)), Nat.mul_comm, <- hw]; exact hx
 refine ⟨?_, ?_, by rw [e2]; exact h4, fun _ => by unfold ik; exact e2.symm, ?_⟩
 . rw [e3];have := Nat.mod_add_div (x * 2 ^ s) W;unfold ea; omega
 . rw [e3, e1];have h5 : x % 2 ^ (64 - s) + 1 <= 2 ^ (64 - s) := Nat.mod_lt _ (Nat.pow_pos (by omega));have h6 := Nat.mul_le_mul_left (2 ^ s) h5;rw [Nat.mul_add, Nat.mul_comm (2 ^ s) (2 ^ (64 - s)), <- hw] at h6;omega
 . rintro rfl;rw [Nat.pow_zero, Nat.mul_one]; exact Nat.div_eq_of_lt hx
theorem ni {ls ws : List Nat} {k c s v d : Nat} (hk : k < ls.length) (h : a7 (ls.take k) + W ^ k * c = 2 ^ s * a7 (ws.take k)) (hv : v + W * d = gw ws k * 2 ^ s + c) :
 a7 ((ls.set k v).take (k + 1)) + W ^ (k + 1) * d = 2 ^ s * a7 (ws.take (k + 1)) := by
 rw [dU hk, aD, Nat.mul_add, <- h, Nat.pow_succ];have : W ^ k * (v + W * d) = W ^ k * (gw ws k * 2 ^ s + c) := by rw [hv]
 rw [Nat.mul_add, Nat.mul_add, <- Nat.mul_assoc] at this;have e : 2 ^ s * (W ^ k * gw ws k) = W ^ k * (gw ws k * 2 ^ s) := by rw [Nat.mul_left_comm, Nat.mul_comm (2 ^ s)]
 omega
theorem qq (ao : Option Addr) (len cap : Nat) (ws : List Nat) (s n : Nat) (w : World) (hA : cU w ao ws) (hl : len = ws.length) (hm : len <= 17592186044416) (hs : s < 64) (hn : n <= 17592186044417) (hln : len <= n) (hfit : 2 ^ s * a7 ws < W ^ n) :
 Calls Tryz.prog 144 #[.slice ao len cap, .int .u64 (s : Int), .int .i64 (n : Int)] w fun e w' =>
  ∃ (b : Nat) (zs : List Nat), e = .returned (.slice (some ⟨b, 0, none⟩) n n) /\ ud w w' b zs /\ zs.length = n /\ a7 zs = 2 ^ s * a7 ws := by
 subst hl;have hs' : (s : Int) < 64 := by omega
 have Hfit := H5 hfit; clear hfit;go_enter Tryz.func144, Tryz.ntmps144;go_wp2_with (at_make; refine eP rfl _ _ rfl n n rfl rfl rfl rfl (Nat.le_refl _) (by omega) ?_; intro b w1 hm1)
 have hB1 : w.heap.size <= b := Nat.le_of_eq hm1.at_.symm;go_loopw [8, 15] (fun c i wr => ∃ (k cr : Nat) (ls : List Nat), k <= n /\ i = .int .i64 k /\ c = .int .u64 cr /\ cr < W /\ Hid (cr < 2 ^ s) /\ Hid (ls.length = n) /\ Ok ls /\ a6 wr b 47 (ls.map wv) /\ Below w.heap.size w wr /\
  Hid (a7 (ls.take k) + W ^ k * cr = 2 ^ s * a7 (ws.take k))) (fun _ i _ => n - (intOf i).toNat)
 case atStart => exact ⟨0, 0, _, Nat.zero_le _, rfl, rfl, bE, H5 (Nat.pow_pos (by omega)), H5 (by simp), Ok.replicate _, hm1.row, hm1.below, H5 (by simp [a7])⟩
 case round =>
  obtain ⟨k, cr, ls, hk, rfl, rfl, hcW, Hcr, Hll, hok, hrow, hbl, Heq⟩ := hrel;by_cases hlt : k < n
  . have hcell := hrow.word (i := k) (by have := Hll.out; omega);have hfree := hrow.free k;have hst := AM (hA.ok.gw k) hs Hcr.out;have hvW := hst.2.1;have hdW : gw ws k * 2 ^ s / W < W := Nat.lt_of_lt_of_le hst.2.2.1 (by rw [xj]; exact Nat.pow_le_pow_right (by omega) (by omega));have Hst := H5 hst; clear hst;have hxW := hA.ok.gw k;have hshW : ea (gw ws k) s < W := jG _;have hk' : k < ls.length := by have := Hll.out; omega
    have Hk' := H5 hk'; clear hk';by_cases hlw : k < ws.length
    . obtain ⟨b1, o1, rfl, hb1, hc1⟩ := (hA.below hbl).pos (by omega);have e1 := hc1 k hlw;clear hc1;have t1 : decide ((k : Int) < (ws.length : Int)) = true := by simp; omega
      by_cases h0 : 0 < s
      . have t2 : decide ((0 : Int) < (s : Int)) = true := by simp; omega
        have He4 := H5 (Hst.out.2.2.2.1 h0);go_wp2_with (first
         | (with_reducible show wpList _ _ _ (⟨some 30, _, _, _, _, _⟩ :: _) _ _; refine oi rfl _ _ rfl (gw ws k) s (by omega) rfl rfl rfl rfl ?_)
         | (with_reducible show wpList _ _ _ (⟨some 32, _, _, _, _, _⟩ :: _) _ _; refine tC rfl _ _ rfl (ea (gw ws k) s) cr hshW hcW rfl rfl rfl rfl ?_)
         | (with_reducible show wpList _ _ _ (⟨some 39, _, _, _, _, _⟩ :: _) _ _; refine o3 rfl _ _ rfl (gw ws k) (64 - s) hxW (by omega) rfl rfl rfl (by omega) ?_; rw [He4.out]))
        go_roundw
        case rel =>
         exact ⟨k + 1, _, _, by omega, by go_num, rfl, hdW, H5 Hst.out.2.2.1, H5 (by rw [List.length_set]; exact Hll.out), hok.set _ _ hvW, hrow.dp k _, hbl.setCell hB1 _, H5 (ni Hk'.out Heq.out Hst.out.1)⟩
        case measure => simp [intOf]; omega
      . have t2 : decide ((0 : Int) < (s : Int)) = false := by simp; omega
        have He4 := H5 (Hst.out.2.2.2.2 (by omega));go_wp2_with (first
         | (with_reducible show wpList _ _ _ (⟨some 30, _, _, _, _, _⟩ :: _) _ _; refine oi rfl _ _ rfl (gw ws k) s (by omega) rfl rfl rfl rfl ?_)
         | (with_reducible show wpList _ _ _ (⟨some 32, _, _, _, _, _⟩ :: _) _ _; refine tC rfl _ _ rfl (ea (gw ws k) s) cr hshW hcW rfl rfl rfl rfl ?_))
        go_roundw
        case rel =>
         exact ⟨k + 1, 0, _, by omega, by go_num, rfl, bE, H5 (Nat.pow_pos (by omega)), H5 (by rw [List.length_set]; exact Hll.out), hok.set _ _ hvW, hrow.dp k _, hbl.setCell hB1 _, H5 (ni Hk'.out Heq.out (by have := Hst.out.1; rw [He4.out] at this; exact this))⟩
        case measure => simp [intOf]; omega
    . have t1 : decide ((k : Int) < (ws.length : Int)) = false := by simp; omega
      have hz : gw ws k = 0 := j7 (by have := aH ws; omega);have Hz := H5 hz; clear hz;have hor : vT 0 cr = cr := by simp [vT]
      have Hor := H5 hor; clear hor;by_cases h0 : 0 < s
      . have t2 : decide ((0 : Int) < (s : Int)) = true := by simp; omega
        go_wp2_with ((with_reducible show wpList _ _ _ (⟨some 32, _, _, _, _, _⟩ :: _) _ _; refine tC rfl _ _ rfl 0 cr bE hcW rfl rfl rfl rfl ?_; rw [Hor.out]))
        go_roundw
        case rel =>
         exact ⟨k + 1, 0, _, by omega, by go_num, rfl, bE, H5 (Nat.pow_pos (by omega)), H5 (by rw [List.length_set]; exact Hll.out), hok.set _ _ hcW, hrow.dp k _, hbl.setCell hB1 _, H5 (ni Hk'.out Heq.out (by rw [Hz.out]; omega))⟩
        case measure => simp [intOf]; omega
      . have t2 : decide ((0 : Int) < (s : Int)) = false := by simp; omega
        go_wp2_with ((with_reducible show wpList _ _ _ (⟨some 32, _, _, _, _, _⟩ :: _) _ _; refine tC rfl _ _ rfl 0 cr bE hcW rfl rfl rfl rfl ?_; rw [Hor.out]))
        go_roundw
        case rel =>
         exact ⟨k + 1, 0, _, by omega, by go_num, rfl, bE, H5 (Nat.pow_pos (by omega)), H5 (by rw [List.length_set]; exact Hll.out), hok.set _ _ hcW, hrow.dp k _, hbl.setCell hB1 _, H5 (ni Hk'.out Heq.out (by rw [Hz.out]; omega))⟩
        case measure => simp [intOf]; omega
  . have hk0 : k = n := by omega
    subst hk0;go_wp2;go_ret;refine ⟨b, ls, rfl, ⟨hrow, hok, hB1, hbl⟩, Hll.out, ?_⟩;have e := Heq.out;rw [List.take_of_length_le (by have := Hll.out; omega), List.take_of_length_le (by omega)] at e;have hz : cr = 0 := by
     refine Decidable.byContradiction fun hne => ?_;have h1 : W ^ k * 1 <= W ^ k * cr := Nat.mul_le_mul_left _ (by omega);have h2 := Hfit.out;rw [<- e] at h2;omega
    subst hz;rw [Nat.mul_zero, Nat.add_zero] at e;exact e
theorem qe {d x c : Nat} (hd : d < W) (hx : x < W) (hc : c < W) : bM d x + bh (aL d x) c 0 < W /\ bG (aL d x) c 0 + W * (bM d x + bh (aL d x) c 0) = d * x + c := by
 have h := kx (g := 0) bE hd hx hc;have e1 := mul_eq d x;have e2 := add_eq (aL d x) c 0;refine ⟨h.1, ?_⟩;rw [Nat.mul_add]; omega
theorem wG {cu cur ys : List Nat} {o k c l d P : Nat} (hlt : o + k < cu.length) (he : sv cu o k + d * a7 (ys.take k) = sv cur o k + W ^ k * (c + l)) (hg : gw cu (o + k) = gw cur (o + k))
 (hx : gw cu (o + k) < W) (hd : d < W) (hy : gw ys k < W) (hc : c < W) (hl : l <= 1) (hP : P = bG (aL d (gw ys k)) c 0) :
 sv (cu.set (o + k) (ei (gw cu (o + k)) P l)) o (k + 1) + d * a7 (ys.take (k + 1)) =
  sv cur o (k + 1) + W ^ (k + 1) * ((bM d (gw ys k) + bh (aL d (gw ys k)) c 0) + uP (gw cu (o + k)) P l) := by
 have hPW : P < W := by rw [hP]; exact ft _ _ _
 have e := sub_eq hx hPW hl;have e2 := (qe hd hy hc).2;rw [<- hP] at e2;rw [gQ hlt, cT cur, <- hg, aD, Nat.pow_succ, Nat.mul_add d];generalize bM d (gw ys k) + bh (aL d (gw ys k)) c 0 = C at *;generalize ei (gw cu (o + k)) P l = S at *;generalize uP (gw cu (o + k)) P l = L at *;have f1 : W ^ k * (S + P + l) = W ^ k * (gw cu (o + k) + W * L) := by rw [e]
 have f2 : W ^ k * (P + W * C) = W ^ k * (d * gw ys k + c) := by rw [e2]
 rw [Nat.mul_add, Nat.mul_add, Nat.mul_add] at f1;rw [Nat.mul_add, Nat.mul_add] at f2;have f3 : d * (W ^ k * gw ys k) = W ^ k * (d * gw ys k) := Nat.mul_left_comm ..;have f4 : W ^ k * W * (C + L) = W ^ k * (W * C) + W ^ k * (W * L) := by rw [Nat.mul_assoc, Nat.mul_add, Nat.mul_add]
 rw [Nat.mul_add] at he;rw [f3, f4];omega
theorem wY {cu cur : List Nat} {o k c l M : Nat} (hlt : o + k < cu.length) (he : sv cu o k + M = sv cur o k + W ^ k * (c + l)) (hg : gw cu (o + k) = gw cur (o + k))
 (hx : gw cu (o + k) < W) (hc : c < W) (hl : l <= 1) :
 sv (cu.set (o + k) (ei (gw cu (o + k)) c l)) o (k + 1) + M = sv cur o (k + 1) + W ^ (k + 1) * uP (gw cu (o + k)) c l := by
 have e := sub_eq hx hc hl;rw [gQ hlt, cT cur, <- hg, Nat.pow_succ];generalize ei (gw cu (o + k)) c l = S at *;generalize uP (gw cu (o + k)) c l = L at *;have f1 : W ^ k * (S + c + l) = W ^ k * (gw cu (o + k) + W * L) := by rw [e]
 rw [Nat.mul_add, Nat.mul_add, Nat.mul_add] at f1;rw [Nat.mul_add] at he;rw [Nat.mul_assoc];omega
theorem Cj (ao : Option Addr) (b o lz cz len cap : Nat) (ws cur : List Nat) (d : Nat) (w : World) (hrow : a6 w b 47 (cur.map wv)) (hok : Ok cur) (hlz : lz = len + 1) (hfit : o + lz <= cur.length)
 (hA : cU w ao ws) (hne : ki ao ws b) (hl : len = ws.length) (hm : cur.length <= 35184372088832) (hd : d < W) :
 Calls Tryz.prog 146 #[.slice (some ⟨b, o, none⟩) lz cz, .slice ao len cap, .int .u64 (d : Int)] w fun e w' => ∃ (cur' : List Nat) (lent : Nat), e = .returned (.bool (((lent : Nat) : Int) != 0)) /\ fe w w' b cur cur' /\ lent <= 1 /\
  (∀ j, j < o \/ o + lz <= j -> gw cur' j = gw cur j) /\ sv cur' o lz + d * a7 ws = sv cur o lz + W ^ lz * lent := by
 subst hl hlz;go_enter Tryz.func146, Tryz.ntmps146;go_wp2;go_loopw [7, 8, 16] (fun c l i wr => ∃ (k cr lt : Nat) (cu : List Nat), k <= ws.length /\ i = .int .i64 k /\ c = .int .u64 cr /\ l = .int .u64 lt /\ Hid (cr < W) /\ lt <= 1 /\ fe w wr b cur cu /\ Hid (∀ j, j < o \/ o + k <= j -> gw cu j = gw cur j) /\
  Hid (sv cu o k + d * a7 (ws.take k) = sv cur o k + W ^ k * (cr + lt))) (fun _ _ i _ => ws.length - (intOf i).toNat)
 case atStart => exact ⟨0, 0, 0, cur, Nat.zero_le _, rfl, rfl, rfl, H5 bE, by omega, ⟨hrow, hok, rfl, World.grownBy.refl _ _⟩, H5 (fun _ _ => rfl), H5 (by simp [iU, a7])⟩
 case round =>
  obtain ⟨k, cr, lt, cu, hk, rfl, rfl, rfl, Hcr, hlt1, hR, Hs, He⟩ := hrel;have hlen := hR.len;have hcell := hR.row.word (i := o + k) (by omega);have hfree := hR.row.free (o + k);have Hlen := H5 hlen; clear hlen;by_cases hlt : k < ws.length
  . obtain ⟨b1, o1, rfl, hb1, hc1⟩ := (hA.grown hR.grown hne).pos (by omega);have e1 := hc1 k hlt;clear hc1;have hbd := qe hd (hA.ok.gw k) Hcr.out;have Hbd := H5 hbd.1; clear hbd;have q1 : ((bM d (gw ws k) : Nat) : Int) + ((bh (aL d (gw ws k)) cr 0 : Nat) : Int) <= 18446744073709551615 := by have := Hbd.out; unfold W at this; omega
    go_wp2_with (first
     | (go_at_call 125; refine (dY _ _ hd (hA.ok.gw k) _).mono ?_; rintro e w' ⟨rfl, rfl⟩)
     | (with_reducible show wpList _ _ _ (⟨some 31, _, _, _, _, _⟩ :: _) _ _; refine cf rfl _ _ _ _ rfl (aL d (gw ws k)) cr 0 (by omega) rfl rfl rfl rfl rfl rfl ?_)
     | (with_reducible show wpList _ _ _ (⟨some 46, _, _, _, _, _⟩ :: _) _ _; refine iI rfl _ _ _ _ rfl (gw cu (o + k)) (bG (aL d (gw ws k)) cr 0) lt hlt1 rfl rfl rfl rfl rfl rfl ?_))
    go_roundw
    case rel =>
     exact ⟨k + 1, _, _, _, by omega, by go_num, rfl, rfl, H5 Hbd.out, mh _ _ _, hR.set (o + k) _ (iB _ _ _),
      H5 (fun j hj => by rw [bS (by omega)]; exact Hs.out j (by omega)),
      H5 (wG (by have := Hlen.out; omega) He.out (Hs.out _ (by omega)) (hR.ok.gw _) hd (hA.ok.gw k) Hcr.out hlt1 rfl)⟩
    case measure => simp [intOf]; omega
  . have hk1 : k = ws.length := by omega
    subst hk1;go_wp2_with (with_reducible show wpList _ _ _ (⟨some 62, _, _, _, _, _⟩ :: _) _ _; refine iI rfl _ _ _ _ rfl (gw cu (o + ws.length)) cr lt hlt1 rfl rfl rfl rfl rfl rfl ?_)
    go_ret;refine ⟨_, _, rfl, hR.set (o + ws.length) _ (iB _ _ _), mh _ _ _, fun j hj => by rw [bS (by omega)]; exact Hs.out j (by omega), ?_⟩;have := wY (by have := Hlen.out; omega) He.out (Hs.out _ (by omega)) (hR.ok.gw _) Hcr.out hlt1
    rwa [List.take_of_length_le (Nat.le_refl _)] at this
theorem CX (ao : Option Addr) (b o lz cz len cap : Nat) (ws cur : List Nat) (w : World) (hrow : a6 w b 47 (cur.map wv)) (hok : Ok cur) (hlz : lz = len + 1) (hfit : o + lz <= cur.length)
 (hA : cU w ao ws) (hne : ki ao ws b) (hl : len = ws.length) (hm : cur.length <= 35184372088832) :
 Calls Tryz.prog 147 #[.slice (some ⟨b, o, none⟩) lz cz, .slice ao len cap] w fun e w' => e = .returned (.tuple #[]) /\ ∃ (cur' : List Nat) (cr : Nat), fe w w' b cur cur' /\
  (∀ j, j < o \/ o + lz <= j -> gw cur' j = gw cur j) /\ sv cur' o lz + W ^ lz * cr = sv cur o lz + a7 ws := by
 subst hl hlz;go_enter Tryz.func147, Tryz.ntmps147;go_wp2;go_loopw [4, 8] (fun c i wr => ∃ (k cr : Nat) (cu : List Nat), k <= ws.length /\ i = .int .i64 k /\ c = .int .u64 cr /\ cr <= 1 /\ fe w wr b cur cu /\ Hid (∀ j, j < o \/ o + k <= j -> gw cu j = gw cur j) /\
  Hid (sv cu o k + W ^ k * cr = sv cur o k + a7 (ws.take k))) (fun _ i _ => ws.length - (intOf i).toNat)
 case atStart => exact ⟨0, 0, cur, Nat.zero_le _, rfl, rfl, by omega, ⟨hrow, hok, rfl, World.grownBy.refl _ _⟩, H5 (fun _ _ => rfl), H5 (by simp [iU, a7])⟩
 case round =>
  obtain ⟨k, cr, cu, hk, rfl, rfl, hcr, hR, Hs, He⟩ := hrel;have hlen := hR.len;have hcell := hR.row.word (i := o + k) (by omega);have hfree := hR.row.free (o + k);have Hlen := H5 hlen; clear hlen;by_cases hlt : k < ws.length
  . obtain ⟨b1, o1, rfl, hb1, hc1⟩ := (hA.grown hR.grown hne).pos (by omega);have e1 := hc1 k hlt;clear hc1;have hadd := qV (gw cu (o + k)) (gw ws k) cr hcr;have i1 : (k : Int) < (ws.length : Int) + 1 := by omega
    have i2 : (k : Int) < (ws.length : Int) := by omega
    go_wp2
    go_region
    go_wp2;go_roundw
    case rel =>
     exact ⟨k + 1, _, _, by omega, by go_num, rfl, ju (hR.ok.gw _) (hA.ok.gw k) hcr, (hR.set (o + k) _ (ft _ _ _)).drew,
      H5 (fun j hj => by rw [bS (by omega)]; exact Hs.out j (by omega)),
      H5 (iX (ws := ws) (by have := Hlen.out; omega) He.out (Hs.out _ (by omega)) (aD ws k))⟩
    case measure => simp [intOf]; omega
  . have hk1 : k = ws.length := by omega
    subst hk1;have hcW : cr < W := Nat.lt_of_le_of_lt hcr (by unfold W; omega);go_wp2_with (with_reducible show wpList _ _ _ (⟨some 34, _, _, _, _, _⟩ :: _) _ _; refine qL rfl _ _ rfl (gw cu (o + ws.length)) cr rfl rfl rfl rfl ?_)
    go_end0
    refine ⟨rfl, _, bh (gw cu (o + ws.length)) cr 0, hR.set (o + ws.length) _ (ft _ _ _), fun j hj => by rw [bS (by omega)]; exact Hs.out j (by omega), ?_⟩;have e := He.out;rw [List.take_of_length_le (Nat.le_refl _)] at e;have := iX (ws := ws) (o := o) (k := ws.length) (cr := cr) (y := 0) (by have := Hlen.out; omega) e (Hs.out _ (by omega)) (M := a7 ws) (by omega);have e2 : bG (gw cu (o + ws.length)) cr 0 = bG (gw cu (o + ws.length)) 0 cr := by unfold bG; rw [Nat.add_zero]; rfl
    have e3 : bh (gw cu (o + ws.length)) cr 0 = bh (gw cu (o + ws.length)) 0 cr := by unfold bh; rw [Nat.add_zero]; rfl
    rw [e2, e3];exact this
def gq (u2 u1 u0 v1 v0 : Nat) : Nat := min (W - 1) (((u2 * W + u1) * W + u0) / (v1 * W + v0))
structure jJ (u2 u1 u0 v1 v0 d rest : Nat) : Prop where
 eq : d * v1 + rest = u2 * W + u1
 le : gq u2 u1 u0 v1 v0 <= d
 lt : d < W
 rl : rest < W
theorem kL {u2 u1 u0 v1 v0 d rest : Nat} (hv : 0 < v1) (heq : d * v1 + rest = u2 * W + u1) (hle : gq u2 u1 u0 v1 v0 <= d) (hlt : d < W) (hc : d * v0 <= rest * W + u0) : d = gq u2 u1 u0 v1 v0 := by
 apply Nat.le_antisymm _ hle;unfold gq;refine Nat.le_min.2 ⟨by omega, ?_⟩;have hV : 0 < v1 * W + v0 := by have := Nat.mul_pos hv bE; omega
 rw [Nat.le_div_iff_mul_le hV, <- heq, Nat.mul_add, Nat.add_mul, Nat.mul_assoc];omega
theorem jJ.stop {u2 u1 u0 v1 v0 d rest : Nat} (h : jJ u2 u1 u0 v1 v0 d rest) (hv : 0 < v1) (hc : d * v0 <= rest * W + u0) : d = gq u2 u1 u0 v1 v0 := kL hv h.eq h.le h.lt hc
theorem nS {d v0 rest u0 : Nat} (hu : u0 < W) : (bM d v0 < rest \/ (bM d v0 = rest /\ aL d v0 <= u0)) ↔ d * v0 <= rest * W + u0 := by
 have e := mul_eq d v0;have h1 := jE d v0;rw [<- e, Nat.mul_comm rest W];generalize bM d v0 = hi at *;generalize aL d v0 = lo at *;constructor
 . rintro (h | ⟨h, h2⟩)
   . have : W * (hi + 1) <= W * rest := Nat.mul_le_mul_left _ h;rw [Nat.mul_add] at this; omega
   . subst h; omega
 . intro h;rcases Nat.lt_trichotomy hi rest with h2 | h2 | h2
   . exact .inl h2
   . exact .inr ⟨h2, by subst h2; omega⟩
   . have : W * (rest + 1) <= W * hi := Nat.mul_le_mul_left _ h2;rw [Nat.mul_add] at this; omega
theorem jJ.more {u2 u1 u0 v1 v0 d rest : Nat} (h : jJ u2 u1 u0 v1 v0 d rest) (hv : 0 < v1) (hc : rest * W + u0 < d * v0) : 1 <= d /\ gq u2 u1 u0 v1 v0 <= d - 1 /\ (d - 1) * v1 + (rest + v1) = u2 * W + u1 := by
 have hd : 1 <= d := by
  refine Decidable.byContradiction fun hn => ?_;have : d = 0 := by omega
  subst this; omega
 refine ⟨hd, ?_, ?_⟩
 . have hV : 0 < v1 * W + v0 := by have := Nat.mul_pos hv bE; omega
   have : ((u2 * W + u1) * W + u0) / (v1 * W + v0) < d := by
    rw [Nat.div_lt_iff_lt_mul hV, <- h.eq, Nat.mul_add, Nat.add_mul, Nat.mul_assoc];omega
   unfold gq;have := Nat.min_le_right (W - 1) (((u2 * W + u1) * W + u0) / (v1 * W + v0));omega
 . obtain ⟨k, rfl⟩ : ∃ k, d = k + 1 := ⟨d - 1, by omega⟩;have := h.eq;rw [Nat.add_mul] at this;rw [Nat.add_sub_cancel]; omega
theorem vp {a b : Nat} (h : bh a b 0 ≠ 0) : W <= a + b := by
 refine Decidable.byContradiction fun hn => h ?_;unfold bh; exact Nat.div_eq_of_lt (by omega)
theorem vk {a b : Nat} (h : bh a b 0 = 0) : bG a b 0 = a + b /\ a + b < W := by
 have h1 := add_eq a b 0;have h2 := ft a b 0;rw [h] at h1; omega
theorem td {d v0 r u0 : Nat} (hd : d < W) (h0 : v0 < W) (hr : W <= r) : d * v0 <= r * W + u0 := by
 have h1 : d * v0 <= W * W := Nat.mul_le_mul (Nat.le_of_lt hd) (Nat.le_of_lt h0);have h2 : W * W <= r * W := Nat.mul_le_mul_right _ hr;omega
theorem jJ.over {u2 u1 u0 v1 v0 d rest : Nat} (h : jJ u2 u1 u0 v1 v0 d rest) (hv : 0 < v1) (h0 : v0 < W) (hc : rest * W + u0 < d * v0) (ho : bh rest v1 0 ≠ 0) : d - 1 = gq u2 u1 u0 v1 v0 := by
 obtain ⟨h1, h2, h3⟩ := h.more hv hc;have := h.lt;exact kL hv h3 h2 (by omega) (td (by omega) h0 (vp ho))
theorem jJ.next {u2 u1 u0 v1 v0 d rest : Nat} (h : jJ u2 u1 u0 v1 v0 d rest) (hv : 0 < v1) (hc : rest * W + u0 < d * v0) (ho : bh rest v1 0 = 0) : jJ u2 u1 u0 v1 v0 (d - 1) (bG rest v1 0) := by
 obtain ⟨h1, h2, h3⟩ := h.more hv hc;obtain ⟨h4, h5⟩ := vk ho;have := h.lt;exact ⟨by rw [h4]; exact h3, h2, by omega, by omega⟩
theorem pW {u1 v1 : Nat} : (W - 1) * v1 + (u1 + v1) = v1 * W + u1 := by
 obtain ⟨k, hk⟩ : ∃ k, W = k + 1 := ⟨W - 1, by have := bE; omega⟩;rw [hk, Nat.add_sub_cancel, Nat.mul_add, Nat.mul_comm k v1]; omega
theorem tO {u1 u0 v1 v0 : Nat} (hv : 0 < v1) (h0 : v0 < W) (ho : bh u1 v1 0 ≠ 0) : W - 1 = gq v1 u1 u0 v1 v0 :=
 kL hv pW (Nat.min_le_left ..) (by have := bE; omega) (td (by have := bE; omega) h0 (vp ho))
theorem jJ.BS {u1 u0 v1 v0 : Nat} (ho : bh u1 v1 0 = 0) : jJ v1 u1 u0 v1 v0 (W - 1) (bG u1 v1 0) := by
 obtain ⟨h4, h5⟩ := vk ho;exact ⟨by rw [h4]; exact pW, Nat.min_le_left .., by have := bE; omega, by omega⟩
theorem jJ.Ck {u2 u1 u0 v1 v0 : Nat} (hu : u2 < v1) (h1 : u1 < W) (h0 : u0 < W) (hv1 : v1 < W) : jJ u2 u1 u0 v1 v0 (kG u2 u1 v1) (mZ u2 u1 v1) := by
 have hv : 0 < v1 := by omega
 have e : kG u2 u1 v1 * v1 + mZ u2 u1 v1 = u2 * W + u1 := by unfold kG mZ; rw [Nat.mul_comm]; exact Nat.div_add_mod ..
 have hr : mZ u2 u1 v1 < v1 := Nat.mod_lt _ hv;refine ⟨e, ?_, ?_, by omega⟩
 . refine Nat.le_trans (Nat.min_le_right ..) ?_;have hV : 0 < v1 * W + v0 := by have := Nat.mul_pos hv bE; omega
   apply Nat.le_of_lt_succ;rw [Nat.div_lt_iff_lt_mul hV];generalize kG u2 u1 v1 = d at *;have f1 : u2 * W + u1 + 1 <= (d + 1) * v1 := by rw [Nat.add_mul]; omega
   have f2 := Nat.mul_le_mul_right W f1;rw [Nat.add_mul (u2 * W + u1), Nat.one_mul, Nat.mul_assoc] at f2;rw [Nat.succ_eq_add_one, Nat.mul_add];omega
 . unfold kG;rw [Nat.div_lt_iff_lt_mul hv];have f1 : (u2 + 1) * W <= v1 * W := Nat.mul_le_mul_right _ hu;rw [Nat.add_mul, Nat.mul_comm v1 W] at f1;omega
theorem zE (u2 u1 u0 v1 v0 : Nat) (w : World) (hv : 0 < v1) (hv1 : v1 < W) (h0 : v0 < W) (hu2 : u2 <= v1) (hu1 : u1 < W) (hu0 : u0 < W) :
 Calls Tryz.prog 145 #[.int .u64 (u2 : Int), .int .u64 (u1 : Int), .int .u64 (u0 : Int), .int .u64 (v1 : Int), .int .u64 (v0 : Int)] w fun e w' => e = .returned (.int .u64 ((gq u2 u1 u0 v1 v0 : Nat) : Int)) /\ ∃ m, w' = w.drewN m := by
 have Hv1 := H5 hv1; clear hv1;have H0 := H5 h0; clear h0;have Hu0 := H5 hu0; clear hu0;have Hu1 := H5 hu1; clear hu1;have Hv := H5 hv; clear hv;have HW : W - 1 = 18446744073709551615 := by unfold W; rfl
 have HW' := H5 HW; clear HW;go_enter Tryz.func145, Tryz.ntmps145;go_wp2;go_step3;by_cases hlt : u2 < v1
 . have t1 : decide ((v1 : Int) <= (u2 : Int)) = false := by simp; omega
   have hnl : ¬ v1 <= u2 := by omega
   have Hlt := H5 hlt; clear hlt;go_wp2_with (go_at_call 142; refine (vm u2 u1 v1 _ Hlt.out Hu1.out Hv1.out).mono ?_; rintro e w3 ⟨rfl, hm, rfl⟩)
   go_step3;go_wp2
   go_loop [11, 12] (fun d r => ∃ dd rr : Nat, d = .int .u64 (dd : Int) /\ r = .int .u64 (rr : Int) /\ jJ u2 u1 u0 v1 v0 dd rr) (fun d _ => (intOf d).toNat)
   case atStart => exact ⟨_, _, rfl, rfl, jJ.Ck Hlt.out Hu1.out Hu0.out Hv1.out⟩
   case round =>
    obtain ⟨dd, rr, rfl, rfl, hi⟩ := hrel;have hdd := hi.lt;have hdL : dd <= 18446744073709551615 := by unfold W at hdd; omega
    have ht := nS (d := dd) (v0 := v0) (rest := rr) (u0 := u0) Hu0.out;have Hi := H5 hi; clear hi;by_cases A : dd * v0 <= rr * W + u0
    . have hs := Hi.out.stop Hv.out A;have Hs := H5 hs; clear hs;have hc := ht.2 A;clear A ht;by_cases A1 : bM dd v0 < rr
      . have t3 : decide (((bM dd v0 : Nat) : Int) < (rr : Int)) = true := by simp; omega
        clear hc;go_wp2_with (go_at_call 125; refine (dY _ _ hdd H0.out _).mono ?_; rintro e w' ⟨rfl, rfl⟩)
        try rw [Exit.noGoto_ret]
        go_ret;exact ⟨by rw [<- Hs.out]; rfl, hm, rfl⟩
      . obtain ⟨B1, B2⟩ : bM dd v0 = rr /\ aL dd v0 <= u0 := hc.resolve_left A1;have t3 : decide (((bM dd v0 : Nat) : Int) < (rr : Int)) = false := by simp; omega
        have t4 : (((bM dd v0 : Nat) : Int) == (rr : Int)) = true := by rw [B1]; simp
        have t5 : decide (((aL dd v0 : Nat) : Int) <= (u0 : Int)) = true := by simp; omega
        clear hc B1;go_wp2_with (go_at_call 125; refine (dY _ _ hdd H0.out _).mono ?_; rintro e w' ⟨rfl, rfl⟩)
        try rw [Exit.noGoto_ret]
        go_ret;exact ⟨by rw [<- Hs.out]; rfl, hm, rfl⟩
    . have A' : rr * W + u0 < dd * v0 := by omega
      have h1 : 1 <= dd := (Hi.out.more Hv.out A').1;have hc : ¬ (bM dd v0 < rr \/ (bM dd v0 = rr /\ aL dd v0 <= u0)) := fun h => A (ht.1 h);have n1 : ¬ (bM dd v0 < rr) := fun h => hc (.inl h);have t3 : decide (((bM dd v0 : Nat) : Int) < (rr : Int)) = false := by
       simp; omega
      have HA := H5 A';clear A A' ht;by_cases B1 : bM dd v0 = rr
      . have t4 : (((bM dd v0 : Nat) : Int) == (rr : Int)) = true := by rw [B1]; simp
        have n2 : ¬ (aL dd v0 <= u0) := fun h => hc (.inr ⟨B1, h⟩);have t5 : decide (((aL dd v0 : Nat) : Int) <= (u0 : Int)) = false := by
         simp; omega
        have HB1 := H5 B1;clear hc B1;by_cases ho : bh rr v1 0 = 0
        . have t2 : (((bh rr v1 0 : Nat) : Int) != 0) = false := by rw [ho]; rfl
          have Ho := H5 ho; clear ho;go_wp2_with (first
           | (go_at_call 125; refine (dY _ _ hdd H0.out _).mono ?_; rintro e w' ⟨rfl, rfl⟩)
           | (with_reducible show wpList _ _ _ (⟨some 62, _, _, _, _, _⟩ :: _) _ _; refine cf rfl _ _ _ _ rfl rr v1 0 (by omega) rfl rfl rfl rfl rfl rfl ?_))
          go_round
          case rel => exact ⟨dd - 1, _, by go_num, rfl, Hi.out.next Hv.out HA.out Ho.out⟩
          case measure => simp [intOf]; omega
        . have t2 : (((bh rr v1 0 : Nat) : Int) != 0) = true := by rw [bne_iff_ne]; omega
          have Ho := H5 ho; clear ho;go_wp2_with (first
           | (go_at_call 125; refine (dY _ _ hdd H0.out _).mono ?_; rintro e w' ⟨rfl, rfl⟩)
           | (with_reducible show wpList _ _ _ (⟨some 62, _, _, _, _, _⟩ :: _) _ _; refine cf rfl _ _ _ _ rfl rr v1 0 (by omega) rfl rfl rfl rfl rfl rfl ?_))
          try rw [Exit.noGoto_ret]
          go_ret;exact ⟨by rw [<- Hi.out.over Hv.out H0.out HA.out Ho.out]; rw [(by omega : ((dd - 1 : Nat) : Int) = (dd : Int) - 1)]; rfl, hm, rfl⟩
      . have t4 : (((bM dd v0 : Nat) : Int) == (rr : Int)) = false := by rw [beq_eq_false_iff_ne]; omega
        clear hc B1;by_cases ho : bh rr v1 0 = 0
        . have t2 : (((bh rr v1 0 : Nat) : Int) != 0) = false := by rw [ho]; rfl
          have Ho := H5 ho; clear ho;go_wp2_with (first
           | (go_at_call 125; refine (dY _ _ hdd H0.out _).mono ?_; rintro e w' ⟨rfl, rfl⟩)
           | (with_reducible show wpList _ _ _ (⟨some 62, _, _, _, _, _⟩ :: _) _ _; refine cf rfl _ _ _ _ rfl rr v1 0 (by omega) rfl rfl rfl rfl rfl rfl ?_))
          go_round
          case rel => exact ⟨dd - 1, _, by go_num, rfl, Hi.out.next Hv.out HA.out Ho.out⟩
          case measure => simp [intOf]; omega
        . have t2 : (((bh rr v1 0 : Nat) : Int) != 0) = true := by rw [bne_iff_ne]; omega
          have Ho := H5 ho; clear ho;go_wp2_with (first
           | (go_at_call 125; refine (dY _ _ hdd H0.out _).mono ?_; rintro e w' ⟨rfl, rfl⟩)
           | (with_reducible show wpList _ _ _ (⟨some 62, _, _, _, _, _⟩ :: _) _ _; refine cf rfl _ _ _ _ rfl rr v1 0 (by omega) rfl rfl rfl rfl rfl rfl ?_))
          try rw [Exit.noGoto_ret]
          go_ret;exact ⟨by rw [<- Hi.out.over Hv.out H0.out HA.out Ho.out]; rw [(by omega : ((dd - 1 : Nat) : Int) = (dd : Int) - 1)]; rfl, hm, rfl⟩
 . have t1 : decide ((v1 : Int) <= (u2 : Int)) = true := by simp; omega
   obtain rfl : u2 = v1 := by omega
   clear hlt;by_cases ho : bh u1 u2 0 = 0
   . have t2 : (((bh u1 u2 0 : Nat) : Int) != 0) = false := by rw [ho]; rfl
     have Ho := H5 ho; clear ho;go_wp2_with (with_reducible show wpList _ _ _ (⟨some 25, _, _, _, _, _⟩ :: _) _ _; refine cf rfl _ _ _ _ rfl u1 u2 0 (by omega) rfl rfl rfl rfl rfl rfl ?_)
     go_step3;go_wp2
     go_loop [11, 12] (fun d r => ∃ dd rr : Nat, d = .int .u64 (dd : Int) /\ r = .int .u64 (rr : Int) /\ jJ u2 u1 u0 u2 v0 dd rr) (fun d _ => (intOf d).toNat)
     case atStart => exact ⟨18446744073709551615, _, rfl, rfl, by rw [<- HW'.out]; exact jJ.BS Ho.out⟩
     case round =>
      obtain ⟨dd, rr, rfl, rfl, hi⟩ := hrel;have hdd := hi.lt;have hdL : dd <= 18446744073709551615 := by unfold W at hdd; omega
      have ht := nS (d := dd) (v0 := v0) (rest := rr) (u0 := u0) Hu0.out;have Hi := H5 hi; clear hi;by_cases A : dd * v0 <= rr * W + u0
      . have hs := Hi.out.stop Hv.out A;have Hs := H5 hs; clear hs;have hc := ht.2 A;clear A ht;by_cases A1 : bM dd v0 < rr
        . have t3 : decide (((bM dd v0 : Nat) : Int) < (rr : Int)) = true := by simp; omega
          clear hc;go_wp2_with (go_at_call 125; refine (dY _ _ hdd H0.out _).mono ?_; rintro e w' ⟨rfl, rfl⟩)
          try rw [Exit.noGoto_ret]
          go_ret;exact ⟨by rw [<- Hs.out]; rfl, 0, rfl⟩
        . obtain ⟨B1, B2⟩ : bM dd v0 = rr /\ aL dd v0 <= u0 := hc.resolve_left A1;have t3 : decide (((bM dd v0 : Nat) : Int) < (rr : Int)) = false := by simp; omega
          have t4 : (((bM dd v0 : Nat) : Int) == (rr : Int)) = true := by rw [B1]; simp
          have t5 : decide (((aL dd v0 : Nat) : Int) <= (u0 : Int)) = true := by simp; omega
          clear hc B1;go_wp2_with (go_at_call 125; refine (dY _ _ hdd H0.out _).mono ?_; rintro e w' ⟨rfl, rfl⟩)
          try rw [Exit.noGoto_ret]
          go_ret;exact ⟨by rw [<- Hs.out]; rfl, 0, rfl⟩
      . have A' : rr * W + u0 < dd * v0 := by omega
        have h1 : 1 <= dd := (Hi.out.more Hv.out A').1;have hc : ¬ (bM dd v0 < rr \/ (bM dd v0 = rr /\ aL dd v0 <= u0)) := fun h => A (ht.1 h);have n1 : ¬ (bM dd v0 < rr) := fun h => hc (.inl h);have t3 : decide (((bM dd v0 : Nat) : Int) < (rr : Int)) = false := by
         simp; omega
        have HA := H5 A';clear A A' ht;by_cases B1 : bM dd v0 = rr
        . have t4 : (((bM dd v0 : Nat) : Int) == (rr : Int)) = true := by rw [B1]; simp
          have n2 : ¬ (aL dd v0 <= u0) := fun h => hc (.inr ⟨B1, h⟩);have t5 : decide (((aL dd v0 : Nat) : Int) <= (u0 : Int)) = false := by
           simp; omega
          have HB1 := H5 B1;clear hc B1;by_cases ho : bh rr u2 0 = 0
          . have t2 : (((bh rr u2 0 : Nat) : Int) != 0) = false := by rw [ho]; rfl
            have Ho := H5 ho; clear ho;go_wp2_with (first
             | (go_at_call 125; refine (dY _ _ hdd H0.out _).mono ?_; rintro e w' ⟨rfl, rfl⟩)
             | (with_reducible show wpList _ _ _ (⟨some 62, _, _, _, _, _⟩ :: _) _ _; refine cf rfl _ _ _ _ rfl rr u2 0 (by omega) rfl rfl rfl rfl rfl rfl ?_))
            go_round
            case rel => exact ⟨dd - 1, _, by go_num, rfl, Hi.out.next Hv.out HA.out Ho.out⟩
            case measure => simp [intOf]; omega
          . have t2 : (((bh rr u2 0 : Nat) : Int) != 0) = true := by rw [bne_iff_ne]; omega
            have Ho := H5 ho; clear ho;go_wp2_with (first
             | (go_at_call 125; refine (dY _ _ hdd H0.out _).mono ?_; rintro e w' ⟨rfl, rfl⟩)
             | (with_reducible show wpList _ _ _ (⟨some 62, _, _, _, _, _⟩ :: _) _ _; refine cf rfl _ _ _ _ rfl rr u2 0 (by omega) rfl rfl rfl rfl rfl rfl ?_))
            try rw [Exit.noGoto_ret]
            go_ret;exact ⟨by rw [<- Hi.out.over Hv.out H0.out HA.out Ho.out]; rw [(by omega : ((dd - 1 : Nat) : Int) = (dd : Int) - 1)]; rfl, 0, rfl⟩
        . have t4 : (((bM dd v0 : Nat) : Int) == (rr : Int)) = false := by rw [beq_eq_false_iff_ne]; omega
          clear hc B1;by_cases ho : bh rr u2 0 = 0
          . have t2 : (((bh rr u2 0 : Nat) : Int) != 0) = false := by rw [ho]; rfl
            have Ho := H5 ho; clear ho;go_wp2_with (first
             | (go_at_call 125; refine (dY _ _ hdd H0.out _).mono ?_; rintro e w' ⟨rfl, rfl⟩)
             | (with_reducible show wpList _ _ _ (⟨some 62, _, _, _, _, _⟩ :: _) _ _; refine cf rfl _ _ _ _ rfl rr u2 0 (by omega) rfl rfl rfl rfl rfl rfl ?_))
            go_round
            case rel => exact ⟨dd - 1, _, by go_num, rfl, Hi.out.next Hv.out HA.out Ho.out⟩
            case measure => simp [intOf]; omega
          . have t2 : (((bh rr u2 0 : Nat) : Int) != 0) = true := by rw [bne_iff_ne]; omega
            have Ho := H5 ho; clear ho;go_wp2_with (first
             | (go_at_call 125; refine (dY _ _ hdd H0.out _).mono ?_; rintro e w' ⟨rfl, rfl⟩)
             | (with_reducible show wpList _ _ _ (⟨some 62, _, _, _, _, _⟩ :: _) _ _; refine cf rfl _ _ _ _ rfl rr u2 0 (by omega) rfl rfl rfl rfl rfl rfl ?_))
            try rw [Exit.noGoto_ret]
            go_ret;exact ⟨by rw [<- Hi.out.over Hv.out H0.out HA.out Ho.out]; rw [(by omega : ((dd - 1 : Nat) : Int) = (dd : Int) - 1)]; rfl, 0, rfl⟩
   . have t2 : (((bh u1 u2 0 : Nat) : Int) != 0) = true := by rw [bne_iff_ne]; omega
     have Ho := H5 ho; clear ho;go_wp2_with (with_reducible show wpList _ _ _ (⟨some 25, _, _, _, _, _⟩ :: _) _ _; refine cf rfl _ _ _ _ rfl u1 u2 0 (by omega) rfl rfl rfl rfl rfl rfl ?_)
     try rw [Exit.noGoto_ret]
     go_ret;exact ⟨by rw [<- tO Hv.out H0.out Ho.out, HW'.out]; rfl, 0, rfl⟩
structure se (us vs cu qs : List Nat) (n k : Nat) : Prop where
 same : ∀ i, i < k -> gw cu i = gw us i
 val : a7 (qs.drop k) * a7 vs + sv cu k n = a7 (us.drop k)
 lt : sv cu k n < a7 vs
theorem Cs (l : List Nat) (o : Nat) : sv l o 1 = gw l o := by
 have := cT l o 0;rw [iU] at this;simpa using this
theorem se.seg {us vs cu qs : List Nat} {n j : Nat} (h : se us vs cu qs n (j + 1)) (hok : Ok cu) : sv cu j (n + 1) = gw us j + W * sv cu (j + 1) n /\ sv cu j (n + 1) < W * a7 vs := by
 have e : sv cu j (n + 1) = gw us j + W * sv cu (j + 1) n := by
  rw [Nat.add_comm n 1, lQ, Cs, Nat.pow_one, h.same j (by omega)]
 refine ⟨e, ?_⟩;have h1 : W * (sv cu (j + 1) n + 1) <= W * a7 vs := Nat.mul_le_mul_left _ h.lt;have h2 := hok.gw j;rw [h.same j (by omega)] at h2;rw [Nat.mul_add] at h1;omega
theorem uA {cu vs : List Nat} {n j : Nat} (hc : Ok cu) (hv : Ok vs) (hlen : vs.length = n + 2) (htop : 9223372036854775808 <= gw vs (n + 1)) (hS : sv cu j (n + 3) < W * a7 vs) :
 gw cu (j + (n + 2)) <= gw vs (n + 1) /\
 sv cu j (n + 3) / a7 vs <= gq (gw cu (j + (n + 2))) (gw cu (j + (n + 1))) (gw cu (j + n)) (gw vs (n + 1)) (gw vs n) /\
 gq (gw cu (j + (n + 2))) (gw cu (j + (n + 1))) (gw cu (j + n)) (gw vs (n + 1)) (gw vs n) <= sv cu j (n + 3) / a7 vs + 1 := by
 have eS : sv cu j (n + 3) = sv cu j n + W ^ n * ((gw cu (j + (n + 2)) * W + gw cu (j + (n + 1))) * W + gw cu (j + n)) := by
  have p2 : W ^ (n + 2) = W ^ n * W * W := by rw [Nat.pow_succ, Nat.pow_succ]
  have p1 : W ^ (n + 1) = W ^ n * W := by rw [Nat.pow_succ]
  rw [cT, cT, cT, p2, p1, Nat.mul_add, Nat.add_mul, Nat.mul_add];have e1 : W ^ n * W * W * gw cu (j + (n + 2)) = W ^ n * (gw cu (j + (n + 2)) * W * W) := by
   rw [Nat.mul_assoc, Nat.mul_assoc]; congr 1; rw [<- Nat.mul_assoc, Nat.mul_comm, Nat.mul_assoc]
  have e2 : W ^ n * W * gw cu (j + (n + 1)) = W ^ n * (gw cu (j + (n + 1)) * W) := by
   rw [Nat.mul_assoc, Nat.mul_comm W]
  omega
 have eV : a7 vs = sv vs 0 n + W ^ n * (gw vs (n + 1) * W + gw vs n) := by
  rw [<- fF vs, hlen, cT, cT, Nat.zero_add, Nat.zero_add, Nat.pow_succ, Nat.mul_add];have e2 : W ^ n * W * gw vs (n + 1) = W ^ n * (gw vs (n + 1) * W) := by
   rw [Nat.mul_assoc, Nat.mul_comm W]
  omega
 have lS := o5 hc j n;have lV := o5 hv 0 n;have hP : 0 < W ^ n := Nat.pow_pos bE;have b0 := hc.gw (j + n);have b1 := hc.gw (j + (n + 1));have c0 := hv.gw n;have c1 := hv.gw (n + 1);generalize gw cu (j + (n + 2)) = u2 at *;generalize gw cu (j + (n + 1)) = u1 at *;generalize gw cu (j + n) = u0 at *;generalize gw vs (n + 1) = v1 at *;generalize gw vs n = v0 at *;generalize sv cu j (n + 3) = S at *;generalize a7 vs = V at *;generalize sv cu j n = sl at *;generalize sv vs 0 n = vl at *;generalize W ^ n = P at *;have hU : ∀ m, m * (v1 * W + v0) <= (u2 * W + u1) * W + u0 ↔ P * (m * (v1 * W + v0)) <= P * ((u2 * W + u1) * W + u0) := fun m => ⟨Nat.mul_le_mul_left P, fun h => Nat.le_of_mul_le_mul_left h hP⟩;have hV2 : 0 < v1 * W + v0 := by have := Nat.mul_pos (by omega : 0 < v1) bE; omega
 have hVp : 0 < V := by have := Nat.mul_pos hP hV2; omega
 have hVu : V < P * (v1 * W + v0 + 1) := by rw [Nat.mul_add]; omega
 refine ⟨?_, ?_, ?_⟩
 . refine Decidable.byContradiction fun hn => ?_;have h1 : (v1 + 1) * W * W <= u2 * W * W := Nat.mul_le_mul_right _ (Nat.mul_le_mul_right _ (by omega));have h2 : (v1 * W + v0 + 1) * W <= (v1 + 1) * W * W := Nat.mul_le_mul_right _ (by rw [Nat.add_mul]; omega);have h3 : (v1 * W + v0 + 1) * W <= (u2 * W + u1) * W + u0 := by rw [Nat.add_mul (u2 * W)]; omega
   have h4 := Nat.mul_le_mul_left P h3;have h5 : W * V <= W * (P * (v1 * W + v0 + 1)) := Nat.mul_le_mul_left _ (Nat.le_of_lt hVu);have h6 : W * (P * (v1 * W + v0 + 1)) = P * ((v1 * W + v0 + 1) * W) := by rw [Nat.mul_left_comm, Nat.mul_comm W]
   omega
 . unfold gq;refine Nat.le_min.2 ⟨?_, ?_⟩
   . have : S / V < W := by rw [Nat.div_lt_iff_lt_mul hVp]; exact hS
     omega
   . rw [Nat.le_div_iff_mul_le hV2];have h1 : S / V * V <= S := Nat.div_mul_le_self S V;generalize S / V = q at *;have h2 : q * (P * (v1 * W + v0)) <= q * V := Nat.mul_le_mul_left _ (by omega);have h3 : P * (q * (v1 * W + v0)) < P * ((u2 * W + u1) * W + u0 + 1) := by
      rw [Nat.mul_left_comm P q, Nat.mul_add P _ 1]; omega
     have := Nat.lt_of_mul_lt_mul_left h3;omega
 . have hd1 : gq u2 u1 u0 v1 v0 * (v1 * W + v0) <= (u2 * W + u1) * W + u0 := by
    rw [<- Nat.le_div_iff_mul_le hV2]; exact Nat.min_le_right ..
   have hd2 : gq u2 u1 u0 v1 v0 <= W - 1 := Nat.min_le_left ..;generalize gq u2 u1 u0 v1 v0 = d at *;rcases Nat.eq_zero_or_pos d with h0 | h0
   . rw [h0]; exact Nat.zero_le _
   obtain ⟨c, rfl⟩ : ∃ c, d = c + 1 := ⟨d - 1, by omega⟩;refine Nat.succ_le_succ ?_;rw [Nat.le_div_iff_mul_le hVp];have h1 := Nat.mul_le_mul_left P hd1;have h2 : (c + 1) * V <= (c + 1) * (P * (v1 * W + v0 + 1)) := Nat.mul_le_mul_left _ (Nat.le_of_lt hVu);have h3 : (c + 1) * (P * (v1 * W + v0 + 1)) = P * ((c + 1) * (v1 * W + v0)) + P * (c + 1) := by
    rw [Nat.mul_left_comm, <- Nat.mul_add, Nat.mul_add (c + 1), Nat.mul_one]
   have h4 : P * (c + 1) <= P * W := Nat.mul_le_mul_left _ (by have := bE; omega);have h5 : P * W <= P * (v1 * W + v0) := Nat.mul_le_mul_left _ (by have : 1 * W <= v1 * W := Nat.mul_le_mul_right _ (by omega); omega);rw [Nat.add_mul c 1 V, Nat.one_mul] at h2;omega
theorem took {S V d t P l : Nat} (hP : S / V <= d) (hP2 : d <= S / V + 1) (hV : 0 < V) (he : t + d * V = S + P * l) (ht : t < P) (hl : l <= 1) : (l = 0 -> d = S / V /\ t = S % V) /\ (l ≠ 0 -> d = S / V + 1) := by
 have e := Nat.div_add_mod S V;have hm := Nat.mod_lt S hV;generalize S / V = q at *;generalize S % V = r at *;rw [Nat.mul_comm V q] at e;constructor
 . rintro rfl;have : d = q := by
    refine Decidable.byContradiction fun hn => ?_;have : d = q + 1 := by omega
    subst this;rw [Nat.add_mul] at he; omega
   subst this;exact ⟨rfl, by omega⟩
 . intro h;have : l = 1 := by omega
   subst this;refine Decidable.byContradiction fun hn => ?_;have : d = q := by omega
   subst this;omega
theorem gave {S V d t t2 P cr : Nat} (hd : d = S / V + 1) (hV : 0 < V) (he : t + d * V = S + P * 1) (ht2 : t2 < P) (hVP : V <= P) (hg : t2 + P * cr = t + V) : d - 1 = S / V /\ t2 = S % V := by
 have e := Nat.div_add_mod S V;have hm := Nat.mod_lt S hV;generalize S / V = q at *;generalize S % V = r at *;rw [Nat.mul_comm V q] at e;subst hd;rw [Nat.add_mul] at he;refine ⟨by omega, ?_⟩;have h1 : t2 + P * cr = r + P := by omega
 have h2 : cr = 1 := by
  rcases Nat.lt_trichotomy cr 1 with h | h | h
  . have : cr = 0 := by omega
    subst this; omega
  . exact h
  . have : P * 2 <= P * cr := Nat.mul_le_mul_left _ h;omega
 subst h2;omega
theorem se.next {us vs cu cu' qs : List Nat} {n j d : Nat} (h : se us vs cu qs n (j + 1)) (hok : Ok cu) (hok' : Ok cu') (hvs : Ok vs) (hlen : vs.length = n) (hj : j < qs.length) (hd : d = sv cu j (n + 1) / a7 vs)
 (hs : ∀ i, i < j -> gw cu' i = gw cu i) (hr : sv cu' j (n + 1) = sv cu j (n + 1) % a7 vs) : d < W /\ se us vs cu' (qs.set j d) n j := by
 obtain ⟨e1, e2⟩ := h.seg hok;have hVp : 0 < a7 vs := by have := h.lt; omega
 have hVW : a7 vs < W ^ n := by rw [<- hlen]; exact dP hvs
 have hm := Nat.mod_lt (sv cu j (n + 1)) hVp;have e3 := Nat.div_add_mod (sv cu j (n + 1)) (a7 vs);have hz : sv cu' j n = sv cu j (n + 1) % a7 vs := by
  have := cT cu' j n;rw [hr] at this;have h0 : gw cu' (j + n) = 0 := by
   refine Decidable.byContradiction fun hn => ?_;have : W ^ n * 1 <= W ^ n * gw cu' (j + n) := Nat.mul_le_mul_left _ (by omega);omega
  rw [h0] at this; omega
 refine ⟨by rw [hd, Nat.div_lt_iff_lt_mul hVp]; exact e2, fun i hi => by rw [hs i hi, h.same i (by omega)], ?_, by rw [hz]; exact hm⟩;rw [km hj, hz, ga us j, <- h.val, Nat.add_mul, hd, Nat.mul_add W, <- Nat.mul_assoc];rw [Nat.mul_comm (a7 vs)] at e3;omega
theorem uO {X Y s n m : Nat} {us vs : List Nat} (hu : a7 us = 2 ^ s * X) (hv : a7 vs = 2 ^ s * Y) (hul : us.length = m + 1) (hX : X < W ^ m) (hn : 1 <= n) (hnm : n <= m) (hok : Ok us) (hs : s < 64)
 (htop : W ^ (n - 1) * 9223372036854775808 <= a7 vs) (qs : List Nat) (hq : qs.length = m - n + 1) : se us vs us qs n (m - n + 1) := by
 have e1 : sv us (m - n + 1) n = a7 (us.drop (m - n + 1)) := by
  have := zn us (m - n + 1);rw [hul] at this;rw [<- this]; congr 1; omega
 refine ⟨fun _ _ => rfl, ?_, ?_⟩
 . rw [List.drop_eq_nil_of_le (by omega : qs.length <= m - n + 1)];rw [e1]; simp [a7]
 . rw [e1];refine Nat.lt_of_lt_of_le ?_ htop;have h1 : a7 us = a7 (us.take (m - n + 1)) + W ^ (m - n + 1) * a7 (us.drop (m - n + 1)) := fm us _ (by omega);have h2 : a7 us < 2 ^ s * W ^ m := by rw [hu]; exact Nat.mul_lt_mul_of_pos_left hX (Nat.two_pow_pos s)
   have h3 : 2 ^ s * W ^ m <= 9223372036854775808 * W ^ m := Nat.mul_le_mul_right _ (by
    have : 2 ^ s <= 2 ^ 63 := Nat.pow_le_pow_right (by omega) (by omega);exact this)
   have h4 : W ^ m = W ^ (m - n + 1) * W ^ (n - 1) := by rw [<- Nat.pow_add]; congr 1; omega
   have h5 : W ^ (m - n + 1) * a7 (us.drop (m - n + 1)) < W ^ (m - n + 1) * (W ^ (n - 1) * 9223372036854775808) := by
    rw [<- Nat.mul_assoc, <- h4, Nat.mul_comm (W ^ m)]; omega
   exact Nat.lt_of_mul_lt_mul_left h5
theorem zc {X Y s n : Nat} {us vs cu qs : List Nat} (h : se us vs cu qs n 0) (hu : a7 us = 2 ^ s * X) (hv : a7 vs = 2 ^ s * Y) : a7 qs = X / Y /\ a7 (cu.take n) / 2 ^ s = X % Y := by
 have h1 := h.val;have h2 := h.lt;rw [List.drop_zero, List.drop_zero, hu, hv, nv] at h1;rw [hv, nv] at h2;have hp : 0 < 2 ^ s := Nat.two_pow_pos s;have hY : 0 < Y := by
  rcases Nat.eq_zero_or_pos Y with h0 | h0
  . subst h0; omega
  . exact h0
 have hd : 2 ^ s ∣ a7 (cu.take n) := by
  have hA : 2 ^ s ∣ a7 qs * (2 ^ s * Y) := ⟨a7 qs * Y, by rw [Nat.mul_left_comm]⟩;have hB : 2 ^ s ∣ a7 qs * (2 ^ s * Y) + a7 (cu.take n) := by rw [h1]; exact ⟨X, rfl⟩
  exact (Nat.dvd_add_right hA).1 hB
 obtain ⟨r, hr⟩ := hd;rw [hr, Nat.mul_div_cancel_left _ hp];rw [hr] at h1 h2;have hrY : r < Y := Nat.lt_of_mul_lt_mul_left h2;have hX : a7 qs * Y + r = X := by
  have e : 2 ^ s * (a7 qs * Y + r) = 2 ^ s * X := by rw [Nat.mul_add, <- h1, Nat.mul_left_comm]
  exact Nat.eq_of_mul_eq_mul_left hp e
 subst hX;constructor
 . rw [Nat.add_comm, Nat.add_mul_div_right _ _ hY, Nat.div_eq_of_lt hrY, Nat.zero_add]
 . rw [Nat.add_comm, Nat.add_mul_mod_self_right, Nat.mod_eq_of_lt hrY]
theorem Shr_c (ao : Option Addr) (len cap : Nat) (ws : List Nat) (s : Nat) (w : World) (hA : cU w ao ws) (hl : len = ws.length) (hm : len <= 17592186044416) (hs : s < 64) :
 Calls Tryz.prog 148 #[.slice ao len cap, .int .i64 (s : Int)] w fun e w' =>
  (∃ ao' cap', e = .returned (.tuple #[.slice ao' (aa (a7 ws / 2 ^ s)) cap', .int .i64 0]) /\ ct w' w.heap.size ao' (aa (a7 ws / 2 ^ s)) cap' (ew (a7 ws / 2 ^ s))) /\ Below w.heap.size w w' := by
 subst hl;have htA := aH ws;have hmA' : ws.length <= maxLen := by unfold maxLen; omega
 have HA := H5 hmA'; clear hmA';have d1 : (s : Int) / 64 = 0 := by omega
 have d2 : (s : Int) % 64 = (s : Int) := by omega
 have d3 : decide ((s : Int) < 0) = false := by simp
 by_cases h0 : aj ws = 0
 . have hb : decide ((aj ws : Int) <= 0) = true := by simp [h0]
   have H0 := H5 h0; clear h0;go_enter Tryz.func148, Tryz.ntmps148;go_wp2_with (go_at_call 64; refine (dV _ _ _ ws _ hA rfl HA.out).mono ?_; rintro e w' ⟨rfl, rfl⟩)
   go_ret2;have e : a7 ws / 2 ^ s = 0 := by rw [(gk hA.ok).1 H0.out, Nat.zero_div]
   rw [e, bg, ed];exact ⟨⟨none, 0, rfl, ct.nil _ _⟩, Below.refl _ _⟩
 . have hb : decide ((aj ws : Int) <= 0) = false := by simp; omega
   have i1 : 1 <= aj ws := by omega
   have H0 := H5 h0; clear h0;go_enter Tryz.func148, Tryz.ntmps148;go_wp2_with (first
    | (go_at_call 64; refine (dV _ _ _ ws _ hA rfl HA.out).mono ?_; rintro e w' ⟨rfl, rfl⟩)
    | (at_make; refine eP rfl _ _ rfl (aj ws) (aj ws) rfl rfl rfl rfl (Nat.le_refl _) (by omega) ?_; intro b w1 hm1))
   have hB1 : w.heap.size <= b := Nat.le_of_eq hm1.at_.symm;go_loopw [29] (fun i wr => ∃ (k : Nat) (ls : List Nat), k <= aj ws /\ i = .int .i64 k /\ ls.length = aj ws /\ Ok ls /\ a6 wr b 47 (ls.map wv) /\ Below w.heap.size w wr /\
    Hid (a7 (ls.take k) = a7 ws / 2 ^ s % W ^ k)) (fun i _ => aj ws - (intOf i).toNat)
   case atStart => exact ⟨0, _, Nat.zero_le _, rfl, by simp, Ok.replicate _, hm1.row, hm1.below, H5 (by simp [a7, Nat.mod_one])⟩
   case round =>
    obtain ⟨k, ls, hk, rfl, hll, hok, hrow, hbl, Heq⟩ := hrel;have Hll := H5 hll; clear hll;by_cases hlt : k < aj ws
    . obtain ⟨b1, o1, rfl, hb1, hc1⟩ := (hA.below hbl).pos (by omega);have e1 := hc1 k (by omega);have hcell := hrow.word (i := k) (by have := Hll.out; omega);have hfree := hrow.free k;by_cases hlt2 : k + 1 < aj ws
      . have e2 := hc1 (k + 1) (by omega);clear hc1;have t1 : decide ((k : Int) + 1 < (aj ws : Int)) = true := by simp; omega
        go_wp2
        go_region
        go_wp2;go_roundw
        case rel =>
         have hx : gw ws k / 2 ^ s < W := Nat.lt_of_le_of_lt (Nat.div_le_self ..) (hA.ok.gw k);have hv : (gw ws k / 2 ^ s) ||| (gw ws (k + 1) * 2 ^ (64 - s) % W) < W := by rw [xn hA.ok hs]; exact jG _
         refine ⟨k + 1, (ls.set k (gw ws k / 2 ^ s)).set k ((gw ws k / 2 ^ s) ||| (gw ws (k + 1) * 2 ^ (64 - s) % W)), by omega, by go_num, by rw [List.length_set, List.length_set]; exact Hll.out, (hok.set _ _ hx).set _ _ hv, ?_, ?_, ?_⟩
         . have := (hrow.dp k (gw ws k / 2 ^ s)).dp k ((gw ws k / 2 ^ s) ||| (gw ws (k + 1) * 2 ^ (64 - s) % W));rw [yH, s5, or_cast _ _ hx (jG _)];exact this
         . exact (((hbl.setCell hB1 _).drew)).setCell hB1 _
         . refine H5 ?_;have hk' : k < ls.length := by have := Hll.out; omega
           rw [dU (by rw [List.length_set]; exact hk'), kt, Heq.out, xn hA.ok hs, <- ks]
        case measure => simp [intOf]; omega
      . have t1 : decide ((k : Int) + 1 < (aj ws : Int)) = false := by simp; omega
        clear hc1;go_wp2;go_roundw
        case rel =>
         have hx : gw ws k / 2 ^ s < W := Nat.lt_of_le_of_lt (Nat.div_le_self ..) (hA.ok.gw k);refine ⟨k + 1, ls.set k (gw ws k / 2 ^ s), by omega, by go_num, by rw [List.length_set]; exact Hll.out, hok.set _ _ hx, ?_, ?_, ?_⟩
         . have := hrow.dp k (gw ws k / 2 ^ s);rw [s5];exact this
         . exact hbl.setCell hB1 _
         . refine H5 ?_;have hk' : k < ls.length := by have := Hll.out; omega
           have hz : gw ws (k + 1) = 0 := j7 (by omega);have e := sX hA.ok hs k;rw [hz, Nat.zero_mul, Nat.zero_mod, Nat.add_zero] at e;rw [dU hk', Heq.out, e, <- ks]
        case measure => simp [intOf]; omega
    . have ek : k = aj ws := by omega
      subst ek;have hv : a7 ls = a7 ws / 2 ^ s := by
       have e1 := Heq.out;rw [List.take_of_length_le (by have := Hll.out; omega), Nat.mod_eq_of_lt] at e1
       . exact e1
       . refine Nat.lt_of_le_of_lt (Nat.div_le_self ..) ?_;rw [<- bN hA.ok];have := dP (hA.ok.take (aj ws))
         rwa [List.length_take, Nat.min_eq_left htA] at this
      have Hfin := H5 (mi hrow hok (B := w.heap.size) hB1 Hll.out (by omega) hv);have Hs1 := H5 (hrow.j3 hok);have hmx : aj ws <= maxLen := by unfold maxLen; omega
      have Hmx := H5 hmx;clear hmx hv;have l3 := aH ls;rw [Hll.out] at l3;go_wp2_with (go_at_call 64; (with_reducible refine (dV _ _ _ ls _ Hs1.out Hll.out.symm Hmx.out).mono ?_); rintro e w' ⟨rfl, rfl⟩)
      go_ret2;obtain ⟨q1, q2⟩ := Hfin.out;refine ⟨⟨_, _, ?_, q2⟩, hbl⟩;rw [<- q1]; rfl
theorem s4 {cu vs : List Nat} {N j : Nat} (hN : 2 <= N) (hc : Ok cu) (hv : Ok vs) (hlen : vs.length = N) (htop : 9223372036854775808 <= gw vs (N - 1)) (hS : sv cu j (N + 1) < W * a7 vs) :
 gw cu (j + N) <= gw vs (N - 1) /\
 sv cu j (N + 1) / a7 vs <= gq (gw cu (j + N)) (gw cu (j + N - 1)) (gw cu (j + N - 2)) (gw vs (N - 1)) (gw vs (N - 2)) /\
 gq (gw cu (j + N)) (gw cu (j + N - 1)) (gw cu (j + N - 2)) (gw vs (N - 1)) (gw vs (N - 2)) <= sv cu j (N + 1) / a7 vs + 1 := by
 obtain ⟨n, rfl⟩ : ∃ n, N = n + 2 := ⟨N - 2, by omega⟩;exact uA hc hv hlen htop hS
theorem gq_lt (u2 u1 u0 v1 v0 : Nat) : gq u2 u1 u0 v1 v0 <= 18446744073709551615 := Nat.le_trans (Nat.min_le_left ..) (by unfold W; omega)
theorem BH (aoA aoB : Option Addr) (m N cA cB : Nat) (xs ys : List Nat) (w : World) (hA : cU w aoA xs) (hB : cU w aoB ys) (hlA : m = xs.length) (hlB : N = ys.length) (hm : m <= 17592186044415) (hN : 2 <= N) (hNm : N <= m) (htop : gw ys (N - 1) ≠ 0) :
 Calls Tryz.prog 122 #[.slice aoA m cA, .slice aoB N cB] w fun e w' =>
  (∃ aq cq ar cr, e = .returned (.tuple #[.slice aq (aa (a7 xs / a7 ys)) cq, .slice ar (aa (a7 xs % a7 ys)) cr]) /\ ct w' w.heap.size aq (aa (a7 xs / a7 ys)) cq (ew (a7 xs / a7 ys)) /\
   ct w' w.heap.size ar (aa (a7 xs % a7 ys)) cr (ew (a7 xs % a7 ys))) /\ Below w.heap.size w w' := by
 obtain ⟨s, hs, hsl, hy1, hy2⟩ := nO htop (hB.ok.gw _);have Hsl := H5 hsl; clear hsl;have hyb : ((gw ys (N - 1) : Nat) : Int) <= 18446744073709551615 := by have := hB.ok.gw (N - 1); unfold W at this; omega
 have Hyb := H5 hyb; clear hyb;have Htop := H5 htop; clear htop;have HlA := H5 hlA; clear hlA;have HlB := H5 hlB; clear hlB;obtain ⟨b2, o2, rfl, hb2, hc2⟩ := hB.pos (by have := HlB.out; omega);have ey := hc2 (N - 1) (by have := HlB.out; omega);clear hc2;have hs64 : (s : Int) < 64 := by omega
 have hm1 : ((m + 1 : Nat) : Int) = (m : Int) + 1 := by omega
 have Hm1 := H5 hm1; clear hm1;have hY0 : a7 ys = sv ys 0 (N - 1) + W ^ (N - 1) * gw ys (N - 1) := by
  have h1 := fF ys;rw [<- HlB.out, (by omega : N = N - 1 + 1), cT] at h1;rw [<- h1, Nat.zero_add]
 have hYfit : 2 ^ s * a7 ys < W ^ N := by
  have h1 := o5 hB.ok 0 (N - 1);have h2 : a7 ys < W ^ (N - 1) * (gw ys (N - 1) + 1) := by rw [Nat.mul_add]; omega
  have h3 : gw ys (N - 1) < 2 ^ (64 - s) := by
   rw [jP (by omega : s <= 64)] at hy2;exact Nat.lt_of_mul_lt_mul_right hy2
  have h4 : 2 ^ s * (W ^ (N - 1) * (gw ys (N - 1) + 1)) <= W ^ (N - 1) * W := by
   rw [Nat.mul_left_comm];refine Nat.mul_le_mul_left _ ?_;have h5 : 2 ^ s * (gw ys (N - 1) + 1) <= 2 ^ s * 2 ^ (64 - s) := Nat.mul_le_mul_left _ h3;rw [jP (by omega : s <= 64), Nat.mul_comm (2 ^ (64 - s))]; exact h5
  have h6 : 2 ^ s * a7 ys < 2 ^ s * (W ^ (N - 1) * (gw ys (N - 1) + 1)) := Nat.mul_lt_mul_of_pos_left h2 (Nat.two_pow_pos s);have h7 : W ^ N = W ^ (N - 1) * W := by rw [<- Nat.pow_succ]; congr 1; omega
  omega
 have hXfit : 2 ^ s * a7 xs < W ^ (m + 1) := by
  have h1 := dP hA.ok;rw [<- HlA.out] at h1;have h2 : 2 ^ s * a7 xs < 2 ^ s * W ^ m := Nat.mul_lt_mul_of_pos_left h1 (Nat.two_pow_pos s);have h3 : 2 ^ s * W ^ m <= W * W ^ m := Nat.mul_le_mul_right _ (by rw [xj]; exact Nat.pow_le_pow_right (by omega) (by omega));rw [Nat.pow_succ, Nat.mul_comm (W ^ m)]; omega
 go_enter Tryz.func122, Tryz.ntmps122;go_wp2_with (go_at_call 143; refine (Tryz.bits_LeadingZeros64 _ _ (by omega) Hyb.out).mono ?_; rintro e w' ⟨rfl, hw'⟩; obtain rfl := hw'.symm; simp only [Int.toNat_natCast]; rw [Hsl.out])
 refine (qq (some ⟨b2, o2, none⟩) N cB ys s N _ hB HlB.out (by omega) hs (by omega) (Nat.le_refl _) hYfit).mono ?_;rintro e w1 ⟨bv, vs, rfl, hNv, hvl, hvv⟩;have hA1 := hA.below hNv.below;have hsh := qq aoA m cA xs s (m + 1) w1 hA1 HlA.out (by omega) hs (by omega) (by omega) hXfit;rw [Hm1.out] at hsh;go_wp2_with fail
 refine hsh.mono ?_;rintro e w2 ⟨bu, us, rfl, hNu, hul, huv⟩;clear hsh;have hbv : bv < w1.heap.size := hNv.row.lt;have hvu : bv ≠ bu := by have := hNu.ge; omega
 have hrv2 : a6 w2 bv 47 (vs.map wv) := hNv.row.below hNu.below hbv;have hbu : bu < w2.heap.size := hNu.row.lt;have hb12 : Below w.heap.size w w2 := hNv.below.trans (hNu.below.mono hNv.below.size);go_wp2_with (at_make; refine eP rfl _ _ rfl (m - N + 1) (m - N + 1) rfl rfl (by omega) (by omega) (Nat.le_refl _) (by omega) ?_; intro bq w3 hm3)
 have hu : bu ≠ bq := by have := hm3.at_; omega
 have hv : bv ≠ bq := by have := hm3.at_; have := hNu.below.size; omega
 have hBu : w.heap.size <= bu := by have := hNu.ge; have := hNv.below.size; omega
 have hBq : w.heap.size <= bq := by have := hm3.at_; have := hb12.size; omega
 have hb13 : Below w.heap.size w w3 := hb12.trans (hm3.below.mono hb12.size);have hrv3 := hrv2.below hm3.below (by have := hNu.below.size; omega);have hru3 := hNu.row.below hm3.below hbu;have hvlow : W ^ (N - 1) * 9223372036854775808 <= a7 vs := by
  have h1 : W ^ (N - 1) * 9223372036854775808 <= W ^ (N - 1) * (gw ys (N - 1) * 2 ^ s) := Nat.mul_le_mul_left _ hy1;rw [hvv, hY0, Nat.mul_add, Nat.mul_left_comm (2 ^ s), Nat.mul_comm (2 ^ s) (gw ys (N - 1))];omega
 have hvtop : 9223372036854775808 <= gw vs (N - 1) := by
  have h1 := fF vs;rw [hvl, (by omega : N = N - 1 + 1), cT, Nat.zero_add] at h1;have h2 := o5 hNv.ok 0 (N - 1);have h3 : W ^ (N - 1) * 9223372036854775808 < W ^ (N - 1) * (gw vs (N - 1) + 1) := by rw [Nat.mul_add]; omega
  have := Nat.lt_of_mul_lt_mul_left h3;omega
 have hXW : a7 xs < W ^ m := by have := dP hA.ok; rw [<- HlA.out] at this; exact this
 have Hst := H5 (uO huv hvv hul hXW (by omega : 1 <= N) hNm hNu.ok hs hvlow (List.replicate (m - N + 1) 0) (by simp));have Hvtop := H5 hvtop; clear hvtop hvlow;have Hhuv := H5 huv; clear huv;have Hhvv := H5 hvv; clear hvv;have Hvl := H5 hvl; clear hvl;have Hul := H5 hul; clear hul;have HY0 := H5 hY0; clear hY0;have Hx := H5 hXfit; clear hXfit;have Hy := H5 hYfit; clear hYfit;have Hy1 := H5 hy1; clear hy1;have Hy2 := H5 hy2; clear hy2;have hNvo := H5 hNv.ok;clear hNv hA1 hrv2 ey;go_wp2;go_loopw [11] (fun i wr => ∃ (k : Nat) (cu qs : List Nat), k <= m - N + 1 /\ i = .int .i64 ((k : Int) - 1) /\ a6 wr bv 47 (vs.map wv) /\ a6 wr bu 47 (cu.map wv) /\ a6 wr bq 47 (qs.map wv) /\ Ok cu /\ Ok qs /\ Hid (cu.length = m + 1) /\ Hid (qs.length = m - N + 1) /\
  Below w.heap.size w wr /\ Hid (se us vs cu qs N k)) (fun i _ => (intOf i + 1).toNat)
 case atStart => exact ⟨m - N + 1, us, List.replicate (m - N + 1) 0, Nat.le_refl _, by go_num, hrv3, hru3, hm3.row, hNu.ok, Ok.replicate _, Hul, H5 (by simp), hb13, Hst⟩
 case round =>
  obtain ⟨k, cu, qs, hk, hi, hrv, hru, hrq, hoku, hokq, Hcl, Hql, hb, HI⟩ := hrel;rcases k with _ | j
  . have e : ((0 : Nat) : Int) - 1 = -1 := by omega
    rw [e] at hi;subst hi;obtain ⟨hq1, hr1⟩ := zc HI.out Hhuv.out Hhvv.out;have Hq1 := H5 hq1; clear hq1;have Hr1 := H5 hr1; clear hr1;have hNl : N = (cu.take N).length := by rw [List.length_take, Hcl.out, Nat.min_eq_left (by omega)]
    have HNl := H5 hNl; clear hNl;go_wp2_with fail
    refine (Shr_c _ _ _ (cu.take N) s _ ((hru.j3 hoku).take N) HNl.out (by omega) hs).mono ?_;rintro e w4 ⟨⟨ar, cr, rfl, h1⟩, h2⟩;have hbq : bq < wr.heap.size := hrq.lt;have hrq4 := hrq.below h2 hbq;rw [Hr1.out] at h1 |-;have H1 := H5 h1; clear h1;go_wp2_with fail
    refine (eC _ _ _ qs _ (hrq4.j3 hokq) Hql.out.symm (by omega)).mono ?_;rintro e w5 ⟨⟨aq, cq, rfl, h3⟩, h4⟩;rw [Hq1.out] at h3 |-;go_wp2;go_ret2;exact ⟨⟨aq, cq, ar, cr, rfl, h3.mono (Nat.le_trans hb.size h2.size), (H1.out.mono hb.size).below h4⟩, (hb.trans (h2.mono hb.size)).trans (h4.mono (Nat.le_trans hb.size h2.size))⟩
  . have e : ((j + 1 : Nat) : Int) - 1 = (j : Int) := by omega
    rw [e] at hi;subst hi;have c1 := hru.word (i := j + N) (by have := Hcl.out; omega);have c2 := hru.word (i := j + N - 1) (by have := Hcl.out; omega);have c3 := hru.word (i := j + N - 2) (by have := Hcl.out; omega);have c4 := hrv.word (i := N - 1) (by have := Hvl.out; omega);have c5 := hrv.word (i := N - 2) (by have := Hvl.out; omega);have b1 : (j : Int) + (N : Int) < (m : Int) + 1 := by omega
    have hnear := s4 (j := j) hN hoku hNvo.out Hvl.out Hvtop.out (HI.out.seg hoku).2;have Hnear := H5 hnear; clear hnear;have hg : ∀ wx, Calls Tryz.prog 145 #[.int .u64 ((gw cu (j + N) : Nat) : Int), .int .u64 ((gw cu (j + N - 1) : Nat) : Int), .int .u64 ((gw cu (j + N - 2) : Nat) : Int), .int .u64 ((gw vs (N - 1) : Nat) : Int), .int .u64 ((gw vs (N - 2) : Nat) : Int)] wx
     fun e w' => e = .returned (.int .u64 ((gq (gw cu (j + N)) (gw cu (j + N - 1)) (gw cu (j + N - 2)) (gw vs (N - 1)) (gw vs (N - 2)) : Nat) : Int)) /\ ∃ m, w' = wx.drewN m :=
     fun wx => zE _ _ _ _ _ wx (by have := Hvtop.out; omega) (hNvo.out.gw _) (hNvo.out.gw _) Hnear.out.1 (hoku.gw _) (hoku.gw _)
    generalize hdd : gq (gw cu (j + N)) (gw cu (j + N - 1)) (gw cu (j + N - 2)) (gw vs (N - 1)) (gw vs (N - 2)) = dd at *;have hdL : dd <= 18446744073709551615 := by rw [<- hdd]; exact gq_lt ..
    clear hdd;go_wp2
    go_quiet ((go_at_call 145; refine Calls.quiet_of (hg _)))
    go_wp2_with fail
    rw [(by omega : j + N + 1 - j = N + 1)];have hdW : dd < W := by unfold W; omega
    refine (Cj _ bu j _ _ N N vs cu dd _ (hru.drewN _) hoku rfl (by have := Hcl.out; omega) ((hrv.drewN _).j3 hNvo.out) (fun _ a ha => by cases ha; exact hvu) Hvl.out.symm (by have := Hcl.out; omega) hdW).mono ?_;rintro e w4 ⟨cu1, lent, rfl, hR1, hl1, hs1, he1⟩;have hbx : Below w.heap.size w (wr.drewN nq) := hb.grown (fb (World.grownBy.refl _ none) nq) hb.size (fun k e => by cases e);have hb4 := hR1.below hbx hBu hb.size;have hrv4 := (hrv.drewN nq).grown hR1.grown hvu;have hrq4 := (hrq.drewN nq).grown hR1.grown (fun e => hu e.symm);have hcl1 : Hid (cu1.length = m + 1) := H5 (by rw [hR1.len]; exact Hcl.out);have hVp : 0 < a7 vs := by have := HI.out.lt; omega
    have ht1 := o5 hR1.ok j (N + 1);have htk := took Hnear.out.2.1 Hnear.out.2.2 hVp he1 ht1 hl1;have hVP : a7 vs <= W ^ (N + 1) := by
     have h1 := dP hNvo.out;rw [Hvl.out] at h1;exact Nat.le_trans (Nat.le_of_lt h1) (Nat.pow_le_pow_right bE (by omega))
    have Hs1 := H5 hs1; clear hs1;have He1 := H5 he1; clear he1;have Htk := H5 htk; clear htk;have Ht1 := H5 ht1; clear ht1;have HVP := H5 hVP; clear hVP;have HVp := H5 hVp; clear hVp;by_cases hz : lent = 0
    . have hn := HI.out.next hoku hR1.ok hNvo.out Hvl.out (by have := Hql.out; omega : j < qs.length) (Htk.out.1 hz).1 (fun i hi => Hs1.out i (.inl hi)) (Htk.out.1 hz).2;have Hn := H5 hn; clear hn;have t1 : (((lent : Nat) : Int) != 0) = false := by rw [hz]; rfl
      clear hz;have hcell := hrq4.word (i := j) (by have := Hql.out; omega);have hfree := hrq4.free j;have i1 : (j : Int) < (m : Int) - (N : Int) + 1 := by omega
      go_wp2;go_roundw
      case rel =>
       exact ⟨j, _, _, by omega, by go_num, hrv4.other hv _, hR1.row.other hu _, hrq4.dp j _, hR1.ok, hokq.set _ _ Hn.out.1, hcl1, H5 (by rw [List.length_set]; exact Hql.out), hb4.setCell hBq _, H5 Hn.out.2⟩
      case measure => simp [intOf]
    . have t1 : (((lent : Nat) : Int) != 0) = true := by rw [bne_iff_ne]; omega
      have hd1 := Htk.out.2 hz;have hdp : 1 <= dd := by rw [hd1]; exact Nat.succ_le_succ (Nat.zero_le _)
      have hl2 : lent = 1 := by omega
      subst hl2;have Hd1 := H5 hd1; clear hd1;clear hz;go_wp2_with fail
      rw [(by omega : j + N + 1 - j = N + 1)];refine (CX _ bu j _ _ N N vs cu1 _ hR1.row hR1.ok rfl (by have := hcl1.out; omega) (hrv4.j3 hNvo.out) (fun _ a ha => by cases ha; exact hvu) Hvl.out.symm (by have := hcl1.out; omega)).mono ?_;rintro e w5 ⟨rfl, cu2, cr, hR2, hs2, he2⟩;have hb5 := hR2.below hb4 hBu hb4.size;have hrv5 := hrv4.grown hR2.grown hvu;have hrq5 := hrq4.grown hR2.grown (fun e => hu e.symm);have hgv := gave Hd1.out HVp.out He1.out (o5 hR2.ok j (N + 1)) HVP.out he2;have hn := HI.out.next hoku hR2.ok hNvo.out Hvl.out (by have := Hql.out; omega : j < qs.length) hgv.1 (fun i hi => by rw [hs2 i (.inl hi)]; exact Hs1.out i (.inl hi)) hgv.2;have Hn := H5 hn; clear hn hgv hs2 he2;have hcell := hrq5.word (i := j) (by have := Hql.out; omega);have hfree := hrq5.free j;have i1 : (j : Int) < (m : Int) - (N : Int) + 1 := by omega
      have hce : (((dd - 1 : Nat)) : Int) = (dd : Int) - 1 := by omega
      go_wp2;go_roundw
      case rel =>
       rw [<- hce];exact ⟨j, _, _, by omega, by go_num, hrv5.other hv _, hR2.row.other hu _, hrq5.dp j _, hR2.ok, hokq.set _ _ Hn.out.1, H5 (by rw [hR2.len]; exact hcl1.out), H5 (by rw [List.length_set]; exact Hql.out), hb5.setCell hBq _, H5 Hn.out.2⟩
      case measure => simp [intOf]
theorem AP {y : Nat} (h : aa y = 1) : gw (ew y) 0 = y /\ y ≠ 0 /\ y < W := by
 have h0 : y ≠ 0 := fun e => by rw [e, bg] at h; omega
 have h1 := bK y;rw [h, Nat.pow_one] at h1;refine ⟨?_, h0, h1⟩;rw [j6 h0]; simp [gw, List.getD_eq_getElem?_getD, Nat.mod_eq_of_lt h1]
theorem zG {y : Nat} (h : y ≠ 0) : gw (ew y) (aa y - 1) ≠ 0 := by
 have h1 := yf y;have h2 : aj (ew y) ≠ 0 := fun e => h ((gk (ui y)).1 e ▸ (cM y).symm);have := sr (ew y) h2;rw [h1] at this;exact this
theorem ec (y : Nat) : (ew y).length = aa y := rfl
theorem oe (aoA aoB : Option Addr) (lA lB cA cB : Nat) (xs ys : List Nat) (w : World) (hA : cU w aoA xs) (hB : cU w aoB ys) (hlA : lA = xs.length) (hlB : lB = ys.length) (hmA : lA <= 17592186044415) (hmB : lB <= 17592186044415) (hY : a7 ys ≠ 0) :
 Calls Tryz.prog 100 #[.slice aoA lA cA, .slice aoB lB cB] w fun e w' =>
  (∃ aq cq ar cr, e = .returned (.tuple #[.slice aq (aa (a7 xs / a7 ys)) cq, .slice ar (aa (a7 xs % a7 ys)) cr, .int .i64 0]) /\ ct w' w.heap.size aq (aa (a7 xs / a7 ys)) cq (ew (a7 xs / a7 ys)) /\
   ct w' w.heap.size ar (aa (a7 xs % a7 ys)) cr (ew (a7 xs % a7 ys))) /\ Below w.heap.size w w' := by
 subst hlA hlB;have hwA := ep hA.ok;have hwB := ep hB.ok;have t0 : ((aa (a7 ys) : Int) == 0) = false := by
  rw [beq_eq_false_iff_ne];have : aa (a7 ys) ≠ 0 := fun e => hY (da.1 e);omega
 have hw0 : aa (a7 ys) ≠ 0 := fun e => hY (da.1 e);have HY := H5 hY; clear hY;go_enter Tryz.func100, Tryz.ntmps100;go_wp2_with fail
 refine (eC _ _ _ ys _ hB rfl (by omega)).mono ?_;rintro e w1 ⟨⟨ay, cy, rfl, hO1⟩, hb1⟩;by_cases h1 : aa (a7 ys) = 1
 . have t1 : ((aa (a7 ys) : Int) == 1) = true := by rw [h1]; rfl
   obtain ⟨g1, g2, g3⟩ := AP h1;obtain ⟨b2, o2, rfl, hb2, hc2⟩ := hO1.at_.pos (by rw [ec]; omega);have ey := hc2 0 (by rw [ec]; omega);rw [g1, Nat.add_zero] at ey;have i1 : 0 < aa (a7 ys) := by omega
   have Hh1 := H5 h1; clear h1 hc2;go_wp2_with fail
   refine (CO aoA _ _ xs (a7 ys) _ (hA.below hb1) rfl (by omega) g2 g3).mono ?_;rintro e w2 ⟨⟨aq, cq, rfl, hO2⟩, hb2⟩;go_wp2_with fail
   have hrow : a6 (w2.alloc (.cells #[.int .u64 ((a7 xs : Int) % (a7 ys : Int))] 47)) w2.heap.size 47 ([a7 xs % a7 ys].map wv) := by
    have := a6.new w2 #[.int .u64 ((a7 xs : Int) % (a7 ys : Int))] 47;rw [<- Int.natCast_emod] at this |-;exact this
   have hrW : a7 xs % a7 ys < W := Nat.lt_trans (Nat.mod_lt _ (by omega)) g3;have hb3 : Below w2.heap.size w2 (w2.alloc (.cells #[.int .u64 ((a7 xs : Int) % (a7 ys : Int))] 47)) := (Below.refl _ _).alloc (Nat.le_refl _) _;have hw1 := hrow.j3 (Ok.one hrW);have hv1 : a7 [a7 xs % a7 ys] = a7 xs % a7 ys := by simp [a7]
   have hL := eC _ 1 1 [a7 xs % a7 ys] _ hw1 rfl (by omega);rw [hv1] at hL;refine hL.mono ?_;rintro e w4 ⟨⟨ar, cr, rfl, hO4⟩, hb4⟩;clear hL hv1 hw1 hrow;generalize w2.alloc (.cells #[.int .u64 ((a7 xs : Int) % (a7 ys : Int))] 47) = w3 at *;go_wp2;go_ret3;have s1 := hb1.size;have s2 := hb2.size;have s3 := hb3.size;exact ⟨⟨aq, cq, ar, cr, rfl, ((hO2.mono hb1.size).below hb3).below hb4, hO4.mono (by omega)⟩, ((hb1.trans (hb2.mono s1)).trans (hb3.mono (by omega))).trans (hb4.mono (by omega))⟩
 . have t1 : ((aa (a7 ys) : Int) == 1) = false := by rw [beq_eq_false_iff_ne]; omega
   have i2 : 2 <= aa (a7 ys) := by omega
   clear h1;go_wp2_with fail
   refine (eC _ _ _ xs _ (hA.below hb1) rfl (by omega)).mono ?_;rintro e w2 ⟨⟨ax, cx, rfl, hO2⟩, hb2⟩;go_wp2_with fail
   have s1 := hb1.size;have s2 := hb2.size;have hO1' := hO1.below hb2;refine (vY _ _ _ _ _ _ (ew (a7 xs)) (ew (a7 ys)) _ hO2.at_ hO1'.at_ (ec _).symm (ec _).symm (by omega) (by omega)).mono ?_;rintro e w3 ⟨rfl, hb3⟩;rw [cM, cM];have s3 := hb3.size;have hb03 := (hb1.trans (hb2.mono s1)).trans (hb3.mono (by omega));by_cases hlt : a7 xs < a7 ys
   . rw [ny hlt];have Hlt := H5 hlt; clear hlt;go_wp2;go_ret3;have e1 : a7 xs / a7 ys = 0 := Nat.div_eq_of_lt Hlt.out;have e2 : a7 xs % a7 ys = a7 xs := Nat.mod_eq_of_lt Hlt.out;rw [e1, e2, bg, ed];exact ⟨⟨none, 0, ax, cx, rfl, ct.nil _ _, (hO2.mono s1).below hb3⟩, hb03⟩
   . have hc : decide (gB (a7 xs) (a7 ys) < 0) = false := by
      unfold gB; rw [if_neg hlt]; split <;> rfl
     have hge : a7 ys <= a7 xs := by omega
     have hwle := aF hge;clear hlt hge;generalize hcm : gB (a7 xs) (a7 ys) = cm at *;have Hcm := H5 hcm; clear hcm;go_wp2_with fail
     have hLg := BH ax ay (aa (a7 xs)) (aa (a7 ys)) cx cy (ew (a7 xs)) (ew (a7 ys)) w3 (hO2.below hb3).at_ (hO1'.below hb3).at_ (ec _).symm (ec _).symm (by omega) i2 hwle (zG HY.out);rw [cM, cM] at hLg;refine hLg.mono ?_;rintro e w4 ⟨⟨aq, cq, ar, cr, rfl, hOq, hOr⟩, hb4⟩;clear hLg;go_wp2;go_ret3;exact ⟨⟨aq, cq, ar, cr, rfl, hOq.mono (by omega), hOr.mono (by omega)⟩, hb03.trans (hb4.mono (by omega))⟩
theorem zw (aoA aoB : Option Addr) (lA lB cA cB : Nat) (xs ys : List Nat) (w : World) (hA : cU w aoA xs) (hB : cU w aoB ys) (hlA : lA = xs.length) (hlB : lB = ys.length) (hmA : lA <= 17592186044415) (hmB : lB <= 17592186044415) (hY : a7 ys ≠ 0) (hd : a7 xs % a7 ys = 0) :
 Calls Tryz.prog 79 #[.slice aoA lA cA, .slice aoB lB cB] w fun e w' =>
  (∃ aq cq, e = .returned (.tuple #[.slice aq (aa (a7 xs / a7 ys)) cq, .int .i64 0]) /\ ct w' w.heap.size aq (aa (a7 xs / a7 ys)) cq (ew (a7 xs / a7 ys))) /\ Below w.heap.size w w' := by
 have h := oe aoA aoB lA lB cA cB xs ys w hA hB hlA hlB hmA hmB hY;rw [hd, bg] at h;have Hh := H5 h; clear h hlA hlB hd hY;go_enter Tryz.func79, Tryz.ntmps79;go_wp2_with fail
 refine Hh.out.mono ?_;rintro e w1 ⟨⟨aq, cq, ar, cr, rfl, hO1, hO2⟩, hb1⟩;go_wp2;go_ret2;exact ⟨⟨aq, cq, rfl, hO1⟩, hb1⟩
def zi (n : Bool) (m : Nat) : Int := if n then -(m : Int) else (m : Int)
def ae (w : World) (B : Nat) (v : Value) (x : Int) : Prop :=
 ∃ ao cap, v = .agg #[.bool (decide (x < 0)), .slice ao (aa x.natAbs) cap] /\ ct w B ao (aa x.natAbs) cap (ew x.natAbs)
def a8 (w : World) (L : Nat) (v : Value) (x : Int) : Prop :=
 ∃ n ao len cap ws, v = .agg #[.bool n, .slice ao len cap] /\ cU w ao ws /\ len = ws.length /\ len <= L /\ len <= cap /\ x = zi n (a7 ws)
theorem zi_of (x : Int) : zi (decide (x < 0)) x.natAbs = x := by
 unfold zi; split <;> rename_i h <;> simp at h <;> omega
theorem wL (n : Bool) (m : Nat) : decide (zi n m < 0) = (n && decide (0 < m)) := by
 unfold zi; cases n <;> simp
theorem fQ (n : Bool) (m : Nat) : (zi n m).natAbs = m := by unfold zi; cases n <;> simp
theorem ae.at_ {w : World} {B : Nat} {v : Value} {x : Int} (h : ae w B v x) : a8 w (aa x.natAbs) v x := by
 obtain ⟨ao, cap, rfl, hO⟩ := h;exact ⟨_, ao, _, cap, _, rfl, hO.at_, hO.len, Nat.le_refl _, hO.cap.1, by rw [cM, zi_of]⟩
theorem ae.below {w w' : World} {B : Nat} {v : Value} {x : Int} (h : ae w B v x) (hb : Below w.heap.size w w') : ae w' B v x := by
 obtain ⟨ao, cap, rfl, hO⟩ := h;exact ⟨ao, cap, rfl, hO.below hb⟩
theorem ae.mono {w : World} {B B' : Nat} {v : Value} {x : Int} (h : ae w B v x) (hb : B' <= B) : ae w B' v x := by
 obtain ⟨ao, cap, rfl, hO⟩ := h;exact ⟨ao, cap, rfl, hO.mono hb⟩
theorem a8.below {w w' : World} {L : Nat} {v : Value} {x : Int} (h : a8 w L v x) (hb : Below w.heap.size w w') : a8 w' L v x := by
 obtain ⟨n, ao, len, cap, ws, rfl, hW, hl, hL, hc, hx⟩ := h;exact ⟨n, ao, len, cap, ws, rfl, hW.below hb, hl, hL, hc, hx⟩
theorem a8.mono {w : World} {L L' : Nat} {v : Value} {x : Int} (h : a8 w L v x) (hL : L <= L') : a8 w L' v x := by
 obtain ⟨n, ao, len, cap, ws, rfl, hW, hl, hL1, hc, hx⟩ := h;exact ⟨n, ao, len, cap, ws, rfl, hW, hl, by omega, hc, hx⟩
theorem ae.mk {w : World} {B : Nat} {ao : Option Addr} {cap m : Nat} (n : Bool) (h : ct w B ao (aa m) cap (ew m)) : ae w B (.agg #[.bool (n && decide (0 < aa m)), .slice ao (aa m) cap]) (zi n m) := by
 refine ⟨ao, cap, ?_, by rw [fQ]; exact h⟩;rw [fQ, wL];congr 5;rcases Nat.eq_zero_or_pos m with h0 | h0
 . subst h0; rw [bg]
 . have : aa m ≠ 0 := fun e => by have := da.1 e; omega
   simp; omega
theorem oP (n : Bool) (ao : Option Addr) (len cap : Nat) (w : World) :
 Calls Tryz.prog 34 #[.bool n, .slice ao len cap] w fun e w' => e = .returned (.agg #[.bool (n && decide (0 < len)), .slice ao len cap]) /\ Below w.heap.size w w' := by
 go_enter Tryz.func34, Tryz.ntmps34;cases n
 . go_wp2;exact bodyPost_ret (v := .agg #[.bool false, .slice ao len cap]) (by simp [results, Tryz.results34, go_sem]) rfl ⟨rfl, (Below.refl _ _).alloc (Nat.le_refl _) _⟩
 . go_wp2;exact bodyPost_ret (v := .agg #[.bool (decide (0 < len)), .slice ao len cap]) (by simp [results, Tryz.results34, go_sem]) rfl ⟨by simp, (Below.refl _ _).alloc (Nat.le_refl _) _⟩
theorem gg (w : World) (c1 c2 : Array Value) (t1 t2 : TypeId) : a6 ((w.alloc (.cells c1 t1)).alloc (.cells c2 t2)) w.heap.size t1 c1.toList /\ a6 ((w.alloc (.cells c1 t1)).alloc (.cells c2 t2)) (w.heap.size + 1) t2 c2.toList /\
 Below w.heap.size w ((w.alloc (.cells c1 t1)).alloc (.cells c2 t2)) := by
 have e : (w.alloc (.cells c1 t1)).heap.size = w.heap.size + 1 := by simp
 refine ⟨(a6.new w c1 t1).alloc _, ?_, ((Below.refl _ _).alloc (Nat.le_refl _) _).alloc (by omega) _⟩;have := a6.new (w.alloc (.cells c1 t1)) c2 t2
 rwa [e] at this
theorem ct.fN {w : World} {B : Nat} {ao : Option Addr} {len cap : Nat} {ws : List Nat} (h : ct w B ao len cap ws) {p : Addr} (hp : p.block < B) (v : Value) : ct (w.setCell p v) B ao len cap ws := by
 obtain ⟨h1, h2, h3, h4⟩ := h;refine ⟨h1, h2, h3, ?_⟩;rcases h4 with h0 | ⟨g, c, cur, hv, hbb, hg, r⟩
 . exact .inl h0
 . exact .inr ⟨g, c, cur, hv, hbb, by rw [Below.heap_setCell _ _ _ _ (by omega)]; exact hg, r⟩
theorem cc {fn : Func} {p : Tmp} (h : fn.results = #[.cell p 40]) (tmps : Array Value) (w : World) (g : Nat) (a b : Value) (hp : tmps.getD p undef = .pointer (some ⟨g, 0, none⟩)) (hr : a6 w g 40 [a, b]) :
 (results fn tmps).run Tryz.prog w = .ok (.agg #[a, b]) w :=
 results_cell_row h tmps w g 40 #[a, b] (0, 0) _ hp hr Tryz.underlying40 rfl (by kernel_rfl)
theorem a6.l4 {w : World} {b : Nat} {t : TypeId} {x y : Value} (h : a6 w b t [x, y]) (u v : Value) : a6 ((w.setCell ⟨b, 0, none⟩ u).setCell ⟨b, 1, none⟩ v) b t [u, v] := by
 have := (h.set 0 u).set 1 v;exact this
theorem gJ (v : Value) (x : Int) (w : World) (hA : a8 w 17592186044415 v x) :
 Calls Tryz.prog 40 #[v] w fun e w' => (∃ v', e = .returned v' /\ ae w' w.heap.size v' x) /\ Below w.heap.size w w' := by
 obtain ⟨n, ao, len, cap, ws, rfl, hW, hl, hL, hc, hx⟩ := hA;have Hx := H5 hx; clear hx;have Hl := H5 hl; clear hl;go_enter Tryz.func40, Tryz.ntmps40;go_wp2;obtain ⟨r1, r2, hb⟩ := gg w #[.bool n, .slice ao len cap] #[.bool false, .slice none 0 0] 40 40;have hW2 := hW.below hb;generalize (w.alloc (.cells #[.bool n, .slice ao len cap] 40)).alloc (.cells #[.bool false, .slice none 0 0] 40) = w2 at *;have e1 : w2.cell? ⟨w.heap.size, 0, none⟩ = some (.bool n) := r1.cell 0;have e2 : w2.cell? ⟨w.heap.size, 1, none⟩ = some (.slice ao len cap) := r1.cell 1;have hb1 := r1.lt;have hb2 := r2.lt;have Hr2 := H5 r2;have HW2 := H5 hW2;clear r1 r2 hW2
 go_region_held3 (fun w' => w'.cell? ⟨w.heap.size, 0, none⟩ = some (.bool n) /\ w'.cell? ⟨w.heap.size, 1, none⟩ = some (.slice ao len cap))
  (first | exact ⟨e1, e2⟩ | exact ⟨(hb3.cell hb1).trans e1, (hb3.cell hb1).trans e2⟩ | exact ⟨(hb5.cell (Nat.lt_succ_self _)).trans e1, (hb5.cell (Nat.lt_succ_self _)).trans e2⟩ | exact ⟨(((hb5.setCell (Nat.le_refl _) _).setCell (Nat.le_refl _) _).cell (Nat.lt_succ_self _)).trans e1, (((hb5.setCell (Nat.le_refl _) _).setCell (Nat.le_refl _) _).cell (Nat.lt_succ_self _)).trans e2⟩)
  (first
   | (go_at_call 35; refine (eC _ _ _ ws _ (by exact HW2.out) Hl.out (by omega)).mono ?_; rintro e w3 ⟨⟨ao', cap', rfl, hO⟩, hb3⟩)
   | (go_at_call 34; refine (oP n _ _ _ _).mono ?_; rintro e w4 ⟨rfl, hb4⟩; have hb5 : Below (w.heap.size + 1) w2.drew w4 := (hb3.trans (hb4.mono hb3.size)).mono (Nat.le_of_lt hb2); have hr4 := (a6.below (w := w2.drew) Hr2.out hb3 hb2).below hb4 (Nat.lt_of_lt_of_le hb2 hb3.size); have hf0 := hr4.free 0; have hf1 := hr4.free 1; have hc0 := hr4.cell 0; have hc1 := hr4.cell 1))
 go_wp2;have hr5 := hr4.l4 (.bool (n && decide (0 < aa (a7 ws)))) (.slice ao' (aa (a7 ws)) cap');have hs2 : w.heap.size <= w2.heap.size := by omega
 have hbf : Below w.heap.size w w4 := (hb.drew.trans (hb3.mono hs2)).trans (hb4.mono (Nat.le_trans hs2 hb3.size));refine bodyPost_ret (cc (p := 2) (by kernel_rfl) _ _ (w.heap.size + 1) _ _ rfl hr5) rfl ?_;rw [Hx.out];have hO' := (hO.mono (B' := w.heap.size + 2) (by show w.heap.size + 2 <= w2.heap.size; omega)).below hb4;exact ⟨⟨_, rfl, ae.mk n (((hO'.fN (by show w.heap.size + 1 < w.heap.size + 2; omega) _).fN (by show w.heap.size + 1 < w.heap.size + 2; omega) _).mono (by omega))⟩, (hbf.setCell (Nat.le_succ _) _).setCell (Nat.le_succ _) _⟩
def lK (n : Nat) : Prop := ∀ (aoA aoB : Option Addr) (lA cA lB cB : Nat) (xs ys : List Nat) (w : World), cU w aoA xs -> cU w aoB ys -> lA = xs.length -> lB = ys.length -> lA <= cA -> lB <= cB -> lA + lB < n -> lA + lB <= 17592186044416 ->
 Calls Tryz.prog 87 #[.slice aoA lA cA, .slice aoB lB cB] w fun e w' => ∃ b zs, e = .returned (.slice (some ⟨b, 0, none⟩) (aj xs + aj ys) (aj xs + aj ys)) /\ ud w w' b zs /\ zs.length = aj xs + aj ys /\ a7 zs = a7 xs * a7 ys
theorem rV {w w' : World} (h : Below w.heap.size w w') (r : Option Nat) : w.grownBy w' r := ⟨h.os, h.tape, h.output, h.size, fun k hk _ => h.block k hk⟩
theorem js {cur cur' : List Nat} {o lz cr N : Nat} (hl : cur.length = o + lz) (hl' : cur'.length = o + lz) (hs : ∀ j, j < o \/ o + lz <= j -> gw cur' j = gw cur j) (he : sv cur' o lz + W ^ lz * cr = sv cur o lz + N) :
 a7 cur' + W ^ (o + lz) * cr = a7 cur + W ^ o * N := by
 have e1 : a7 cur' = sv cur' 0 o + W ^ o * sv cur' o lz := by rw [<- fF, hl', lQ, Nat.zero_add]
 have e2 : a7 cur = sv cur 0 o + W ^ o * sv cur o lz := by rw [<- fF, hl, lQ, Nat.zero_add]
 have e3 : sv cur' 0 o = sv cur 0 o := oj fun i hi => hs _ (by omega);rw [e1, e2, e3, Nat.pow_add, Nat.mul_assoc];have : W ^ o * sv cur' o lz + W ^ o * (W ^ lz * cr) = W ^ o * sv cur o lz + W ^ o * N := by rw [<- Nat.mul_add, he, Nat.mul_add]
 omega
theorem qX {A B n cr : Nat} (h : A + W ^ n * cr = B) (hB : B < W ^ n) : cr = 0 := by
 refine Decidable.byContradiction fun hn => ?_;have h1 : W ^ n * 1 <= W ^ n * cr := Nat.mul_le_mul_left _ (by omega);rw [Nat.mul_one] at h1;omega
theorem kara {a0 a1 b0 b1 M : Nat} : (a0 + M * a1) * (b0 + M * b1) = a0 * b0 + M * ((a0 + a1) * (b0 + b1) - a0 * b0 - a1 * b1) + M * M * (a1 * b1) := by
 have e : (a0 + a1) * (b0 + b1) - a0 * b0 - a1 * b1 = a0 * b1 + a1 * b0 := by
  rw [Nat.add_mul, Nat.mul_add, Nat.mul_add]; omega
 rw [e, Nat.add_mul, Nat.mul_add, Nat.mul_add, Nat.mul_add];have e1 : a0 * (M * b1) = M * (a0 * b1) := Nat.mul_left_comm ..;have e2 : M * a1 * b0 = M * (a1 * b0) := Nat.mul_assoc ..;have e3 : M * a1 * (M * b1) = M * M * (a1 * b1) := by rw [Nat.mul_mul_mul_comm]
 rw [e1, e2, e3]; omega
theorem yD (n : Nat) (IH : lK n) (aoA aoB : Option Addr) (b lz cz lA cA lB cB : Nat) (xs ys : List Nat) (w : World) (hrow : a6 w b 47 ((List.replicate (lA + lB) 0).map wv)) (hA : cU w aoA xs) (hB : cU w aoB ys)
 (hlA : lA = xs.length) (hlB : lB = ys.length) (hcA : cA = lA) (hcB : cB = lB) (hm : lA + lB <= 17592186044416) (hlz : lz = lA + lB) (hcz : cz = lz) (h24 : 24 <= lB) (hBA : lB <= lA) (h2 : lA < 2 * lB) (hn : lA + lB < n + 1)
 (hneA : ki aoA xs b) (hneB : ki aoB ys b) :
 Calls Tryz.prog 109 #[.slice (some ⟨b, 0, none⟩) lz cz, .slice aoA lA cA, .slice aoB lB cB] w fun e w' => e = .returned (.tuple #[]) /\ ∃ cur', a7 cur' = a7 xs * a7 ys /\ a6 w' b 47 (cur'.map wv) /\ Ok cur' /\ cur'.length = lA + lB /\ w.grownBy w' (some b) := by
 subst hlA hlB hcA hcB hlz hcz;obtain ⟨b1, o1, rfl, hb1, _⟩ := hA.pos (by omega);obtain ⟨b2, o2, rfl, hb2, _⟩ := hB.pos (by omega);obtain ⟨m, hh⟩ : ∃ m, m = (xs.length + 1) / 2 := ⟨_, rfl⟩;have g1 : 2 * m <= xs.length + 1 := by omega
 have g2 : xs.length <= 2 * m := by omega
 have hd : ((xs.length : Int) + 1) / 2 = (m : Int) := by omega
 have n1 : ¬ xs.length = m := by omega
 clear hh;have hIH := H5 IH; clear IH;have W1 := H5 (hA.take m);have W2 := H5 (hA.drop m);have W3 := H5 (hB.take m);have hL1 : (xs.take m).length = m := by rw [List.length_take]; omega
 have hL2 : (xs.drop m).length = xs.length - m := List.length_drop;have hL3 : m <= ys.length -> (ys.take m).length = m := fun h => by rw [List.length_take]; omega
 have hL4 : (ys.drop m).length = ys.length - m := List.length_drop;have HL1 := H5 hL1; clear hL1;have HL2 := H5 hL2; clear hL2;have HL3 := H5 (hL3 (by omega)); clear hL3;have HL4 := H5 hL4; clear hL4;have Hrow := H5 hrow; clear hrow;obtain ⟨ad4, W4, hmy, hcase⟩ : ∃ ad4 : Option Addr, Hid (cU w ad4 (ys.drop m)) /\ m <= ys.length /\ Hid ((ys.length = m /\ ad4 = some ⟨b2, o2, none⟩) \/ (m < ys.length /\ ad4 = some ⟨b2, o2 + m, none⟩)) := by
  by_cases hbm : ys.length = m
  . exact ⟨_, H5 (by rw [List.drop_eq_nil_of_le (by omega)]; exact cU.nil _ _), by omega, H5 (.inl ⟨hbm, rfl⟩)⟩
  . exact ⟨_, H5 (hB.drop m), by omega, H5 (.inr ⟨by omega, rfl⟩)⟩
 go_enter Tryz.func109, Tryz.ntmps109;go_wp2
 go_quiet (fail)
 go_upto_region 3 with (fail)
 go_cut [0, 2, 6, 7, 8, 9, 10] (fun s0 _ s6 s7 s8 s9 s10 wc => s0 = .slice (some ⟨b, 0, none⟩) (xs.length + ys.length) (xs.length + ys.length) /\ s6 = .int .i64 (m : Int) /\ s7 = .slice (some ⟨b1, o1, none⟩) m m /\
  s8 = .slice (some ⟨b1, o1 + m, none⟩) (xs.length - m) (xs.length - m) /\ s9 = .slice (some ⟨b2, o2, none⟩) m m /\ s10 = .slice ad4 (ys.length - m) (ys.length - m) /\ w.grownBy wc none)
 case first =>
  rcases hcase.out with ⟨hbm, rfl⟩ | ⟨hbm, rfl⟩
  . go_wp2
    go_quiet (fail)
    go_wp2
    go_meet
    exact ⟨by rw [hbm], rfl, rfl, rfl, rfl, by rw [hbm, Nat.sub_self], fb (fb (World.grownBy.refl _ _) _) _⟩
  . go_wp2
    go_quiet (fail)
    go_wp2
    go_meet
    exact ⟨rfl, rfl, rfl, rfl, rfl, rfl, fb (fb (World.grownBy.refl _ _) _) _⟩
 case rest =>
  obtain ⟨rfl, rfl, rfl, rfl, rfl, rfl, hg0⟩ := hcut;have hb0 : Below w.heap.size w wc := (Below.refl _ _).grown hg0 (Nat.le_refl _) (fun k e => by cases e);go_wp2_with fail
  refine (hIH.out _ _ _ _ _ _ (xs.take m) (ys.take m) _ (W1.out.below hb0) (W3.out.below hb0) HL1.out.symm HL3.out.symm (Nat.le_refl _) (Nat.le_refl _) (by omega) (by omega)).mono ?_;rintro e w3 ⟨b3, z3, rfl, hN3, hl3, hv3⟩;have hb3 : Below w.heap.size w w3 := hb0.trans (hN3.below.mono hb0.size);have Hl3 := H5 hl3; clear hl3;have Hv3 := H5 hv3; clear hv3;go_wp2_with fail
  refine (mb _ _ _ z3 _ (hN3.row.j3 hN3.ok) Hl3.out.symm (by have := aH (xs.take m); have := aH (ys.take m); have := HL1.out; have := HL3.out; omega) (Nat.le_refl _)).mono ?_;rintro e w3' ⟨rfl, rfl⟩;go_wp2_with fail
  refine (hIH.out _ _ _ _ _ _ (xs.drop m) (ys.drop m) _ (W2.out.below hb3) (W4.out.below hb3) HL2.out.symm HL4.out.symm (Nat.le_refl _) (Nat.le_refl _) (by omega) (by omega)).mono ?_;rintro e w4 ⟨b4, z4, rfl, hN4, hl4, hv4⟩;have hb4 : Below w.heap.size w w4 := hb3.trans (hN4.below.mono hb3.size);have Hl4 := H5 hl4; clear hl4;have Hv4 := H5 hv4; clear hv4;go_wp2_with fail
  refine (mb _ _ _ z4 _ (hN4.row.j3 hN4.ok) Hl4.out.symm (by have := aH (xs.drop m); have := aH (ys.drop m); have := HL2.out; have := HL4.out; omega) (Nat.le_refl _)).mono ?_;rintro e w4' ⟨rfl, rfl⟩;go_wp2_with fail
  refine (Bs _ _ _ _ _ _ (xs.take m) (xs.drop m) _ (W1.out.below hb4) (W2.out.below hb4) HL1.out.symm HL2.out.symm (by omega) (by omega)).mono ?_;rintro e w5 ⟨b5, z5, rfl, hN5, hl5, hv5⟩;have hb5 : Below w.heap.size w w5 := hb4.trans (hN5.below.mono hb4.size);have Hl5 := H5 hl5; clear hl5;have Hv5 := H5 hv5; clear hv5;go_wp2_with fail
  refine (Bs _ _ _ _ _ _ (ys.take m) (ys.drop m) _ (W3.out.below hb5) (W4.out.below hb5) HL3.out.symm HL4.out.symm (by omega) (by omega)).mono ?_;rintro e w6 ⟨b6, z6, rfl, hN6, hl6, hv6⟩;have hb6 : Below w.heap.size w w6 := hb5.trans (hN6.below.mono hb5.size);have Hl6 := H5 hl6; clear hl6;have Hv6 := H5 hv6; clear hv6;go_wp2_with fail
  refine (hIH.out _ _ _ _ _ _ z5 z6 _ ((hN5.row.j3 hN5.ok).below hN6.below) (hN6.row.j3 hN6.ok) Hl5.out.symm Hl6.out.symm (Nat.le_refl _) (Nat.le_refl _) (by omega) (by omega)).mono ?_;rintro e w7 ⟨b7, z7, rfl, hN7, hl7, hv7⟩;have hb7 : Below w.heap.size w w7 := hb6.trans (hN7.below.mono hb6.size);have Hl7 := H5 hl7; clear hl7;have Hv7 := H5 hv7; clear hv7;have hTX : (a7 (xs.take m) + W ^ m * a7 (xs.drop m)) = a7 xs := (fm xs m (by omega)).symm;have hTY : (a7 (ys.take m) + W ^ m * a7 (ys.drop m)) = a7 ys := (fm ys m (by omega)).symm;have HT := H5 (And.intro hTX hTY); clear hTX hTY;have k3 : aj z3 <= aj z7 := by
   rw [<- bU hN3.ok, <- bU hN7.ok];refine aF ?_;rw [Hv3.out, Hv7.out, Hv5.out, Hv6.out, Nat.add_mul, Nat.mul_add]; omega
  have k4 : aj z4 <= aj z7 := by
   rw [<- bU hN4.ok, <- bU hN7.ok];refine aF ?_;rw [Hv4.out, Hv7.out, Hv5.out, Hv6.out, Nat.add_mul, Nat.mul_add, Nat.mul_add]; omega
  have k7 := aH z7;have k8 := aH z5;have k9 := aH z6;rw [Hl5.out] at k8;rw [Hl6.out] at k9;rw [Hl7.out] at k7;have hW3 : cU w7 (some ⟨b3, 0, none⟩) (z3.take (aj z3)) := ((((hN3.row.j3 hN3.ok).below hN4.below).below hN5.below).below hN6.below).below hN7.below |>.take _;have hW4 : cU w7 (some ⟨b4, 0, none⟩) (z4.take (aj z4)) := (((hN4.row.j3 hN4.ok).below hN5.below).below hN6.below).below hN7.below |>.take _;have hl3t : (z3.take (aj z3)).length = aj z3 := by rw [List.length_take, Nat.min_eq_left (aH _)]
  have hl4t : (z4.take (aj z4)).length = aj z4 := by rw [List.length_take, Nat.min_eq_left (aH _)]
  have hv3t : a7 (z3.take (aj z3)) = a7 (xs.take m) * a7 (ys.take m) := by rw [bN hN3.ok, Hv3.out]
  have hv4t : a7 (z4.take (aj z4)) = a7 (xs.drop m) * a7 (ys.drop m) := by rw [bN hN4.ok, Hv4.out]
  have n37 : b3 ≠ b7 := by have := hN7.ge; have := (hN3.row.lt); have := hN4.below.size; have := hN5.below.size; have := hN6.below.size; omega
  have n47 : b4 ≠ b7 := by have := hN7.ge; have := (hN4.row.lt); have := hN5.below.size; have := hN6.below.size; omega
  have HL3t := H5 hl3t; clear hl3t;have HL4t := H5 hl4t; clear hl4t;have HV3t := H5 hv3t; clear hv3t;have HV4t := H5 hv4t; clear hv4t;go_wp2_with fail
  refine (pF _ _ b7 0 _ _ _ _ (z3.take (aj z3)) z7 _ hN7.row hN7.ok (.inr rfl) (by have := Hl7.out; omega) hW3 (fun _ a ha => by cases ha; exact n37) HL3t.out.symm (by omega) (by have := Hl7.out; omega)
   (by have := Hl7.out; rw [<- this, fF, HV3t.out, Hv7.out, Hv5.out, Hv6.out, Nat.add_mul, Nat.mul_add]; omega)).mono ?_
  rintro e w8 ⟨rfl, z8, hR8, _, hs8⟩;have hv8 : a7 z8 = (a7 (xs.take m) + a7 (xs.drop m)) * (a7 (ys.take m) + a7 (ys.drop m)) - a7 (xs.take m) * a7 (ys.take m) := by
   rw [<- Hl7.out, fF, HV3t.out, Hv7.out, Hv5.out, Hv6.out] at hs8;have := hR8.len;rw [<- this, fF] at hs8;omega
  have Hv8 := H5 hv8; clear hv8;clear hs8;have hW4' := hW4.grown hR8.grown (fun _ a ha => by cases ha; exact n47);go_wp2_with fail
  refine (pF _ _ b7 0 _ _ _ _ (z4.take (aj z4)) z8 _ hR8.row hR8.ok (.inr rfl) (by have := Hl7.out; have := hR8.len; omega) hW4' (fun _ a ha => by cases ha; exact n47) HL4t.out.symm (by omega) (by have := Hl7.out; have := hR8.len; omega)
   (by have := Hl7.out; rw [<- this, <- hR8.len, fF, HV4t.out, Hv8.out, Nat.add_mul, Nat.mul_add, Nat.mul_add]; omega)).mono ?_
  rintro e w9 ⟨rfl, z9, hR9, _, hs9⟩;have hv9 : a7 z9 = (a7 (xs.take m) + a7 (xs.drop m)) * (a7 (ys.take m) + a7 (ys.drop m)) - a7 (xs.take m) * a7 (ys.take m) - a7 (xs.drop m) * a7 (ys.drop m) := by
   rw [<- Hl7.out, <- hR8.len, fF, HV4t.out, Hv8.out] at hs9;have := hR9.len;rw [<- this, fF] at hs9;omega
  have Hv9 := H5 hv9; clear hv9;clear hs9;have hb9 : Below w.heap.size w w9 := hR9.below (hR8.below hb7 (by have := hN7.ge; have := hb6.size; omega) hb7.size) (by have := hN7.ge; have := hb6.size; omega) (by have := hb7.size; have := hR8.grown.size; omega);have hr9 : a6 w9 b 47 ((List.replicate (xs.length + ys.length) 0).map wv) := Hrow.out.below hb9 Hrow.out.lt;have hBb : b < w.heap.size := Hrow.out.lt;have hW3' : cU w9 (some ⟨b3, 0, none⟩) (z3.take (aj z3)) := (hW3.grown hR8.grown (fun _ a ha => by cases ha; exact n37)).grown hR9.grown (fun _ a ha => by cases ha; exact n37);have hW4'' : cU w9 (some ⟨b4, 0, none⟩) (z4.take (aj z4)) := hW4'.grown hR9.grown (fun _ a ha => by cases ha; exact n47);have q3 : aj z3 <= xs.length + ys.length := by have := aH z3; have := Hl3.out; have := aH (xs.take m); have := aH (ys.take m); have := HL1.out; have := HL3.out; omega
  go_wp2_with (with_reducible show wpList _ _ _ (⟨some 55, _, _, _, _, _⟩ :: _) _ _; refine nX rfl _ _ rfl hW3' HL3t.out.symm hr9 rfl rfl (by simp) ?_; intro w10 hr10 hg10)
  obtain ⟨c10, hc10⟩ : ∃ c10, c10 = splice (List.replicate (xs.length + ys.length) 0) 0 ((z3.take (aj z3)).take (xs.length + ys.length)) := ⟨_, rfl⟩;have hl10 : c10.length = xs.length + ys.length := by rw [hc10, length_splice _ _ _ (by simp [List.length_take]; omega)]; simp
  have hok10 : Ok c10 := by rw [hc10]; unfold splice; exact (Ok.replicate _).take _ |>.append (((hN3.ok.take _).take _).append ((Ok.replicate _).drop _))
  have hv10 : a7 c10 = a7 (xs.take m) * a7 (ys.take m) := by
   have e : (z3.take (aj z3)).take (xs.length + ys.length) = z3.take (aj z3) := List.take_of_length_le (by rw [HL3t.out]; exact q3);rw [hc10, e, <- HV3t.out];simp only [splice, List.take_zero, List.nil_append, Nat.zero_add, List.drop_replicate];exact gR _ _
  rw [<- hc10] at hr10;clear hc10;have Hl10 := H5 hl10; clear hl10;have Hv10 := H5 hv10; clear hv10;have n4b : b4 ≠ b := by have := hN4.ge; have := hb3.size; omega
  have n7b : b7 ≠ b := by have := hN7.ge; have := hb6.size; omega
  have q4 : aj z4 <= xs.length + ys.length - 2 * m := by have := aH z4; have := Hl4.out; have := aH (xs.drop m); have := aH (ys.drop m); have := HL2.out; have := HL4.out; omega
  refine (nk _ _ b (2 * m) _ _ _ _ (z4.take (aj z4)) c10 _ hr10 hok10 (.inr rfl) (by have := Hl10.out; omega) (hW4''.grown hg10 (fun _ a ha => by cases ha; exact n4b)) (fun _ a ha => by cases ha; exact n4b) HL4t.out.symm q4 (by have := Hl10.out; omega)).mono ?_;rintro e w11 ⟨rfl, c11, cr, hR11, hcr, hs11, he11⟩;have ht11 := js (o := 2 * m) (lz := xs.length + ys.length - 2 * m) (by have := Hl10.out; omega) (by have := Hl10.out; have := hR11.len; omega) hs11 he11;have Ht11 := H5 ht11; clear ht11 hs11 he11;have hl9 : z9.length = aj z5 + aj z6 := by rw [hR9.len, hR8.len, Hl7.out]
  have Hl9 := H5 hl9; clear hl9;have hW9 : cU w11 (some ⟨b7, 0, none⟩) z9 := ((hR9.row.j3 hR9.ok).grown hg10 (fun _ a ha => by cases ha; exact n7b)).grown hR11.grown (fun _ a ha => by cases ha; exact n7b);have q9 : aj z5 + aj z6 <= 35184372088832 := by omega
  have hT := H5 ((mb _ _ (aj z5 + aj z6) z9 w11.drew hW9 Hl9.out.symm q9 (Nat.le_refl _)).mono (fun _ _ h => (And.intro h.1 h.2.symm : _ /\ _ = w11.drew)));have s1 : (m : Int) <= (xs.length : Int) + (ys.length : Int) := by omega
  have s2 : ¬ (xs.length + ys.length = m) := by omega
  go_wp2
  go_still_tail 5, (by kernel_rfl)
  still_call hT.out
  refine wpStill_nil ?_;have hK : a7 xs * a7 ys = a7 (xs.take m) * a7 (ys.take m) + W ^ m * a7 z9 + W ^ m * W ^ m * (a7 (xs.drop m) * a7 (ys.drop m)) := by
   rw [<- HT.out.1, <- HT.out.2, Hv9.out]; exact kara
  have hlt : a7 xs * a7 ys < W ^ (xs.length + ys.length) := by
   rw [Nat.pow_add];have h1 := dP hA.ok;have h2 := dP hB.ok;exact Nat.mul_lt_mul_of_le_of_lt (Nat.le_of_lt h1) h2 (Nat.pow_pos bE)
  have hmid : a7 z9 < W ^ (xs.length + ys.length - m) := by
   have e : W ^ m * W ^ (xs.length + ys.length - m) = W ^ (xs.length + ys.length) := by rw [<- Nat.pow_add]; congr 1; omega
   have : W ^ m * a7 z9 < W ^ m * W ^ (xs.length + ys.length - m) := by rw [e]; omega
   exact Nat.lt_of_mul_lt_mul_left this
  have q10 : aj z9 <= xs.length + ys.length - m := by rw [<- bU hR9.ok]; exact an hmid
  have hl9t : (z9.take (aj z9)).length = aj z9 := by rw [List.length_take, Nat.min_eq_left (aH _)]
  have HK := H5 hK; clear hK;have Hlt := H5 hlt; clear hlt;have Hl9t := H5 hl9t; clear hl9t;clear hmid;go_wp2_with fail
  refine (nk _ _ b m _ _ _ _ (z9.take (aj z9)) c11 _ hR11.row.drew hR11.ok (.inr rfl) (by have := Hl10.out; have := hR11.len; omega) (hW9.take (aj z9)) (fun _ a ha => by cases ha; exact n7b) Hl9t.out.symm q10 (by have := Hl10.out; have := hR11.len; omega)).mono ?_;rintro e w12 ⟨rfl, c12, cr2, hR12, hcr2, hs12, he12⟩;have ht12 := js (o := m) (lz := xs.length + ys.length - m) (by have := Hl10.out; have := hR11.len; omega) (by have := Hl10.out; have := hR11.len; have := hR12.len; omega) hs12 he12;have Ht12 := H5 ht12; clear ht12 hs12 he12;go_wp2
  go_end0
  refine ⟨rfl, c12, ?_, hR12.row, hR12.ok, by rw [hR12.len, hR11.len, Hl10.out], ?_⟩
  . have e1 := Ht11.out;have e2 := Ht12.out;have e3 := HK.out;have e4 := Hlt.out;have n1 : 2 * m + (xs.length + ys.length - 2 * m) = xs.length + ys.length := by omega
    have n2 : m + (xs.length + ys.length - m) = xs.length + ys.length := by omega
    rw [n1, Hv10.out, HV4t.out] at e1;rw [n2, bN hR9.ok] at e2;have n3 : W ^ (2 * m) = W ^ m * W ^ m := by rw [<- Nat.pow_add]; congr 1; omega
    rw [n3] at e1;have c1 : cr = 0 := qX e1 (by omega);rw [c1, Nat.mul_zero] at e1;have c2 : cr2 = 0 := qX e2 (by omega);rw [c2, Nat.mul_zero] at e2;omega
  . exact jq (nW (jq (jq (rV hb9 _) hg10) hR11.grown)) hR12.grown
theorem qE (n : Nat) (IH : lK n) : lK (n + 1) := by
 intro aoA aoB lA cA lB cB xs ys w hA hB hlA hlB hcA hcB hn hm;subst hlA hlB;have hIH := H5 IH; clear IH;have htA := aH xs;have htB := aH ys;have W1 := H5 (hA.take (aj xs));have W2 := H5 (hB.take (aj ys));have L1 : Hid ((xs.take (aj xs)).length = aj xs) := by rw [List.length_take, Nat.min_eq_left htA]; exact rfl
 have L2 : Hid ((ys.take (aj ys)).length = aj ys) := by rw [List.length_take, Nat.min_eq_left htB]; exact rfl
 have V1 : Hid (a7 (xs.take (aj xs)) = a7 xs) := bN hA.ok;have V2 : Hid (a7 (ys.take (aj ys)) = a7 ys) := bN hB.ok;go_enter Tryz.func87, Tryz.ntmps87
 go_upto_if 16 with (go_at_call 106; first | ((with_reducible refine (mb aoA _ _ xs _ hA rfl (by omega) hcA).mono ?_); rintro e w' ⟨rfl, rfl⟩) | ((with_reducible refine (mb aoB _ _ ys _ hB rfl (by omega) hcB).mono ?_); rintro e w' ⟨rfl, rfl⟩))
 go_cut [0, 1] (fun s0 s1 wc => ∃ (ao1 ao2 : Option Addr) (as_ bs : List Nat) (l1 l2 : Nat), s0 = .slice ao1 l1 l1 /\ s1 = .slice ao2 l2 l2 /\ cU w ao1 as_ /\ cU w ao2 bs /\ l2 <= l1 /\ Hid (l1 = as_.length) /\ Hid (l2 = bs.length) /\ Hid (l1 + l2 = aj xs + aj ys) /\ l1 + l2 < n + 1 /\ l1 + l2 <= 17592186044416 /\
  Hid (a7 as_ * a7 bs = a7 xs * a7 ys) /\ w = wc)
 case first =>
  by_cases hlt : aj xs < aj ys
  . have t1 : decide (((aj xs : Nat) : Int) < ((aj ys : Nat) : Int)) = true := by simp; omega
    go_wp2
    go_meet
    exact ⟨_, _, ys.take (aj ys), xs.take (aj xs), _, _, rfl, rfl, W2.out, W1.out, by omega, L2.out.symm, L1.out.symm, H5 (by omega), by omega, by omega, H5 (by rw [V1.out, V2.out, Nat.mul_comm]), rfl⟩
  . have t1 : decide (((aj xs : Nat) : Int) < ((aj ys : Nat) : Int)) = false := by simp; omega
    go_wp2
    go_meet
    exact ⟨_, _, xs.take (aj xs), ys.take (aj ys), _, _, rfl, rfl, W1.out, W2.out, by omega, L1.out.symm, L2.out.symm, H5 rfl, by omega, by omega, H5 (by rw [V1.out, V2.out]), rfl⟩
 case rest =>
  obtain ⟨ao1, ao2, as_, bs, l1, l2, rfl, rfl, h1, h2, hle, e1, e2, hsum, hn', hm', hprod, rfl⟩ := hcut;by_cases h24 : l2 < 24
  . have t1 : decide (((l2 : Nat) : Int) < 24) = true := by simp; omega
    go_wp2_with (first
     | (at_make; refine eP rfl _ _ rfl (l1 + l2) (l1 + l2) rfl rfl (by omega) (by omega) (Nat.le_refl _) (by omega) ?_; intro b w1 hm1)
     | (go_at_call 107; refine (Cg _ _ b _ _ _ _ _ _ as_ bs _ hm1.row (h1.below hm1.below) (h2.below hm1.below) e1.out e2.out (by omega) rfl (h1.apart (Nat.le_of_eq hm1.at_.symm)) (h2.apart (Nat.le_of_eq hm1.at_.symm))).mono ?_; rintro e w2 ⟨rfl, cur', hR, hv⟩; have Hv := H5 hv; clear hv))
    have hge : w.heap.size <= b := Nat.le_of_eq hm1.at_.symm;go_ret;refine ⟨b, cur', ?_, ⟨hR.row, hR.ok, hge, hR.below hm1.below hge hm1.below.size⟩, ?_, ?_⟩
    . rw [<- hsum.out]; rfl
    . rw [hR.len, List.length_replicate, hsum.out]
    . rw [Hv.out, hprod.out]
  . have t1 : decide (((l2 : Nat) : Int) < 24) = false := by simp; omega
    by_cases h2l : l1 < 2 * l2
    . have t2 : decide ((2 : Int) * ((l2 : Nat) : Int) <= ((l1 : Nat) : Int)) = false := by simp; omega
      go_wp2_with (first
       | (at_make; refine eP rfl _ _ rfl (l1 + l2) (l1 + l2) rfl rfl (by omega) (by omega) (Nat.le_refl _) (by omega) ?_; intro b w1 hm1)
       | (go_at_call 109; refine (yD n hIH.out _ _ b _ _ _ _ _ _ as_ bs _ hm1.row (h1.below hm1.below) (h2.below hm1.below) e1.out e2.out rfl rfl (by omega) rfl rfl (by omega) (by omega) (by omega) (by omega) (h1.apart (Nat.le_of_eq hm1.at_.symm)) (h2.apart (Nat.le_of_eq hm1.at_.symm))).mono ?_; rintro e w2 ⟨rfl, cur', hv, hr, hok, hlen, hg⟩; have Hv := H5 hv; clear hv; have Hlen := H5 hlen; clear hlen))
      have hge : w.heap.size <= b := Nat.le_of_eq hm1.at_.symm;go_ret;refine ⟨b, cur', ?_, ⟨hr, hok, hge, hm1.below.grown hg hm1.below.size (fun k e => by cases e; exact hge)⟩, ?_, ?_⟩
      . rw [<- hsum.out]; rfl
      . rw [Hlen.out, hsum.out]
      . rw [Hv.out, hprod.out]
    . have t2 : decide ((2 : Int) * ((l2 : Nat) : Int) <= ((l1 : Nat) : Int)) = true := by simp; omega
      go_wp2_with (first
       | (at_make; refine eP rfl _ _ rfl (l1 + l2) (l1 + l2) rfl rfl (by omega) (by omega) (Nat.le_refl _) (by omega) ?_; intro b w1 hm1))
      have hge : w.heap.size <= b := Nat.le_of_eq hm1.at_.symm;go_loopw [6] (fun i wr => ∃ (k q : Nat) (cu : List Nat), k = q * l2 /\ k < l1 + l2 /\ i = .int .i64 k /\ a6 wr b 47 (cu.map wv) /\ Ok cu /\ cu.length = l1 + l2 /\ Below w.heap.size w wr /\ Hid (a7 cu = a7 (as_.take k) * a7 bs)) (fun i _ => l1 + l2 - (intOf i).toNat)
      case atStart => exact ⟨0, 0, _, by omega, by omega, rfl, hm1.row, Ok.replicate _, by simp, hm1.below, H5 (by rw [gI]; simp [a7])⟩
      case round =>
       obtain ⟨k, q, cu, hkq, hk, rfl, hrow, hok, hlen, hb, He⟩ := hrel;have Hkq := H5 hkq; clear hkq;have Hlen := H5 hlen; clear hlen;by_cases hlt : k < l1
       . obtain ⟨b1, o1, rfl, hb1, _⟩ := h1.pos (by have := e1.out; omega);obtain ⟨en, hen⟩ : ∃ en, en = min (k + l2) l1 := ⟨_, rfl⟩;have hmin : min ((k : Int) + (l2 : Int)) (l1 : Int) = (en : Int) := by omega
         have b1' : k < en := by omega
         have b2' : en <= l1 := by omega
         have b3' : en - k <= l2 := by omega
         have b4' : en = k + l2 \/ en = l1 := by omega
         have Hen := H5 b4'; clear b4' hen;have b5 : ¬ (en = k) := by omega
         have b6 : ¬ (l1 + l2 = k) := by omega
         have b7 : (en : Int) <= (l1 : Int) := by omega
         have b8 : (k : Int) <= (en : Int) := by omega
         have b9 : (k : Int) <= (l1 : Int) + (l2 : Int) := by omega
         have S1 : Hid (cU wr (some ⟨b1, o1 + k, none⟩) ((as_.drop k).take (en - k))) := ((h1.below hb).drop k).take _;have S1l : Hid (((as_.drop k).take (en - k)).length = en - k) := by unfold Hid; rw [List.length_take, List.length_drop]; have := e1.out; omega
         have S2 : Hid (cU wr ao2 bs) := h2.below hb;have t3 := aH ((as_.drop k).take (en - k));rw [S1l.out] at t3;have t4 := aH bs;rw [<- e2.out] at t4;have hbw : b < wr.heap.size := hrow.lt;have Hrow := H5 hrow; clear hrow;go_wp2
         go_region_held3 (fun _ => True) (trivial)
          (first
           | (go_at_call 87; refine (hIH.out _ _ _ _ _ _ ((as_.drop k).take (en - k)) bs _ (by exact S1.out) (by exact S2.out) S1l.out.symm e2.out (Nat.le_refl _) (Nat.le_refl _) (by omega) (by omega)).mono ?_; rintro e w3 ⟨b3, z3, rfl, hN3, hl3, hv3⟩; have Hl3 := H5 hl3; clear hl3; have Hv3 := H5 hv3; clear hv3)
           | (go_at_call 106; refine (mb _ _ _ z3 _ (hN3.row.j3 hN3.ok) Hl3.out.symm (by omega) (Nat.le_refl _)).mono ?_; rintro e w4 ⟨rfl, rfl⟩)
           | (go_at_call 108; have hr3 : a6 w3 b 47 (cu.map wv) := a6.below (w := wr.drew) Hrow.out hN3.below hbw; have n3b : b3 ≠ b := (by have h : wr.heap.size <= b3 := hN3.ge; omega); have t5 := aH z3; have t6 := Hl3.out; refine (nk _ _ b k _ _ _ _ (z3.take (aj z3)) cu _ hr3 hok (.inr rfl) (by have := Hlen.out; omega) ((hN3.row.j3 hN3.ok).take _) (fun _ a ha => by cases ha; exact n3b) (by rw [List.length_take]; omega) (by omega) (by have := Hlen.out; omega)).mono ?_; rintro e w5 ⟨rfl, c5, cr, hR5, hcr, hs5, he5⟩; have Hs5 := H5 hs5; clear hs5; have He5 := H5 he5; clear he5))
         go_wp2;go_roundw
         case rel =>
          have hx : sv as_ 0 en = sv as_ 0 k + W ^ k * sv as_ k (en - k) := by
           have := lQ as_ 0 k (en - k);rw [Nat.zero_add] at this;rw [<- this]; congr 1; omega
          rw [nv, nv] at hx;have hx2 : a7 (as_.take (k + l2)) = a7 (as_.take en) := by
           rcases Hen.out with h | h
           . rw [h]
           . rw [List.take_of_length_le (by have := e1.out; omega), List.take_of_length_le (by have := e1.out; omega)]
          have ht := js (o := k) (lz := l1 + l2 - k) (by have := Hlen.out; omega) (by have := Hlen.out; have := hR5.len; omega) Hs5.out He5.out;have n1 : k + (l1 + l2 - k) = l1 + l2 := by omega
          have hz : a7 (z3.take (aj z3)) = sv as_ k (en - k) * a7 bs := by rw [bN hN3.ok, Hv3.out]; rfl
          have hlt' : a7 (as_.take en) * a7 bs < W ^ (l1 + l2) := by
           rw [Nat.pow_add];have q1 := dP (h1.ok.take en);have q2 := dP h2.ok;rw [<- e2.out] at q2;refine Nat.mul_lt_mul_of_le_of_lt (Nat.le_trans (Nat.le_of_lt q1) (Nat.pow_le_pow_right bE ?_)) q2 (Nat.pow_pos bE);rw [List.length_take]; omega
          rw [n1, He.out, hz] at ht;have hs : a7 (as_.take en) * a7 bs = a7 (as_.take k) * a7 bs + W ^ k * (sv as_ k (en - k) * a7 bs) := by rw [hx, Nat.add_mul, Nat.mul_assoc]
          rw [<- hs] at ht;have hc0 := qX ht hlt';rw [hc0, Nat.mul_zero, Nat.add_zero] at ht;have hb5 : Below w.heap.size w w5 := hR5.below (hb.drew.trans (hN3.below.mono hb.size)) hge (by have := hN3.below.size; have h : wr.drew.heap.size = wr.heap.size := rfl; have := hb.size; omega);exact ⟨k + l2, q + 1, c5, by have := Hkq.out; rw [Nat.add_mul, Nat.one_mul]; omega, by omega, by go_num, hR5.row, hR5.ok, by rw [hR5.len, Hlen.out], hb5, H5 (by rw [hx2]; exact ht)⟩
         case measure => simp [intOf]; omega
       . go_wp2;go_ret;refine ⟨b, cu, ?_, ⟨hrow, hok, hge, hb⟩, ?_, ?_⟩
         . rw [<- hsum.out]; rfl
         . rw [Hlen.out, hsum.out]
         . rw [He.out, List.take_of_length_le (by have := e1.out; omega), hprod.out]
theorem th (n : Nat) : lK n := by
 induction n with
 | zero =>
  intro aoA aoB lA cA lB cB xs ys w hA hB hlA hlB hcA hcB hn hm;omega
 | succ n ih => exact qE n ih
theorem CM (aoA aoB : Option Addr) (lA cA lB cB : Nat) (xs ys : List Nat) (w : World) (hA : cU w aoA xs) (hB : cU w aoB ys) (hlA : lA = xs.length) (hlB : lB = ys.length) (hcA : lA <= cA) (hcB : lB <= cB) (hm : lA + lB <= 17592186044416) :
 Calls Tryz.prog 66 #[.slice aoA lA cA, .slice aoB lB cB] w fun e w' =>
  (∃ ao' cap', e = .returned (.slice ao' (aa (a7 xs * a7 ys)) cap') /\ ct w' w.heap.size ao' (aa (a7 xs * a7 ys)) cap' (ew (a7 xs * a7 ys))) /\ Below w.heap.size w w' := by
 subst hlA hlB;have t1 := aH xs;have t2 := aH ys;go_enter Tryz.func66, Tryz.ntmps66;go_wp2_with (first
  | (go_at_call 87; refine (th _ _ _ _ _ _ _ xs ys _ hA hB rfl rfl hcA hcB (Nat.lt_succ_self _) hm).mono ?_; rintro e w1 ⟨b, zs, rfl, hN, hl, hv⟩; have Hl := H5 hl; clear hl; have Hv := H5 hv; clear hv)
  | (go_at_call 35; refine (eC _ _ _ zs _ (hN.row.j3 hN.ok) Hl.out.symm (by omega)).mono ?_; rintro e w2 ⟨⟨ao', cap', rfl, h1⟩, h2⟩))
 go_ret;rw [Hv.out] at h1 |-;exact ⟨⟨_, _, rfl, h1.mono hN.below.size⟩, hN.below.trans (h2.mono hN.below.size)⟩
end Go.Proofs.YtbgecfleamckcaaGreat
