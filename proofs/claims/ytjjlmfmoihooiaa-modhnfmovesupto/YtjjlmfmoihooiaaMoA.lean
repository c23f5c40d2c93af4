/- Part 1 of 7 of the proof that the law ModhnfMoves returns true for every input of bulk at most 1048576 and leaves its arguments as they were: here the contracts of the functions that it calls, and plain lemmas. -/
import Derived.WalkKit
import Derived.Test.YtjjlmfmoihooiaaProg
import Derived.Lib.Hide
import Derived.Shelf.Spec.BitsCarry
import Derived.Outline
import Derived.WalkSpells
import Derived.WalkLawsBesides
import Derived.BigQuiet
import Derived.Deep.QuietTactic
import Derived.Deep.DeepCutAuto
import Derived.Laws.CopyOwn
import Derived.Shelf.Small.Bits
import Derived.Shelf.Strconv.Itoa0
import Derived.Shelf.Bits.Mul64
import Derived.Lib.ItoaNum
import Derived.Deep.CutBlock
import Derived.RegionTactic
import Derived.BigRegion
import Derived.WalkMore
import Derived.Deep.RegionHeld3
import Derived.StillTailTactics
set_option linter.all false
namespace Go.Proofs.Ytjjlmfmoihooiaa
def W : Nat := 18446744073709551616
theorem aS : 0 < W := by unfold W; omega
theorem eZ : 2 <= W := by unfold W; omega
def aa : List Nat -> Nat
 | [] => 0
 | x :: r => x + W * aa r
def gw (l : List Nat) (i : Nat) : Nat := l.getD i 0
def Ok (l : List Nat) : Prop := ∀ x ∈ l, x < W
def au : List Nat -> Nat
 | [] => 0
 | x :: r => if au r = 0 then (if x = 0 then 0 else 1) else au r + 1
def ez (n : Nat) : List Nat := if h : n = 0 then [] else (n % W) :: ez (n / W)
termination_by n
decreasing_by exact Nat.div_lt_self (by omega) (eZ)
theorem dj : ez 0 = [] := by unfold ez; simp
theorem gy {n : Nat} (h : n ≠ 0) : ez n = (n % W) :: ez (n / W) := by rw [ez]; simp [h]
def ag (n : Nat) : Nat := (ez n).length
theorem ck (n : Nat) : aa (ez n) = n := by
 induction n using Nat.strongRecOn with
 | _ n ih =>
  by_cases h : n = 0
  · subst h; simp [dj, aa]
  · rw [gy h, aa, ih _ (Nat.div_lt_self (by omega) eZ)];exact Nat.mod_add_div n W
theorem qH (n : Nat) : Ok (ez n) := by
 induction n using Nat.strongRecOn with
 | _ n ih =>
  by_cases h : n = 0
  · subst h; simp [dj, Ok]
  · rw [gy h];intro x hx;rcases List.mem_cons.1 hx with rfl | hx
    · exact Nat.mod_lt _ aS
    · exact ih _ (Nat.div_lt_self (by omega) eZ) x hx
theorem Ok.nil : Ok [] := by simp [Ok]
theorem Ok.tail {x : Nat} {r : List Nat} (h : Ok (x :: r)) : Ok r := fun y hy => h y (List.mem_cons_of_mem _ hy)
theorem Ok.head {x : Nat} {r : List Nat} (h : Ok (x :: r)) : x < W := h x (List.mem_cons_self ..)
theorem Ok.append {a b : List Nat} (ha : Ok a) (hb : Ok b) : Ok (a ++ b) := fun x hx => (List.mem_append.1 hx).elim (ha x) (hb x)
theorem Ok.take {l : List Nat} (h : Ok l) (k : Nat) : Ok (l.take k) := fun x hx => h x (List.mem_of_mem_take hx)
theorem Ok.drop {l : List Nat} (h : Ok l) (k : Nat) : Ok (l.drop k) := fun x hx => h x (List.mem_of_mem_drop hx)
theorem Ok.set {l : List Nat} (h : Ok l) (k v : Nat) (hv : v < W) : Ok (l.set k v) := fun x hx => (List.mem_or_eq_of_mem_set hx).elim (h x) (fun e => e ▸ hv)
theorem Ok.get {l : List Nat} (h : Ok l) (k : Nat) : l.getD k 0 < W := by
 rw [List.getD_eq_getElem?_getD];cases hk : l[k]? with
 | none => simpa using aS
 | some v => exact h v (List.mem_of_getElem? hk)
theorem Ok.replicate (n : Nat) : Ok (List.replicate n 0) := fun x hx => by rw [List.eq_of_mem_replicate hx]; exact aS
theorem Ok.one {x : Nat} (h : x < W) : Ok [x] := by simpa [Ok] using h
theorem gV (a b : List Nat) : aa (a ++ b) = aa a + W ^ a.length * aa b := by
 induction a with
 | nil => simp [aa]
 | cons x r ih => simp only [List.cons_append, aa, ih, List.length_cons, Nat.pow_succ, Nat.mul_add]; rw [Nat.mul_comm (W ^ r.length) W, Nat.mul_assoc]; omega
theorem fe (n : Nat) : aa (List.replicate n 0) = 0 := by
 induction n with
 | zero => simp [aa]
 | succ n ih => simp [List.replicate_succ, aa, ih]
theorem ct {l : List Nat} (h : Ok l) : aa l < W ^ l.length := by
 induction l with
 | nil => simp [aa]
 | cons x r ih =>
  have h1 := h.head;have h2 := ih h.tail;simp only [aa, List.length_cons, Nat.pow_succ];have : W * (aa r + 1) <= W * W ^ r.length := Nat.mul_le_mul_left _ h2;rw [Nat.mul_comm (W ^ r.length) W];rw [Nat.mul_add] at this;omega
theorem dP (l : List Nat) (k : Nat) (hk : k <= l.length) : aa l = aa (l.take k) + W ^ k * aa (l.drop k) := by
 conv => lhs; rw [<- List.take_append_drop k l]
 rw [gV, List.length_take, Nat.min_eq_left hk]
theorem aD (l : List Nat) : au l <= l.length := by
 induction l with
 | nil => simp [au]
 | cons x r ih => simp only [au, List.length_cons]; split <;> (try split) <;> omega
theorem iM (l : List Nat) (k : Nat) (hk : ∀ j, k <= j -> l.getD j 0 = 0) : au l <= k := by
 induction l generalizing k with
 | nil => simp [au]
 | cons x r ih =>
  simp only [au];have h1 := ih (k - 1) (fun j hj => by have := hk (j + 1) (by omega); simpa using this);split
  · split
    · omega
    · rcases Nat.eq_zero_or_pos k with rfl | h
      · have := hk 0 (by omega); simp at this; omega
      · omega
  · rename_i h0;have : k ≠ 0 := by
     rintro rfl;have h2 := ih 0 (fun j hj => by have := hk (j + 1) (by omega); simpa using this);omega
    omega
theorem np (l : List Nat) (k : Nat) (hk : l.getD k 0 ≠ 0) : k < au l := by
 induction l generalizing k with
 | nil => simp at hk
 | cons x r ih =>
  simp only [au];match k with
  | 0 => simp at hk; split <;> simp [hk]
  | k + 1 =>
   have := ih k (by simpa using hk);rw [if_neg (by omega)]; omega
theorem gj (l : List Nat) (k : Nat) (h : au l <= k) : l.getD k 0 = 0 := by
 by_cases h0 : l.getD k 0 = 0
 · exact h0
 · have := np l k h0; omega
theorem pS (l : List Nat) (h : au l ≠ 0) : l.getD (au l - 1) 0 ≠ 0 := by
 induction l with
 | nil => simp [au] at h
 | cons x r ih =>
  simp only [au] at h ⊢;by_cases h1 : au r = 0
  · simp only [h1, if_true] at h ⊢;by_cases h2 : x = 0
    · simp [h2] at h
    · simp [h2]
  · simp only [h1, if_false] at h ⊢;have := ih h1;obtain ⟨k, hk⟩ : ∃ k, au r = k + 1 := ⟨au r - 1, by omega⟩;rw [hk] at this ⊢;simpa using this
theorem fD {l : List Nat} (h : Ok l) : ez (aa l) = l.take (au l) := by
 induction l with
 | nil => simp [aa, dj]
 | cons x r ih =>
  have h1 := h.head;have h2 := ih h.tail;have hm : (x + W * aa r) % W = x := by rw [Nat.add_mul_mod_self_left, Nat.mod_eq_of_lt h1]
  have hd : (x + W * aa r) / W = aa r := by rw [Nat.add_mul_div_left _ _ aS, Nat.div_eq_of_lt h1]; omega
  simp only [aa, au];by_cases ht : au r = 0
  · rw [ht] at h2;have hr : aa r = 0 := by have := ck (aa r); rw [h2] at this; simpa [aa] using this.symm
    by_cases hx : x = 0
    · subst hx; simp [ht, hr, dj]
    · have : x + W * aa r ≠ 0 := by omega
      rw [gy this, hm, hd, hr, dj]; simp [ht, hx]
  · have hr : aa r ≠ 0 := by
     intro e;rw [e, dj] at h2;have := congrArg List.length h2;simp [List.length_take] at this;have := aD r;omega
    have : x + W * aa r ≠ 0 := by have := aS; have := Nat.mul_pos this (Nat.pos_of_ne_zero hr); omega
    rw [gy this, hm, hd, h2]; simp [ht]
theorem bD {l : List Nat} (h : Ok l) : ag (aa l) = au l := by
 unfold ag; rw [fD h, List.length_take, Nat.min_eq_left (aD l)]
theorem aY {l : List Nat} (h : Ok l) : aa (l.take (au l)) = aa l := by rw [<- fD h, ck]
theorem eJ {l : List Nat} (h : Ok l) : au l = 0 ↔ aa l = 0 := by
 constructor
 · intro e; rw [<- aY h, e]; simp [aa]
 · intro e; rw [<- bD h, e]; simp [ag, dj]
theorem uk (n : Nat) : au (ez n) = (ez n).length := by
 have := bD (qH n); rw [ck] at this; exact this.symm
theorem aN : ag 0 = 0 := by simp [ag, dj]
theorem cH {n : Nat} : ag n = 0 ↔ n = 0 := by
 constructor
 · intro h;by_cases h0 : n = 0
   · exact h0
   · simp [ag, gy h0] at h
 · rintro rfl; exact aN
theorem aT (n : Nat) : n < W ^ ag n := by
 have := ct (qH n); rwa [ck] at this
theorem kQ {n : Nat} (h : n ≠ 0) : W ^ (ag n - 1) <= n := by
 induction n using Nat.strongRecOn with
 | _ n ih =>
  have e : ag n = ag (n / W) + 1 := by simp [ag, gy h]
  rw [e, Nat.add_sub_cancel];by_cases h0 : n / W = 0
  · rw [h0, aN]; simp; omega
  · have := ih (n / W) (Nat.div_lt_self (by omega) eZ) h0;have e2 : ag (n / W) = (ag (n / W) - 1) + 1 := by
     have : ag (n / W) ≠ 0 := fun e => h0 (cH.1 e);omega
    rw [e2, Nat.pow_succ];exact Nat.le_trans (Nat.mul_le_mul_right _ this) (Nat.div_mul_le_self n W)
theorem an {n k : Nat} (h : n < W ^ k) : ag n <= k := by
 by_cases h0 : n = 0
 · subst h0; rw [aN]; omega
 · have h1 := kQ h0;have h2 : W ^ (ag n - 1) < W ^ k := Nat.lt_of_le_of_lt h1 h;have h3 := (Nat.pow_lt_pow_iff_right (a := W) (by unfold W; omega)).1 h2;omega
theorem aH {a b : Nat} (h : a <= b) : ag a <= ag b := an (Nat.lt_of_le_of_lt h (aT b))
theorem cK (a b : Nat) : ag (a * b) <= ag a + ag b := by
 apply an;rw [Nat.pow_add];have h1 := aT a;have h2 := aT b;exact Nat.mul_lt_mul_of_le_of_lt (Nat.le_of_lt h1) h2 (Nat.pow_pos aS)
theorem vp (a b : Nat) : ag (a + b) <= max (ag a) (ag b) + 1 := by
 apply an;rw [Nat.pow_succ];have h1 := Nat.lt_of_lt_of_le (aT a) (Nat.pow_le_pow_right aS (Nat.le_max_left (ag a) (ag b)));have h2 := Nat.lt_of_lt_of_le (aT b) (Nat.pow_le_pow_right aS (Nat.le_max_right (ag a) (ag b)));have h3 : W ^ max (ag a) (ag b) * 2 <= W ^ max (ag a) (ag b) * W := Nat.mul_le_mul_left _ eZ;omega
theorem dh {l : List Nat} (h : Ok l) : ag (aa l) <= l.length := by rw [bD h]; exact aD l
theorem vi (l : List Nat) (k v : Nat) (hk : k < l.length) : aa (l.set k v) + W ^ k * l.getD k 0 = aa l + W ^ k * v := by
 induction l generalizing k with
 | nil => simp at hk
 | cons x r ih =>
  match k with
  | 0 => simp [aa]; omega
  | k + 1 =>
   have := ih k (by simpa using hk);simp only [List.set_cons_succ, aa, List.getD_cons_succ, Nat.pow_succ];have e : W * (aa (r.set k v) + W ^ k * r.getD k 0) = W * (aa r + W ^ k * v) := by rw [this]
   rw [Nat.mul_add, Nat.mul_add, <- Nat.mul_assoc, <- Nat.mul_assoc] at e;rw [Nat.mul_comm (W ^ k) W];omega
theorem l4 (l : List Nat) (k : Nat) (hk : k < l.length) : l.take (k + 1) = l.take k ++ [l.getD k 0] := by
 rw [List.take_succ_eq_append_getElem hk]; simp [List.getD_eq_getElem?_getD, List.getElem?_eq_getElem hk]
theorem lK (l : List Nat) (k : Nat) (hk : k < l.length) : aa (l.take (k + 1)) = aa (l.take k) + W ^ k * l.getD k 0 := by
 rw [l4 l k hk, gV, List.length_take, Nat.min_eq_left (by omega)]; simp [aa]
theorem ks (l : List Nat) (k : Nat) : aa (l.take (k + 1)) = aa (l.take k) + W ^ k * l.getD k 0 := by
 by_cases hk : k < l.length
 · exact lK l k hk
 · rw [List.take_of_length_le (by omega), List.take_of_length_le (by omega)];simp [List.getD_eq_getElem?_getD, List.getElem?_eq_none (by omega : l.length <= k)]
theorem fi (l : List Nat) (k : Nat) : aa (l ++ List.replicate k 0) = aa l := by rw [gV, fe]; simp
theorem Ok.gw {l : List Nat} (h : Ok l) (k : Nat) : gw l k < W := h.get k
theorem aB (l : List Nat) (k : Nat) : aa (l.take (k + 1)) = aa (l.take k) + W ^ k * gw l k := ks l k
theorem gz {l : List Nat} (h : Ok l) (k : Nat) : aa (l.take k) < W ^ k :=
 Nat.lt_of_lt_of_le (ct (h.take k)) (Nat.pow_le_pow_right aS (by rw [List.length_take]; exact Nat.min_le_left ..))
theorem iJ {a b : List Nat} (ha : Ok a) (_hb : Ok b) (k : Nat) (h : ∀ j, k < j -> gw a j = gw b j) (hk : gw a k < gw b k) : aa a < aa b := by
 have key : ∀ d, aa (a.take (k + 1 + d)) < aa (b.take (k + 1 + d)) := by
  intro d;induction d with
  | zero =>
   rw [Nat.add_zero, aB, aB];have h1 := gz ha k;have h2 : W ^ k * (gw a k + 1) <= W ^ k * gw b k := Nat.mul_le_mul_left _ hk;rw [Nat.mul_add] at h2;omega
  | succ d ih =>
   rw [<- Nat.add_assoc, aB, aB, h _ (by omega)];omega
 have := key (a.length + b.length)
 rwa [List.take_of_length_le (by omega), List.take_of_length_le (by omega)] at this
theorem iS {a b : List Nat} (h : ∀ j, gw a j = gw b j) : aa a = aa b := by
 have key : ∀ d, aa (a.take d) = aa (b.take d) := by
  intro d;induction d with
  | zero => rfl
  | succ d ih => rw [aB, aB, h, ih]
 have := key (a.length + b.length)
 rwa [List.take_of_length_le (by omega), List.take_of_length_le (by omega)] at this
theorem gd {l : List Nat} {j : Nat} (h : au l <= j) : gw l j = 0 := gj l j h
theorem gH {a b : List Nat} (ha : Ok a) (hb : Ok b) (h : au a < au b) : aa a < aa b := by
 rw [<- bD ha, <- bD hb] at h;refine Decidable.byContradiction fun hn => ?_;have := aH (Nat.le_of_not_lt hn);omega
theorem x5 (l : List Nat) (n j : Nat) : gw (l.take n) j = if j < n then gw l j else 0 := by
 simp only [gw, List.getD_eq_getElem?_getD, List.getElem?_take];split <;> simp
theorem fs {l : List Nat} {n : Nat} (h : au l <= n) : aa (l.take n) = aa l :=
 iS fun j => by
  rw [x5]; split
  · rfl
  · rw [gd (by omega)]
theorem gR {l : List Nat} {k : Nat} (hk : k < l.length) (v : Nat) : gw (l.set k v) k = v := by
 simp [gw, List.getD_eq_getElem?_getD, List.getElem?_set, hk]
theorem ba {l : List Nat} {k j : Nat} (h : k ≠ j) (v : Nat) : gw (l.set k v) j = gw l j := by
 simp [gw, List.getD_eq_getElem?_getD, List.getElem?_set, h]
theorem iU (l : List Nat) (k v : Nat) : (l.set k v).take k = l.take k := by
 apply List.ext_getElem?;intro j;simp only [List.getElem?_take, List.getElem?_set];by_cases h : j < k
 · have : ¬ k = j := by omega
   simp [h, this]
 · simp [h]
theorem cS {l : List Nat} {k : Nat} (hk : k < l.length) (v : Nat) : aa ((l.set k v).take (k + 1)) = aa (l.take k) + W ^ k * v := by
 rw [aB, iU, gR hk]
def aU (x y c : Nat) : Nat := (x + y + c) % W
def aL (x y c : Nat) : Nat := (x + y + c) / W
def db (x y c : Nat) : Nat := (x + W - y - c) % W
def aX (x y : Nat) : Nat := x * y / W
def aE (x y : Nat) : Nat := x * y % W
theorem add_eq (x y c : Nat) : aU x y c + W * aL x y c = x + y + c := Nat.mod_add_div _ _
theorem mul_eq (x y : Nat) : aE x y + W * aX x y = x * y := Nat.mod_add_div _ _
theorem dS (x y c : Nat) : aU x y c < W := Nat.mod_lt _ aS
theorem fF (x y c : Nat) : db x y c < W := Nat.mod_lt _ aS
theorem ib (x y : Nat) : aE x y < W := Nat.mod_lt _ aS
theorem ph {ls : List Nat} {k c x y A B : Nat} (hk : k < ls.length) (h : aa (ls.take k) + W ^ k * c = A + B) :
 aa ((ls.set k (aU x y c)).take (k + 1)) + W ^ (k + 1) * aL x y c = (A + W ^ k * x) + (B + W ^ k * y) := by
 unfold aU aL;rw [cS hk, Nat.pow_succ, Nat.mul_assoc];have e : W ^ k * ((x + y + c) % W) + W ^ k * (W * ((x + y + c) / W)) = W ^ k * (x + y + c) := by rw [<- Nat.mul_add, Nat.mod_add_div]
 rw [Nat.mul_add, Nat.mul_add] at e;omega
theorem gZ {x y c : Nat} (hx : x < W) (hy : y < W) (hc : c <= 1) : aL x y c <= 1 := by
 unfold aL;have : (x + y + c) / W < 2 := (Nat.div_lt_iff_lt_mul aS).2 (by omega);omega
def rB (x y c : Nat) : Nat := if x < y + c then 1 else 0
theorem jD (x y c : Nat) : rB x y c <= 1 := by unfold rB; split <;> omega
theorem qd {ls : List Nat} {k c x y A B : Nat} (hk : k < ls.length) (h : aa (ls.take k) + B = A + W ^ k * c) (hx : x < W) (hy : y < W) (hc : c <= 1) :
 aa ((ls.set k (db x y c)).take (k + 1)) + (B + W ^ k * y) = (A + W ^ k * x) + W ^ (k + 1) * rB x y c := by
 unfold rB db;rw [cS hk, Nat.pow_succ];split
 · have e : (x + W - y - c) % W = x + W - y - c := Nat.mod_eq_of_lt (by omega);have e2 : W ^ k * (x + W - y - c) + W ^ k * y + W ^ k * c = W ^ k * x + W ^ k * W := by
    rw [<- Nat.mul_add, <- Nat.mul_add, <- Nat.mul_add]; congr 1; omega
   rw [e]; omega
 · have e : (x + W - y - c) % W = x - y - c := by
    have : x + W - y - c = (x - y - c) + W := by omega
    rw [this, Nat.add_mod_right, Nat.mod_eq_of_lt (by omega)]
   have e2 : W ^ k * (x - y - c) + W ^ k * y + W ^ k * c = W ^ k * x := by
    rw [<- Nat.mul_add, <- Nat.mul_add]; congr 1; omega
   rw [e]; omega
theorem iu (n : Nat) : n % W < W := Nat.mod_lt _ aS
theorem ug : W = 2 ^ 64 := rfl
theorem iB {s : Nat} (h : s <= 64) : W = 2 ^ (64 - s) * 2 ^ s := by rw [ug, <- Nat.pow_add]; congr 1; omega
theorem oB {l : List Nat} (h : Ok l) (k : Nat) : aa l % W ^ k = aa (l.take k) := by
 by_cases hk : k <= l.length
 · rw [dP l k hk, Nat.add_mul_mod_self_left, Nat.mod_eq_of_lt (gz h k)]
 · rw [List.take_of_length_le (by omega), Nat.mod_eq_of_lt];exact Nat.lt_of_lt_of_le (ct h) (Nat.pow_le_pow_right aS (by omega))
theorem oM {l : List Nat} (h : Ok l) (k : Nat) : aa l / W ^ k = gw l k + W * (aa l / W ^ (k + 1)) := by
 have e1 := oB h k;have e2 := oB h (k + 1);rw [aB, <- e1] at e2;have hp : 0 < W ^ k := Nat.pow_pos aS;have h1 := Nat.div_add_mod (aa l) (W ^ k);have h2 := Nat.div_add_mod (aa l) (W ^ (k + 1));rw [e2, Nat.pow_succ, Nat.mul_assoc] at h2;have h3 : W ^ k * (aa l / W ^ k) = W ^ k * (gw l k + W * (aa l / W ^ (k + 1))) := by rw [Nat.mul_add, Nat.pow_succ]; omega
 exact Nat.eq_of_mul_eq_mul_left hp h3
theorem iQ (n k : Nat) : n % W ^ (k + 1) = n % W ^ k + W ^ k * (n / W ^ k % W) := by
 rw [Nat.pow_succ, Nat.mod_mul]
theorem pC {l : List Nat} (h : Ok l) {s : Nat} (hs : s < 64) (k : Nat) :
 gw l k / 2 ^ s + gw l (k + 1) * 2 ^ (64 - s) % W = aa l / 2 ^ s / W ^ k % W := by
 have e0 : aa l / 2 ^ s / W ^ k = aa l / W ^ k / 2 ^ s := by rw [Nat.div_div_eq_div_mul, Nat.div_div_eq_div_mul, Nat.mul_comm]
 have e1 := oM h k;have e2 := oM h (k + 1);have hW := iB (Nat.le_of_lt hs);have hp : 0 < 2 ^ s := Nat.two_pow_pos s;generalize hM : aa l / W ^ (k + 1 + 1) = M at *;have e3 : aa l / 2 ^ s / W ^ k = gw l k / 2 ^ s + 2 ^ (64 - s) * (gw l (k + 1) + W * M) := by
  rw [e0, e1, e2];have : W * (gw l (k + 1) + W * M) = 2 ^ s * (2 ^ (64 - s) * (gw l (k + 1) + W * M)) := by
   rw [<- Nat.mul_assoc, Nat.mul_comm (2 ^ s), <- hW]
  rw [this, Nat.add_mul_div_left _ _ hp]
 have hlt : gw l k / 2 ^ s < 2 ^ (64 - s) := by
  rw [Nat.div_lt_iff_lt_mul hp, <- hW]; exact h.gw k
 have e4 : gw l (k + 1) * 2 ^ (64 - s) % W = 2 ^ (64 - s) * (gw l (k + 1) % 2 ^ s) := by
  rw [Nat.mul_comm]; conv => lhs; rhs; rw [hW]
  exact Nat.mul_mod_mul_left ..
 have hlt2 : gw l (k + 1) % 2 ^ s < 2 ^ s := Nat.mod_lt _ hp;have hlt3 : gw l k / 2 ^ s + 2 ^ (64 - s) * (gw l (k + 1) % 2 ^ s) < W := by
  have : 2 ^ (64 - s) * (gw l (k + 1) % 2 ^ s + 1) <= 2 ^ (64 - s) * 2 ^ s := Nat.mul_le_mul_left _ hlt2;rw [<- hW, Nat.mul_add] at this;omega
 rw [e4, e3, Nat.mul_add, <- Nat.add_assoc, <- Nat.mul_assoc, Nat.mul_comm (2 ^ (64 - s)) W, Nat.mul_assoc, Nat.add_mul_mod_self_left];have e5 := Nat.mod_add_div (gw l (k + 1)) (2 ^ s);have e6 : gw l k / 2 ^ s + 2 ^ (64 - s) * gw l (k + 1) = (gw l k / 2 ^ s + 2 ^ (64 - s) * (gw l (k + 1) % 2 ^ s)) + W * (gw l (k + 1) / 2 ^ s) := by
  conv => lhs; rw [<- e5]
  rw [Nat.mul_add, <- Nat.mul_assoc, <- hW]; omega
 rw [e6, Nat.add_mul_mod_self_left, Nat.mod_eq_of_lt hlt3]
theorem mY {a b n : Nat} (h : a < 2 ^ n) : a ||| (2 ^ n * b) = a + 2 ^ n * b := by
 have := Nat.two_pow_add_eq_or_of_lt h b;rw [Nat.or_comm, <- this, Nat.add_comm]
theorem v8 {l : List Nat} (h : Ok l) {s : Nat} (hs : s < 64) (k : Nat) :
 gw l k / 2 ^ s ||| gw l (k + 1) * 2 ^ (64 - s) % W = aa l / 2 ^ s / W ^ k % W := by
 rw [<- pC h hs];have hW := iB (Nat.le_of_lt hs);have hp : 0 < 2 ^ s := Nat.two_pow_pos s;have hlt : gw l k / 2 ^ s < 2 ^ (64 - s) := by
  rw [Nat.div_lt_iff_lt_mul hp, <- hW]; exact h.gw k
 have e4 : gw l (k + 1) * 2 ^ (64 - s) % W = 2 ^ (64 - s) * (gw l (k + 1) % 2 ^ s) := by
  rw [Nat.mul_comm]; conv => lhs; rhs; rw [hW]
  exact Nat.mul_mod_mul_left ..
 rw [e4, mY hlt]
def sv (l : List Nat) (o n : Nat) : Nat := aa ((l.drop o).take n)
theorem sJ (l : List Nat) (o j : Nat) : gw (l.drop o) j = gw l (o + j) := by simp [gw, List.getD_eq_getElem?_getD, List.getElem?_drop]
theorem fZ (l : List Nat) (o : Nat) : sv l o 0 = 0 := by simp [sv, aa]
theorem bT (l : List Nat) (o n : Nat) : sv l o (n + 1) = sv l o n + W ^ n * gw l (o + n) := by
 unfold sv; rw [aB, sJ]
theorem kW {l l' : List Nat} {o n : Nat} (h : ∀ i, i < n -> gw l (o + i) = gw l' (o + i)) : sv l o n = sv l' o n := by
 induction n with
 | zero => simp [fZ]
 | succ n ih => rw [bT, bT, ih (fun i hi => h i (by omega)), h n (by omega)]
theorem jY (l : List Nat) (o m n : Nat) : sv l o (m + n) = sv l o m + W ^ m * sv l (o + m) n := by
 induction n with
 | zero => simp [fZ]
 | succ n ih =>
  rw [<- Nat.add_assoc, bT, ih, bT, Nat.mul_add, <- Nat.mul_assoc, <- Nat.pow_add, Nat.add_assoc, Nat.add_assoc o m n]
theorem ee (l : List Nat) : sv l 0 l.length = aa l := by simp [sv]
theorem kL (l : List Nat) (n : Nat) : sv l 0 n = aa (l.take n) := by simp [sv]
theorem wO (l : List Nat) (o : Nat) : sv l o (l.length - o) = aa (l.drop o) := by
 unfold sv; rw [List.take_of_length_le (by rw [List.length_drop]; exact Nat.le_refl _)]
theorem l9 {l : List Nat} (h : Ok l) (o n : Nat) : sv l o n < W ^ n := gz (h.drop o) n
theorem ra {l : List Nat} {o n j v : Nat} (h : j < o ∨ o + n <= j) : sv (l.set j v) o n = sv l o n :=
 kW fun i hi => ba (by omega) v
theorem fq {l : List Nat} {o n v : Nat} (h : o + n < l.length) : sv (l.set (o + n) v) o (n + 1) = sv l o n + W ^ n * v := by
 rw [bT, ra (by omega), gR h]
theorem mH {l l' : List Nat} {o i n X Y : Nat} (hin : i <= n) (h : sv l' o i + X = sv l o i + Y) (hs : ∀ j, o + i <= j -> gw l' j = gw l j) : sv l' o n + X = sv l o n + Y := by
 obtain ⟨d, rfl⟩ : ∃ d, n = i + d := ⟨n - i, by omega⟩;rw [jY, jY, kW (l := l') (l' := l) (o := o + i) (n := d) (fun k _ => hs _ (by omega))];omega
theorem fS {cu cur ws : List Nat} {o k cr y N M : Nat} (hlt : o + k < cu.length) (he : sv cu o k + W ^ k * cr = sv cur o k + N) (hg : gw cu (o + k) = gw cur (o + k)) (hM : M = N + W ^ k * y) :
 sv (cu.set (o + k) (aU (gw cu (o + k)) y cr)) o (k + 1) + W ^ (k + 1) * aL (gw cu (o + k)) y cr = sv cur o (k + 1) + M := by
 rw [fq hlt, bT cur, <- hg, hM, Nat.pow_succ, Nat.mul_assoc];have e := add_eq (gw cu (o + k)) y cr;have e2 : W ^ k * aU (gw cu (o + k)) y cr + W ^ k * (W * aL (gw cu (o + k)) y cr) = W ^ k * (gw cu (o + k) + y + cr) := by rw [<- Nat.mul_add, e]
 rw [Nat.mul_add, Nat.mul_add] at e2;omega
theorem sub_eq {x y c : Nat} (hx : x < W) (hy : y < W) (hc : c <= 1) : db x y c + y + c = x + W * rB x y c := by
 unfold db rB;split
 · rw [Nat.mod_eq_of_lt (by omega)]; omega
 · have : x + W - y - c = (x - y - c) + W := by omega
   rw [this, Nat.add_mod_right, Nat.mod_eq_of_lt (by omega)]; omega
theorem jl {cu cur : List Nat} {o k cr y N M : Nat} (hlt : o + k < cu.length) (he : sv cu o k + N = sv cur o k + W ^ k * cr) (hg : gw cu (o + k) = gw cur (o + k)) (hM : M = N + W ^ k * y)
 (hx : gw cu (o + k) < W) (hy : y < W) (hc : cr <= 1) :
 sv (cu.set (o + k) (db (gw cu (o + k)) y cr)) o (k + 1) + M = sv cur o (k + 1) + W ^ (k + 1) * rB (gw cu (o + k)) y cr := by
 rw [fq hlt, bT cur, <- hg, hM, Nat.pow_succ, Nat.mul_assoc];have e := sub_eq hx hy hc;have e2 : W ^ k * (db (gw cu (o + k)) y cr + y + cr) = W ^ k * (gw cu (o + k) + W * rB (gw cu (o + k)) y cr) := by rw [e]
 rw [Nat.mul_add, Nat.mul_add, Nat.mul_add] at e2;omega
theorem ke {l : List Nat} {k v : Nat} (hk : k < l.length) : aa (l.set k v) + W ^ k * gw l k = aa l + W ^ k * v := vi l k v hk
theorem iV {g x y c : Nat} (hg : g < W) (hx : x < W) (hy : y < W) (hc : c < W) :
 aX x y + aL (aE x y) c 0 < W /\ aX x y + aL (aE x y) c 0 + aL g (aU (aE x y) c 0) 0 < W /\
 aU g (aU (aE x y) c 0) 0 + W * (aX x y + aL (aE x y) c 0 + aL g (aU (aE x y) c 0) 0) = g + x * y + c := by
 have e1 := mul_eq x y;have e2 := add_eq (aE x y) c 0;have e3 := add_eq g (aU (aE x y) c 0) 0;have h1 : x * y <= (W - 1) * (W - 1) := Nat.mul_le_mul (by omega) (by omega);have h2 : (W - 1) * (W - 1) + 2 * (W - 1) + 1 = W * W := by
  obtain ⟨v, hv⟩ : ∃ v, W = v + 1 := ⟨W - 1, by have := aS; omega⟩;rw [hv, Nat.add_sub_cancel, Nat.add_mul, Nat.mul_add]; omega
 have e4 : aU g (aU (aE x y) c 0) 0 + W * (aX x y + aL (aE x y) c 0 + aL g (aU (aE x y) c 0) 0) = g + x * y + c := by
  rw [Nat.mul_add, Nat.mul_add]; omega
 have h3 : W * (aX x y + aL (aE x y) c 0 + aL g (aU (aE x y) c 0) 0) < W * W := by omega
 have h4 := Nat.lt_of_mul_lt_mul_left h3;exact ⟨by omega, h4, e4⟩
theorem tF {cu ys : List Nat} {k j c x A : Nat} (hlt : k + j < cu.length) (he : aa cu + W ^ (k + j) * c = A + W ^ k * (x * aa (ys.take j))) (hg : gw cu (k + j) < W) (hx : x < W) (hy : gw ys j < W) (hc : c < W) :
 aa (cu.set (k + j) (aU (gw cu (k + j)) (aU (aE x (gw ys j)) c 0) 0)) + W ^ (k + (j + 1)) * (aX x (gw ys j) + aL (aE x (gw ys j)) c 0 + aL (gw cu (k + j)) (aU (aE x (gw ys j)) c 0) 0) =
  A + W ^ k * (x * aa (ys.take (j + 1))) := by
 obtain ⟨_, _, e⟩ := iV hg hx hy hc;have e1 := ke (v := aU (gw cu (k + j)) (aU (aE x (gw ys j)) c 0) 0) hlt;rw [aB, <- Nat.add_assoc, Nat.pow_succ, Nat.mul_assoc];have e2 : W ^ (k + j) * (aU (gw cu (k + j)) (aU (aE x (gw ys j)) c 0) 0) + W ^ (k + j) * (W * (aX x (gw ys j) + aL (aE x (gw ys j)) c 0 + aL (gw cu (k + j)) (aU (aE x (gw ys j)) c 0) 0)) = W ^ (k + j) * gw cu (k + j) + W ^ (k + j) * (x * gw ys j) + W ^ (k + j) * c := by
  rw [<- Nat.mul_add, e, Nat.mul_add, Nat.mul_add]
 have e3 : W ^ k * (x * (aa (ys.take j) + W ^ j * gw ys j)) = W ^ k * (x * aa (ys.take j)) + W ^ (k + j) * (x * gw ys j) := by
  rw [Nat.mul_add, Nat.mul_add, Nat.pow_add]; congr 1;rw [Nat.mul_left_comm x, Nat.mul_assoc]
 rw [e3];omega
def eX (m n : Nat) : Int := if m < n then -1 else if n < m then 1 else 0
theorem kI {m n : Nat} (h : m < n) : eX m n = -1 := by simp [eX, h]
theorem sC {m n : Nat} (h : n < m) : eX m n = 1 := by simp [eX, h]; omega
theorem wz {m n : Nat} (h : m = n) : eX m n = 0 := by simp [eX, h]
end Go.Proofs.Ytjjlmfmoihooiaa
namespace Go.Proofs.Ytjjlmfmoihooiaa
open Go.RowKit
def ah (w : World) (b : Nat) (t : TypeId) (cs : List Value) : Prop := w.heap[b]? = some (.cells cs.toArray t (0, 0))
theorem ah.lt {w : World} {b : Nat} {t : TypeId} {cs : List Value} (h : ah w b t cs) : b < w.heap.size := (Array.getElem?_eq_some_iff.1 h).1
theorem ah.cell {w : World} {b : Nat} {t : TypeId} {cs : List Value} (h : ah w b t cs) (i : Nat) : w.cell? ⟨b, i, none⟩ = cs[i]? := by
 have := cell_of_row w b i cs.toArray t (0, 0) h; simpa using this
theorem ah.free {w : World} {b : Nat} {t : TypeId} {cs : List Value} (h : ah w b t cs) (i : Nat) : w.frozen? ⟨b, i, none⟩ = false := frozen_of_row w b i cs.toArray t h
theorem ah.set {w : World} {b : Nat} {t : TypeId} {cs : List Value} (h : ah w b t cs) (i : Nat) (v : Value) : ah (w.setCell ⟨b, i, none⟩ v) b t (cs.set i v) := by
 have := heap_setCell_same w b i cs.toArray t v h; unfold ah; rw [this]; simp
theorem ah.other {w : World} {b : Nat} {t : TypeId} {cs : List Value} (h : ah w b t cs) {p : Addr} (hp : b ≠ p.block) (v : Value) : ah (w.setCell p v) b t cs := by
 unfold ah; rw [Below.heap_setCell _ _ _ _ hp]; exact h
theorem ah.below {w w' : World} {b B : Nat} {t : TypeId} {cs : List Value} (h : ah w b t cs) (hb : Below B w w') (hB : b < B) : ah w' b t cs := by
 unfold ah; rw [hb.block b hB]; exact h
theorem ah.alloc {w : World} {b : Nat} {t : TypeId} {cs : List Value} (h : ah w b t cs) (o : Obj) : ah (w.alloc o) b t cs := by
 unfold ah; rw [Below.heap_alloc _ _ _ h.lt]; exact h
theorem ah.new (w : World) (cs : Array Value) (t : TypeId) : ah (w.alloc (.cells cs t)) w.heap.size t cs.toList := by
 unfold ah; rw [heap_alloc_new]
def wv (n : Nat) : Value := .int .u64 (n : Int)
def cf (w : World) (ao : Option Addr) (ws : List Nat) : Prop :=
 Ok ws /\ (0 < ws.length -> ∃ b o, ao = some ⟨b, o, none⟩ /\ b < w.heap.size /\ ∀ i, i < ws.length -> w.cell? ⟨b, o + i, none⟩ = some (.int .u64 ((gw ws i : Nat) : Int)))
theorem cf.ok {w : World} {ao : Option Addr} {ws : List Nat} (h : cf w ao ws) : Ok ws := h.1
theorem cf.pos {w : World} {ao : Option Addr} {ws : List Nat} (h : cf w ao ws) (hl : 0 < ws.length) :
 ∃ b o, ao = some ⟨b, o, none⟩ /\ b < w.heap.size /\ ∀ i, i < ws.length -> w.cell? ⟨b, o + i, none⟩ = some (.int .u64 ((gw ws i : Nat) : Int)) := h.2 hl
theorem cf.below {w w' : World} {ao : Option Addr} {ws : List Nat} (h : cf w ao ws) (hb : Below w.heap.size w w') : cf w' ao ws :=
 ⟨h.1, fun hl => by
  obtain ⟨b, o, rfl, hlt, hc⟩ := h.2 hl;exact ⟨b, o, rfl, Nat.lt_of_lt_of_le hlt hb.size, fun i hi => (hb.cell (p := ⟨b, o + i, none⟩) hlt).trans (hc i hi)⟩⟩
theorem cf.nil (w : World) (ao : Option Addr) : cf w ao [] := ⟨Ok.nil, fun h => by simp at h⟩
theorem cf.drop {w : World} {b o : Nat} {ws : List Nat} (h : cf w (some ⟨b, o, none⟩) ws) (k : Nat) : cf w (some ⟨b, o + k, none⟩) (ws.drop k) :=
 ⟨h.1.drop k, fun hl => by
  rw [List.length_drop] at hl;obtain ⟨b', o', he, hlt, hc⟩ := h.2 (by omega);cases he;refine ⟨b, o + k, rfl, hlt, fun i hi => ?_⟩;rw [List.length_drop] at hi;have := hc (k + i) (by omega);rw [Nat.add_assoc];rw [this, sJ]⟩
theorem cf.take {w : World} {ao : Option Addr} {ws : List Nat} (h : cf w ao ws) (k : Nat) : cf w ao (ws.take k) :=
 ⟨h.1.take k, fun hl => by
  have hl' : 0 < ws.length := by simp [List.length_take] at hl; omega
  obtain ⟨b, o, rfl, hlt, hc⟩ := h.2 hl';refine ⟨b, o, rfl, hlt, fun i hi => ?_⟩;rw [List.length_take] at hi;rw [hc i (by omega)];simp only [gw, List.getD_eq_getElem?_getD, List.getElem?_take];rw [if_pos (by omega)]⟩
def cJ (w : World) (B : Nat) (ao : Option Addr) (len cap : Nat) (ws : List Nat) : Prop :=
 Ok ws /\ len = ws.length /\ w.ownsRow B 51 1 (.slice ao len cap) len (ws.map wv)
theorem cJ.len {w : World} {B : Nat} {ao : Option Addr} {len cap : Nat} {ws : List Nat} (h : cJ w B ao len cap ws) : len = ws.length := h.2.1
theorem cJ.at_ {w : World} {B : Nat} {ao : Option Addr} {len cap : Nat} {ws : List Nat} (h : cJ w B ao len cap ws) : cf w ao ws := by
 obtain ⟨h1, h2, h3, h4⟩ := h;refine ⟨h1, fun hl => ?_⟩;rcases h4 with ⟨_, h0⟩ | ⟨g, c, cur, hv, hb, hg, hn, hm, hs, ht⟩
 · omega
 · cases hv;refine ⟨g, 0, rfl, (Array.getElem?_eq_some_iff.1 hg).1, fun i hi => ?_⟩;have hcell := cell_of_row w g i cur _ (0, 0) hg;rw [Nat.zero_add, hcell];have : (ws.map wv)[i]? = some (wv (gw ws i)) := by
    rw [List.getElem?_map, List.getElem?_eq_getElem hi]; simp [gw, List.getD_eq_getElem?_getD, List.getElem?_eq_getElem hi]
   rw [<- ht, List.getElem?_take, if_pos (by omega)] at this;simpa [wv] using this
theorem cJ.cap {w : World} {B : Nat} {ao : Option Addr} {len cap : Nat} {ws : List Nat} (h : cJ w B ao len cap ws) : len <= cap /\ cap <= maxLen := by
 obtain ⟨h1, h2, h3, h4⟩ := h;rcases h4 with ⟨hv, h0⟩ | ⟨g, c, cur, hv, hb, hg, hn, hm, hs, ht⟩
 · cases hv; simp
 · cases hv; exact ⟨hn, hm⟩
theorem cJ.below {w w' : World} {B : Nat} {ao : Option Addr} {len cap : Nat} {ws : List Nat} (h : cJ w B ao len cap ws) (hb : Below w.heap.size w w') : cJ w' B ao len cap ws := by
 obtain ⟨h1, h2, h3, h4⟩ := h;refine ⟨h1, h2, h3, ?_⟩;rcases h4 with h0 | ⟨g, c, cur, hv, hbb, hg, r⟩
 · exact .inl h0
 · refine .inr ⟨g, c, cur, hv, hbb, ?_, r⟩;rw [hb.block g (Array.getElem?_eq_some_iff.1 hg).1]; exact hg
theorem cJ.mono {w : World} {B B' : Nat} {ao : Option Addr} {len cap : Nat} {ws : List Nat} (h : cJ w B ao len cap ws) (hb : B' <= B) : cJ w B' ao len cap ws := by
 obtain ⟨h1, h2, h3, h4⟩ := h;refine ⟨h1, h2, h3, ?_⟩;rcases h4 with h0 | ⟨g, c, cur, hv, hbb, r⟩
 · exact .inl h0
 · exact .inr ⟨g, c, cur, hv, by omega, r⟩
theorem cJ.nil (w : World) (B : Nat) : cJ w B none 0 0 [] := ⟨Ok.nil, rfl, by simpa using World.ownsRow_nil w B _ 1⟩
theorem ah.own {w : World} {b B n : Nat} {ws : List Nat} {cap : Nat} (h : ah w b 51 (ws.map wv)) (hok : Ok ws) (hB : B <= b) (hn : n <= ws.length) (hc : cap = ws.length) (hm : cap <= maxLen) :
 cJ w B (some ⟨b, 0, none⟩) n cap (ws.take n) :=
 ⟨hok.take n, by simp; omega, by simp [List.length_take]; omega, .inr ⟨b, cap, _, rfl, hB, h, by omega, hm, by simp [hc], by simp [List.map_take]⟩⟩
structure Made (w w' : World) (b : Nat) (t : TypeId) (cs : List Value) : Prop where
 at_ : b = w.heap.size
 size : w'.heap.size = w.heap.size + 1
 row : ah w' b t cs
 below : Below w.heap.size w w'
theorem gE {P : Program} {w : World} {ops : Array Oper} {rest : List Oper} {o : Oper} {a : Act} {Q : Exit -> Act -> World -> Prop}
 (hg : o.guard = none) (l c : Operand) (t : TypeId) (hop : o.op = Op.makeSlice t l c) (e : TypeId) (z : Value) (size bytes : Nat)
 (h1 : P.underlying t = some (.slice e)) (h2 : (P.info? e).map (fun i => (i.zero, i.size, i.bytes)) = some (some z, size, bytes))
 {kl kc : IntKind} {L C : Int} (n m : Nat) (hl : a.eval l = .int kl L) (hc : a.eval c = .int kc C) (hL : L = (n : Int)) (hC : C = (m : Int)) (hnm : n <= m) (b2 : bytes * m <= 281474976710656) (b3 : m <= maxLen)
 (hK : ∀ b w', Made w w' b e (madeCells z.cells (m * size)).toList -> wpList P ops Q rest (a.put o.dst (.slice (some ⟨b, 0, none⟩) n m)) w') :
 wpList P ops Q (o :: rest) a w := by
 refine wpList_plain hg fun K hK' => ?_;obtain ⟨i, hi, hz, hs, hb⟩ := info_parts h2;subst hL hC hs hb;have h63 : (m : Int) <= 9223372036854775807 := by have h := b3; unfold maxLen at h; omega
 have hb' : (i.bytes : Int) * (m : Int) <= 281474976710656 := by
  have h : ((i.bytes * m : Nat) : Int) <= 281474976710656 := by omega
  rwa [Int.natCast_mul] at h
 have hr := run_make (P := P) w t e i z h1 hi hz kl kc n m (by omega) (by omega) hb' h63;simp only [Int.toNat_natCast] at hr;unfold Oper.wp;simp [execOp, hop, hl, hc, hr, Result.andThen];exact hK' _ _ (hK _ _ ⟨rfl, by simp, ah.new _ _ _, (Below.refl _ _).alloc (Nat.le_refl _) _⟩)
theorem iP (z : Value) (h : z.cells = #[z]) (n : Nat) : (madeCells z.cells (n * 1)).toList = List.replicate n z := by
 rw [h, Nat.mul_one, toList_madeCells_one]
theorem qY (n : Nat) : (madeCells (Value.int .u64 0).cells (n * 1)).toList = (List.replicate n 0).map wv := by
 rw [iP _ rfl]; simp [wv]
theorem pX (ws : List Nat) (i : Nat) (h : i < ws.length) : (ws.map wv)[i]? = some (.int .u64 ((gw ws i : Nat) : Int)) := by
 rw [List.getElem?_map, List.getElem?_eq_getElem h]; simp [wv, gw, List.getD_eq_getElem?_getD, List.getElem?_eq_getElem h]
theorem rp (ws : List Nat) (i v : Nat) : (ws.map wv).set i (.int .u64 (v : Int)) = (ws.set i v).map wv := by
 rw [List.map_set]; rfl
theorem ah.word {w : World} {b : Nat} {t : TypeId} {ws : List Nat} (h : ah w b t (ws.map wv)) {i : Nat} (hi : i < ws.length) : w.cell? ⟨b, i, none⟩ = some (.int .u64 ((gw ws i : Nat) : Int)) :=
 (h.cell i).trans (pX ws i hi)
theorem ah.cg {w : World} {b : Nat} {t : TypeId} {ws : List Nat} (h : ah w b t (ws.map wv)) (i v : Nat) : ah (w.setCell ⟨b, i, none⟩ (.int .u64 (v : Int))) b t ((ws.set i v).map wv) := by
 rw [<- rp]; exact h.set i _
theorem uU : (Try.prog.info? 51).map (fun i => (i.zero, i.size, i.bytes)) = some (some (.int .u64 0), 1, 8) := by kernel_rfl
theorem dx {w : World} {ops : Array Oper} {rest : List Oper} {o : Oper} {a : Act} {Q : Exit -> Act -> World -> Prop}
 (hg : o.guard = none) (l c : Operand) (hop : o.op = Op.makeSlice 25 l c)
 {kl kc : IntKind} {L C : Int} (n m : Nat) (hl : a.eval l = .int kl L) (hc : a.eval c = .int kc C) (hL : L = (n : Int)) (hC : C = (m : Int)) (hnm : n <= m) (b2 : m <= 35184372088832)
 (hK : ∀ b w', Made w w' b 51 ((List.replicate m 0).map wv) -> wpList Try.prog ops Q rest (a.put o.dst (.slice (some ⟨b, 0, none⟩) n m)) w') :
 wpList Try.prog ops Q (o :: rest) a w :=
 gE hg l c 25 hop 51 (.int .u64 0) 1 8 Try.underlying25 uU n m hl hc hL hC hnm (by omega) (by unfold maxLen; omega)
  (fun b w' h => hK b w' (by rw [qY] at h; exact h))
theorem lH {w : World} {ops : Array Oper} {rest : List Oper} {o : Oper} {a : Act} {Q : Exit -> Act -> World -> Prop} (hgd : o.guard = none) (d s : Operand)
 (ho : o.op = .call { callee := .builtin .copy, args := #[d, s], argTypes := #[25, 25] })
 {ao : Option Addr} {len cap b off dl dc : Nat} {ws cur : List Nat} (hA : cf w ao ws) (hl : len = ws.length) (hrow : ah w b 51 (cur.map wv))
 (hd : a.eval d = .slice (some ⟨b, off, none⟩) dl dc) (hs : a.eval s = .slice ao len cap) (hfit : off + dl <= cur.length)
 (h : ∀ w', ah w' b 51 ((splice cur off (ws.take dl)).map wv) -> w.grownBy w' (some b) -> wpList Try.prog ops Q rest (a.put o.dst (goInt (Nat.min ws.length dl : Nat))) w') :
 wpList Try.prog ops Q (o :: rest) a w := by
 have e : ((ws.take dl).map wv).length = Nat.min ws.length dl := by simp [List.length_take, Nat.min_comm]
 have es : ((cur.map wv).take off ++ ((ws.take dl).map wv ++ (cur.map wv).drop (off + ((ws.take dl).map wv).length))) = (splice cur off (ws.take dl)).map wv := by
  simp [splice, List.map_take, List.map_drop]
 by_cases h0 : ((ws.take dl).map wv).length = 0
 · have h1 : (ws.take dl) = [] := List.eq_nil_of_length_eq_zero (by simpa using h0);refine wpList_copy_nothing hgd d s 25 25 ho 51 Try.underlying25 (by kernel_rfl) (some ⟨b, off, none⟩) ao dl dc len cap hd hs (by rw [hl, <- e]; exact h0) ?_;have := h w (by rw [h1]; simpa [splice] using hrow) ⟨rfl, rfl, rfl, Nat.le_refl _, fun _ _ _ => rfl⟩;rw [<- e, h0] at this;exact this
 · have hp : 0 < ((ws.take dl).map wv).length := by omega
   rw [e] at hp;obtain ⟨b', o', rfl, hlt, hc⟩ := hA.pos (Nat.lt_of_lt_of_le hp (Nat.min_le_left ..));refine wpList_copy_own hgd d s 25 25 ho 51 Try.underlying25 (by kernel_rfl) b off dl dc ⟨b', o', none⟩ len cap hd hs (cur.map wv).toArray 51 hrow ((ws.take dl).map wv)
    (by rw [e, hl]) ?_ ?_ ?_ ?_
   · intro j v hj;rw [List.getElem?_map, List.getElem?_take] at hj;split at hj
     · obtain ⟨x, hx, rfl⟩ := Option.map_eq_some_iff.1 hj;have hjl : j < ws.length := (List.getElem?_eq_some_iff.1 hx).1;have := hc j hjl;rw [Addr.add_lit];rw [this];simp [wv, gw, List.getD_eq_getElem?_getD, hx]
     · simp at hj
   · rw [e];have : Nat.min ws.length dl <= dl := Nat.min_le_right ..;simp;omega
   · intro v hv;obtain ⟨x, _, rfl⟩ := List.mem_map.1 hv;rfl
   · rw [e];refine h _ ?_ ⟨rfl, rfl, rfl, by simp, fun k _ hk => setRow_other w b k _ (fun e => hk (by rw [e]))⟩;unfold ah;rw [setRow_heap w b (cur.map wv).toArray _ 51 (0, 0) hrow];rw [<- es, e]
theorem nB (x y c : Nat) (hc : c <= 1) (w : World) : (callFunc 89 #[.int .u64 (x : Int), .int .u64 (y : Int), .int .u64 (c : Int)]).run Try.prog w =
 .ok (.value (.tuple #[.int .u64 ((aU x y c : Nat) : Int), .int .u64 ((aL x y c : Nat) : Int)])) w := by
 rw [run_callFunc_extern Try.func89 (by kernel_rfl) (by kernel_rfl) (by kernel_rfl) (e := add64Entry) (by kernel_rfl), run_add64 x y c (by omega) (by omega) (by omega) (by omega)];simp only [Result.andThen, W, aU, aL];congr 5 <;> omega
theorem x7 (x y c : Nat) (hc : c <= 1) (w : World) : (callFunc 90 #[.int .u64 (x : Int), .int .u64 (y : Int), .int .u64 (c : Int)]).run Try.prog w =
 .ok (.value (.tuple #[.int .u64 ((db x y c : Nat) : Int), .int .u64 ((rB x y c : Nat) : Int)])) w := by
 unfold rB db;rw [run_callFunc_extern Try.func90 (by kernel_rfl) (by kernel_rfl) (by kernel_rfl) (e := sub64Entry) (by kernel_rfl), run_sub64 x y c hc];rfl
theorem lq {o : Oper} {a : Act} {f : FuncId} {p q r : Operand} {tys : Array TypeId} (ho : o.op = .call { callee := .value (.func f), args := #[p, q, r], argTypes := tys }) :
 execOp a.eval o = callFunc f #[a.eval p, a.eval q, a.eval r] := by
 obtain ⟨dst, op, type, pos, after, guard⟩ := o;simp only at ho; subst ho;show callFunc f (#[] ++ (#[p, q, r].map a.eval) ++ #[]) = _;simp
theorem bP {w : World} {ops : Array Oper} {rest : List Oper} {o : Oper} {a : Act} {Q : Exit -> Act -> World -> Prop} (hg : o.guard = none) (p q r : Operand) (tys : Array TypeId)
 (ho : o.op = .call { callee := .value (.func 89), args := #[p, q, r], argTypes := tys }) {X Y C : Int} (x y c : Nat) (hc : c <= 1)
 (hp : a.eval p = .int .u64 X) (hq : a.eval q = .int .u64 Y) (hr : a.eval r = .int .u64 C) (hX : X = (x : Int)) (hY : Y = (y : Int)) (hC : C = (c : Int))
 (h : wpList Try.prog ops Q rest (a.put o.dst (.tuple #[.int .u64 ((aU x y c : Nat) : Int), .int .u64 ((aL x y c : Nat) : Int)])) w) : wpList Try.prog ops Q (o :: rest) a w := by
 subst hX hY hC;refine wpList_plain hg fun K hK => ?_;unfold Oper.wp;rw [lq ho, hp, hq, hr, nB x y c hc w];exact hK _ _ h
theorem fA {w : World} {ops : Array Oper} {rest : List Oper} {o : Oper} {a : Act} {Q : Exit -> Act -> World -> Prop} (hg : o.guard = none) (p q r : Operand) (tys : Array TypeId)
 (ho : o.op = .call { callee := .value (.func 90), args := #[p, q, r], argTypes := tys }) {X Y C : Int} (x y c : Nat) (hc : c <= 1)
 (hp : a.eval p = .int .u64 X) (hq : a.eval q = .int .u64 Y) (hr : a.eval r = .int .u64 C) (hX : X = (x : Int)) (hY : Y = (y : Int)) (hC : C = (c : Int))
 (h : wpList Try.prog ops Q rest (a.put o.dst (.tuple #[.int .u64 ((db x y c : Nat) : Int), .int .u64 ((rB x y c : Nat) : Int)])) w) : wpList Try.prog ops Q (o :: rest) a w := by
 subst hX hY hC;refine wpList_plain hg fun K hK => ?_;unfold Oper.wp;rw [lq ho, hp, hq, hr, x7 x y c hc w];exact hK _ _ h
theorem ah.kx {w : World} {b : Nat} {t : TypeId} {ws : List Nat} (h : ah w b t (ws.map wv)) (hok : Ok ws) : cf w (some ⟨b, 0, none⟩) ws :=
 ⟨hok, fun _ => ⟨b, 0, rfl, h.lt, fun i hi => by rw [Nat.zero_add]; exact h.word hi⟩⟩
theorem jF {w : World} {b B n m : Nat} {ws : List Nat} (h : ah w b 51 (ws.map wv)) (hok : Ok ws) (hB : B <= b) (hm : ws.length = m) (hmm : m <= 35184372088832) (hn : aa ws = n) :
 au ws = ag n /\ cJ w B (some ⟨b, 0, none⟩) (ag n) m (ez n) := by
 have h1 := bD hok;rw [hn] at h1;refine ⟨h1.symm, ?_⟩;have := h.own (B := B) (n := au ws) (cap := m) hok hB (aD ws) hm.symm (by unfold maxLen; omega);rw [h1, <- hn, fD hok]; exact this
theorem vG (x n : Nat) : IntKind.u64.wrap ((x : Int) * 2 ^ n) = ((x * 2 ^ n % W : Nat) : Int) := by
 rw [IntKind.wrap_u64, Int.natCast_emod, Int.natCast_mul, Int.natCast_pow]; rfl
theorem pN (x n : Nat) : (x : Int) / 2 ^ n = ((x / 2 ^ n : Nat) : Int) := by
 rw [Int.natCast_ediv, Int.natCast_pow]; rfl
theorem or_cast (x y : Nat) (hx : x < W) (hy : y < W) : bits BinOp.or .u64 (x : Int) (y : Int) = ((x ||| y : Nat) : Int) := bits_or_u64_nat x y hx hy
theorem and_cast (x y : Nat) (hx : x < W) (hy : y < W) : bits BinOp.and .u64 (x : Int) (y : Int) = ((x &&& y : Nat) : Int) := bits_and_u64_nat x y hx hy
theorem ah.drew {w : World} {b : Nat} {t : TypeId} {cs : List Value} (h : ah w b t cs) : ah w.drew b t cs := h
def iT (ao : Option Addr) (ws : List Nat) (b : Nat) : Prop := 0 < ws.length -> ∀ a, ao = some a -> a.block ≠ b
theorem cf.apart {w : World} {b : Nat} {ao : Option Addr} {ws : List Nat} (h : cf w ao ws) (hb : w.heap.size <= b) : iT ao ws b := fun hl a ha => by
 obtain ⟨b', o', rfl, hlt, _⟩ := h.2 hl;cases ha;exact Nat.ne_of_lt (Nat.lt_of_lt_of_le hlt hb)
theorem cf.grown {w w' : World} {b : Nat} {ao : Option Addr} {ws : List Nat} (h : cf w ao ws) (hg : w.grownBy w' (some b)) (hne : iT ao ws b) : cf w' ao ws :=
 ⟨h.1, fun hl => by
  obtain ⟨b', o', rfl, hlt, hc⟩ := h.2 hl;exact ⟨b', o', rfl, Nat.lt_of_lt_of_le hlt hg.size, fun i hi => hg.cell (hc i hi) (fun e => hne hl _ rfl (Option.some.inj e))⟩⟩
theorem ah.grown {w w' : World} {b b' : Nat} {t : TypeId} {cs : List Value} (h : ah w b t cs) (hg : w.grownBy w' (some b')) (hne : b ≠ b') : ah w' b t cs := by
 unfold ah; rw [hg.block b h.lt (fun e => hne (Option.some.inj e))]; exact h
theorem mr {a w : World} {b : Nat} (h : a.grownBy w (some b)) (i : Nat) (v : Value) : a.grownBy (w.setCell ⟨b, i, none⟩ v) (some b) :=
 ⟨h.os, h.tape, h.output, by simpa using h.size, fun k hk hne => by rw [Below.heap_setCell _ _ _ _ (fun e => hne (by rw [e]))]; exact h.block k hk hne⟩
theorem dF {a w : World} {r : Option Nat} (h : a.grownBy w r) (n : Nat) : a.grownBy (w.drewN n) r := ⟨h.os, h.tape, h.output, h.size, h.block⟩
theorem l8 {a w : World} {r : Option Nat} (h : a.grownBy w r) : a.grownBy w.drew r := ⟨h.os, h.tape, h.output, h.size, h.block⟩
theorem ie {a w u : World} {r : Option Nat} (h : a.grownBy w r) (k : w.grownBy u r) : a.grownBy u r :=
 ⟨k.os.trans h.os, k.tape.trans h.tape, k.output.trans h.output, Nat.le_trans h.size k.size, fun i hi hne => (k.block i (Nat.lt_of_lt_of_le hi h.size) hne).trans (h.block i hi hne)⟩
theorem ah.drewN {w : World} {b : Nat} {t : TypeId} {cs : List Value} (h : ah w b t cs) (n : Nat) : ah (w.drewN n) b t cs := h
structure r6 (w w' : World) (b : Nat) (zs : List Nat) : Prop where
 row : ah w' b 51 (zs.map wv)
 ok : Ok zs
 ge : w.heap.size <= b
 below : Below w.heap.size w w'
theorem r6.own {w w' : World} {b n : Nat} {zs : List Nat} (h : r6 w w' b zs) (hn : n = zs.length) (hm : n <= maxLen) : cJ w' w.heap.size (some ⟨b, 0, none⟩) n n zs := by
 have := h.row.own (B := w.heap.size) (n := n) (cap := n) h.ok h.ge (by omega) hn hm
 rwa [List.take_of_length_le (by omega)] at this
theorem fk {k : IntKind} {a b : Int} (h : a = b) : Ending.returned (.int k a) = .returned (.int k b) := by rw [h]
def da (x s : Nat) : Nat := x * 2 ^ s % W
def fu (x s : Nat) : Nat := x / 2 ^ s
def rL (x y : Nat) : Nat := x ||| y
def my (x y : Nat) : Nat := x &&& y
def ky (x y : Nat) : Nat := x / y
section
variable {w : World} {ops : Array Oper} {rest : List Oper} {o : Oper} {a : Act} {Q : Exit -> Act -> World -> Prop}
theorem dJ (hg : o.guard = none) {v : Value} (hr : (execOp a.eval o).run Try.prog w = .ok (.value v) w) (h : wpList Try.prog ops Q rest (a.put o.dst v) w) : wpList Try.prog ops Q (o :: rest) a w := by
 refine wpList_plain hg fun K hK => ?_;unfold Oper.wp;rw [hr];exact hK _ _ h
theorem wA (ρ : Operand -> Value) (o : Oper) (p q : Operand) (ho : o.op = .binOp .mul 51 p q 51) (x y : Nat)  (hp : ρ p = .int .u64 (x : Int)) (hq : ρ q = .int .u64 (y : Int)) :
 (execOp ρ o).run Try.prog w = .ok (.value (.int .u64 ((aE x y : Nat) : Int))) w := by
 obtain ⟨dst, op, type, pos, after, guard⟩ := o;simp only at ho; subst ho;simp [go_sem, hp, hq, IntKind.wrap_u64, aE, W]
theorem j4 (hg : o.guard = none) (p q : Operand) (ho : o.op = .binOp .mul 51 p q 51) {X Y : Int} (x y : Nat) 
 (hp : a.eval p = .int .u64 X) (hq : a.eval q = .int .u64 Y) (hX : X = (x : Int)) (hY : Y = (y : Int))
 (h : wpList Try.prog ops Q rest (a.put o.dst (.int .u64 ((aE x y : Nat) : Int))) w) : wpList Try.prog ops Q (o :: rest) a w := by
 subst hX hY;exact dJ hg (wA _ _ p q ho x y  hp hq) h
theorem wg (ρ : Operand -> Value) (o : Oper) (p q : Operand) (ho : o.op = .binOp .add 51 p q 51) (x y : Nat)  (hp : ρ p = .int .u64 (x : Int)) (hq : ρ q = .int .u64 (y : Int)) :
 (execOp ρ o).run Try.prog w = .ok (.value (.int .u64 ((aU x y 0 : Nat) : Int))) w := by
 obtain ⟨dst, op, type, pos, after, guard⟩ := o;simp only at ho; subst ho;simp [go_sem, hp, hq, IntKind.wrap_u64, aU, W]
theorem nS (hg : o.guard = none) (p q : Operand) (ho : o.op = .binOp .add 51 p q 51) {X Y : Int} (x y : Nat) 
 (hp : a.eval p = .int .u64 X) (hq : a.eval q = .int .u64 Y) (hX : X = (x : Int)) (hY : Y = (y : Int))
 (h : wpList Try.prog ops Q rest (a.put o.dst (.int .u64 ((aU x y 0 : Nat) : Int))) w) : wpList Try.prog ops Q (o :: rest) a w := by
 subst hX hY;exact dJ hg (wg _ _ p q ho x y  hp hq) h
theorem wM (ρ : Operand -> Value) (o : Oper) (p q : Operand) (ho : o.op = .binOp .sub 51 p q 51) (x y : Nat) (hy : y < W) (hp : ρ p = .int .u64 (x : Int)) (hq : ρ q = .int .u64 (y : Int)) :
 (execOp ρ o).run Try.prog w = .ok (.value (.int .u64 ((db x y 0 : Nat) : Int))) w := by
 obtain ⟨dst, op, type, pos, after, guard⟩ := o;simp only at ho; subst ho;simp [go_sem, hp, hq, IntKind.wrap_u64, db];unfold W at *;omega
theorem rH (hg : o.guard = none) (p q : Operand) (ho : o.op = .binOp .sub 51 p q 51) {X Y : Int} (x y : Nat) (hy : y < W)
 (hp : a.eval p = .int .u64 X) (hq : a.eval q = .int .u64 Y) (hX : X = (x : Int)) (hY : Y = (y : Int))
 (h : wpList Try.prog ops Q rest (a.put o.dst (.int .u64 ((db x y 0 : Nat) : Int))) w) : wpList Try.prog ops Q (o :: rest) a w := by
 subst hX hY;exact dJ hg (wM _ _ p q ho x y hy hp hq) h
theorem n9 (hg : o.guard = none) (p q : Operand) (ho : o.op = .binOp .sub 51 p q 51) {X Y : Int} (x y z : Nat) (hy : y < W) (hz : db x y 0 = z)
 (hp : a.eval p = .int .u64 X) (hq : a.eval q = .int .u64 Y) (hX : X = (x : Int)) (hY : Y = (y : Int))
 (h : wpList Try.prog ops Q rest (a.put o.dst (.int .u64 ((z : Nat) : Int))) w) : wpList Try.prog ops Q (o :: rest) a w := by
 subst hz;exact rH hg p q ho x y hy hp hq hX hY h
theorem wh (ρ : Operand -> Value) (o : Oper) (p q : Operand) (ho : o.op = .binOp .quo 51 p q 51) (x y : Nat) (hx : x < W) (hy : y ≠ 0) (hp : ρ p = .int .u64 (x : Int)) (hq : ρ q = .int .u64 (y : Int)) :
 (execOp ρ o).run Try.prog w = .ok (.value (.int .u64 ((ky x y : Nat) : Int))) w := by
 obtain ⟨dst, op, type, pos, after, guard⟩ := o;simp only at ho; subst ho;simp [go_sem, hp, hq, IntKind.wrap_u64, ky, hy];have h1 := Nat.div_le_self x y;unfold W at hx;rw [<- Int.natCast_ediv];generalize x / y = z at *;omega
theorem tV (hg : o.guard = none) (p q : Operand) (ho : o.op = .binOp .quo 51 p q 51) {X Y : Int} (x y : Nat) (hx : x < W) (hy : y ≠ 0)
 (hp : a.eval p = .int .u64 X) (hq : a.eval q = .int .u64 Y) (hX : X = (x : Int)) (hY : Y = (y : Int))
 (h : wpList Try.prog ops Q rest (a.put o.dst (.int .u64 ((ky x y : Nat) : Int))) w) : wpList Try.prog ops Q (o :: rest) a w := by
 subst hX hY;exact dJ hg (wh _ _ p q ho x y hx hy hp hq) h
theorem xC (ρ : Operand -> Value) (o : Oper) (p q : Operand) (ho : o.op = .binOp .shl 51 p q 105) (x y : Nat) (hy : y <= 64) (hp : ρ p = .int .u64 (x : Int)) (hq : ρ q = .int .u64 (y : Int)) :
 (execOp ρ o).run Try.prog w = .ok (.value (.int .u64 ((da x y : Nat) : Int))) w := by
 obtain ⟨dst, op, type, pos, after, guard⟩ := o;simp only at ho; subst ho;simp [go_sem, hp, hq, IntKind.wrap_u64, da, hy];rfl
theorem lG (hg : o.guard = none) (p q : Operand) (ho : o.op = .binOp .shl 51 p q 105) {X Y : Int} (x y : Nat) (hy : y <= 64)
 (hp : a.eval p = .int .u64 X) (hq : a.eval q = .int .u64 Y) (hX : X = (x : Int)) (hY : Y = (y : Int))
 (h : wpList Try.prog ops Q rest (a.put o.dst (.int .u64 ((da x y : Nat) : Int))) w) : wpList Try.prog ops Q (o :: rest) a w := by
 subst hX hY;exact dJ hg (xC _ _ p q ho x y hy hp hq) h
theorem xh (ρ : Operand -> Value) (o : Oper) (p q : Operand) (ho : o.op = .binOp .shr 51 p q 105) (x y : Nat) (hx : x < W) (hy : y <= 64) (hp : ρ p = .int .u64 (x : Int)) (hq : ρ q = .int .u64 (y : Int)) :
 (execOp ρ o).run Try.prog w = .ok (.value (.int .u64 ((fu x y : Nat) : Int))) w := by
 obtain ⟨dst, op, type, pos, after, guard⟩ := o;simp only at ho; subst ho;simp [go_sem, hp, hq, IntKind.wrap_u64, fu, hy]
theorem lr (hg : o.guard = none) (p q : Operand) (ho : o.op = .binOp .shr 51 p q 105) {X Y : Int} (x y : Nat) (hx : x < W) (hy : y <= 64)
 (hp : a.eval p = .int .u64 X) (hq : a.eval q = .int .u64 Y) (hX : X = (x : Int)) (hY : Y = (y : Int))
 (h : wpList Try.prog ops Q rest (a.put o.dst (.int .u64 ((fu x y : Nat) : Int))) w) : wpList Try.prog ops Q (o :: rest) a w := by
 subst hX hY;exact dJ hg (xh _ _ p q ho x y hx hy hp hq) h
theorem yd (ρ : Operand -> Value) (o : Oper) (p q : Operand) (ho : o.op = .binOp .or 51 p q 51) (x y : Nat) (hx : x < W) (hy : y < W) (hp : ρ p = .int .u64 (x : Int)) (hq : ρ q = .int .u64 (y : Int)) :
 (execOp ρ o).run Try.prog w = .ok (.value (.int .u64 ((rL x y : Nat) : Int))) w := by
 obtain ⟨dst, op, type, pos, after, guard⟩ := o;simp only at ho; subst ho;simp [go_sem, hp, hq, IntKind.wrap_u64, rL, or_cast x y hx hy]
theorem qb (hg : o.guard = none) (p q : Operand) (ho : o.op = .binOp .or 51 p q 51) {X Y : Int} (x y : Nat) (hx : x < W) (hy : y < W)
 (hp : a.eval p = .int .u64 X) (hq : a.eval q = .int .u64 Y) (hX : X = (x : Int)) (hY : Y = (y : Int))
 (h : wpList Try.prog ops Q rest (a.put o.dst (.int .u64 ((rL x y : Nat) : Int))) w) : wpList Try.prog ops Q (o :: rest) a w := by
 subst hX hY;exact dJ hg (yd _ _ p q ho x y hx hy hp hq) h
theorem xH (ρ : Operand -> Value) (o : Oper) (p q : Operand) (ho : o.op = .binOp .and 51 p q 51) (x y : Nat) (hx : x < W) (hy : y < W) (hp : ρ p = .int .u64 (x : Int)) (hq : ρ q = .int .u64 (y : Int)) :
 (execOp ρ o).run Try.prog w = .ok (.value (.int .u64 ((my x y : Nat) : Int))) w := by
 obtain ⟨dst, op, type, pos, after, guard⟩ := o;simp only at ho; subst ho;simp [go_sem, hp, hq, IntKind.wrap_u64, my, and_cast x y hx hy]
theorem vJ (hg : o.guard = none) (p q : Operand) (ho : o.op = .binOp .and 51 p q 51) {X Y : Int} (x y : Nat) (hx : x < W) (hy : y < W)
 (hp : a.eval p = .int .u64 X) (hq : a.eval q = .int .u64 Y) (hX : X = (x : Int)) (hY : Y = (y : Int))
 (h : wpList Try.prog ops Q rest (a.put o.dst (.int .u64 ((my x y : Nat) : Int))) w) : wpList Try.prog ops Q (o :: rest) a w := by
 subst hX hY;exact dJ hg (xH _ _ p q ho x y hx hy hp hq) h
end
end Go.Proofs.Ytjjlmfmoihooiaa
namespace Go.Proofs.Ytjjlmfmoihooiaa
def HB : Nat := 4294967296
theorem uN : HB = 4294967296 := rfl
theorem sd : HB * HB = W := rfl
theorem fE {u y w y1 y0 : Nat} (hy : y = y1 * HB + y0) (h1 : 2147483648 <= y1) (hu : u < y) (hw : w < HB) (h0 : y0 < HB) :
 (u * HB + w) / y < HB /\ (u * HB + w) / y <= u / y1 /\ u / y1 <= HB + 1 := by
 have hyp : 0 < y := by unfold HB at hy; omega
 have hy1 : 0 < y1 := by omega
 refine ⟨?_, ?_, ?_⟩
 · rw [Nat.div_lt_iff_lt_mul hyp];have : (u + 1) * HB <= y * HB := Nat.mul_le_mul_right _ hu;rw [Nat.add_mul, Nat.one_mul] at this;rw [Nat.mul_comm HB y]; omega
 · rw [Nat.le_div_iff_mul_le hy1];have h2 := Nat.div_mul_le_self (u * HB + w) y;generalize (u * HB + w) / y = q at *;have h3 : q * y1 * HB <= q * y := by rw [Nat.mul_assoc]; exact Nat.mul_le_mul_left _ (by omega)
   have h4 : q * y1 * HB < (u + 1) * HB := by rw [Nat.add_mul, Nat.one_mul]; omega
   have h5 := Nat.lt_of_mul_lt_mul_right h4;omega
 · have : u / y1 < HB + 2 := by
    rw [Nat.div_lt_iff_lt_mul hy1, Nat.add_mul];have : HB * y1 = y1 * HB := Nat.mul_comm ..;unfold HB at *;omega
   omega
theorem iz {u y w y1 y0 q q1 rh : Nat} (hy : y = y1 * HB + y0) (hq : q = (u * HB + w) / y) (hyp : 0 < y) (he : q1 * y1 + rh = u) (hc : HB <= q1 ∨ HB * rh + w < q1 * y0) (hqB : q < HB) : q < q1 := by
 rcases hc with h | h
 · omega
 · refine Decidable.byContradiction fun hn => ?_;have h1 : q1 * y <= q * y := Nat.mul_le_mul_right _ (by omega);have h2 := Nat.div_mul_le_self (u * HB + w) y;rw [<- hq] at h2;have h3 : q1 * y = q1 * y1 * HB + q1 * y0 := by rw [hy, Nat.mul_add, Nat.mul_assoc]
   have h4 : u * HB = q1 * y1 * HB + rh * HB := by rw [<- he, Nat.add_mul]
   rw [Nat.mul_comm HB rh] at h;omega
theorem mD {u y w y1 y0 q q1 rh : Nat} (hy : y = y1 * HB + y0) (hq : q = (u * HB + w) / y) (hyp : 0 < y) (he : q1 * y1 + rh = u) (hc : q1 * y0 <= HB * rh + w) (hle : q <= q1) : q1 = q := by
 have h3 : q1 * y = q1 * y1 * HB + q1 * y0 := by rw [hy, Nat.mul_add, Nat.mul_assoc]
 have h4 : u * HB = q1 * y1 * HB + rh * HB := by rw [<- he, Nat.add_mul]
 have h5 : q1 * y <= u * HB + w := by rw [Nat.mul_comm HB rh] at hc; omega
 have h6 : q1 <= q := by rw [hq]; exact (Nat.le_div_iff_mul_le hyp).2 h5
 omega
theorem rF {w y0 q1 rh : Nat} (h0 : y0 < HB) (hq1 : q1 <= HB) (hrh : HB <= rh) : q1 * y0 <= HB * rh + w := by
 have h1 : q1 * y0 <= HB * HB := Nat.mul_le_mul hq1 (by omega);have h2 : HB * HB <= HB * rh := Nat.mul_le_mul_left _ hrh;omega
theorem mX {u y w q : Nat} (hq : q = (u * HB + w) / y) (hyp : 0 < y) (hyW : y < W) :
 db (aU (aE u HB) w 0) (aE q y) 0 = (u * HB + w) % y := by
 have h1 := Nat.div_add_mod (u * HB + w) y;have h2 := Nat.mod_lt (u * HB + w) hyp;rw [<- hq, Nat.mul_comm] at h1;unfold db aU aE;generalize (u * HB + w) % y = r at *;generalize u * HB = A at *;generalize q * y = C at *;unfold W at *;omega
def iW (h l y : Nat) : Nat := (h * W + l) / y
def kq (h l y : Nat) : Nat := (h * W + l) % y
theorem tR {h l s y : Nat} (hl : l < W) (hs : s < 64) (hh : h < y) (hy : y * 2 ^ s < W) :
 rL (da h s) (fu l (64 - s)) * W + da l s = (h * W + l) * 2 ^ s /\ rL (da h s) (fu l (64 - s)) < y * 2 ^ s /\ da h s < W /\ fu l (64 - s) < W := by
 unfold rL da fu;have hp : 0 < 2 ^ s := Nat.two_pow_pos s;have hW := iB (Nat.le_of_lt hs);have h1 : (h + 1) * 2 ^ s <= y * 2 ^ s := Nat.mul_le_mul_right _ hh;rw [Nat.add_mul, Nat.one_mul] at h1;have e1 : h * 2 ^ s % W = h * 2 ^ s := Nat.mod_eq_of_lt (by omega);have hq : 0 < 2 ^ (64 - s) := Nat.two_pow_pos _;have h2 : l / 2 ^ (64 - s) < 2 ^ s := by rw [Nat.div_lt_iff_lt_mul hq, Nat.mul_comm, <- hW]; exact hl
 have e2 : h * 2 ^ s ||| l / 2 ^ (64 - s) = h * 2 ^ s + l / 2 ^ (64 - s) := by
  rw [Nat.mul_comm h, <- Nat.two_pow_add_eq_or_of_lt h2]
 have e3 : l * 2 ^ s = l / 2 ^ (64 - s) * W + l * 2 ^ s % W := by
  have h3 := Nat.div_add_mod (l * 2 ^ s) W;have h4 : l * 2 ^ s / W = l / 2 ^ (64 - s) := by
   rw [hW]; exact Nat.mul_div_mul_right _ _ hp
  rw [h4, Nat.mul_comm W] at h3;omega
 rw [e1, e2];refine ⟨?_, by omega, by omega, Nat.lt_of_le_of_lt (Nat.div_le_self ..) hl⟩;have e4 : h * 2 ^ s * W = h * W * 2 ^ s := Nat.mul_right_comm ..;have e5 : (h * W + l) * 2 ^ s = h * W * 2 ^ s + l * 2 ^ s := Nat.add_mul ..;have e6 : (h * 2 ^ s + l / 2 ^ (64 - s)) * W = h * 2 ^ s * W + l / 2 ^ (64 - s) * W := Nat.add_mul ..;omega
theorem uO {h l s y u v q1 q0 r1 : Nat} (hs : u * W + v = (h * W + l) * 2 ^ s) (hy : 0 < y) (hq1 : q1 = (u * HB + v / HB) / (y * 2 ^ s)) (hr1 : r1 = (u * HB + v / HB) % (y * 2 ^ s)) (hq0 : q0 = (r1 * HB + v % HB) / (y * 2 ^ s))
 (hb1 : q1 < HB) (hb0 : q0 < HB) : aU (aE q1 HB) q0 0 = iW h l y /\ fu ((r1 * HB + v % HB) % (y * 2 ^ s)) s = kq h l y := by
 have hp : 0 < 2 ^ s := Nat.two_pow_pos s;have hyp : 0 < y * 2 ^ s := Nat.mul_pos hy hp;have e1 := Nat.div_add_mod (u * HB + v / HB) (y * 2 ^ s);have e0 := Nat.div_add_mod (r1 * HB + v % HB) (y * 2 ^ s);rw [<- hq1, <- hr1] at e1;rw [<- hq0] at e0;have hlt := Nat.mod_lt (r1 * HB + v % HB) hyp;have ev := Nat.div_add_mod v HB;generalize (r1 * HB + v % HB) % (y * 2 ^ s) = r0 at *;have tot : (h * W + l) * 2 ^ s = (q1 * HB + q0) * (y * 2 ^ s) + r0 := by
  rw [<- hs, <- sd, <- Nat.mul_assoc];have : (u * HB + v / HB) * HB = (y * 2 ^ s * q1 + r1) * HB := by rw [e1]
  rw [Nat.add_mul, Nat.add_mul] at this;rw [Nat.mul_comm HB] at ev;have e3 : (q1 * HB + q0) * (y * 2 ^ s) = y * 2 ^ s * q1 * HB + y * 2 ^ s * q0 := by
   rw [Nat.add_mul, Nat.mul_comm q0, Nat.mul_comm (q1 * HB), <- Nat.mul_assoc]
  rw [e3]; omega
 have hq : aU (aE q1 HB) q0 0 = q1 * HB + q0 := by
  unfold aU aE;have : q1 * HB + HB <= HB * HB := by rw [<- Nat.succ_mul]; exact Nat.mul_le_mul_right _ hb1
  rw [sd] at this;rw [Nat.mod_eq_of_lt (by omega : q1 * HB < W), Nat.add_zero, Nat.mod_eq_of_lt (by omega)]
 have hN : h * W + l = (q1 * HB + q0) * y + r0 / 2 ^ s := by
  have h3 : (h * W + l) * 2 ^ s / 2 ^ s = ((q1 * HB + q0) * (y * 2 ^ s) + r0) / 2 ^ s := by rw [tot]
  have e9 : (q1 * HB + q0) * (y * 2 ^ s) = 2 ^ s * ((q1 * HB + q0) * y) := by rw [<- Nat.mul_assoc, Nat.mul_comm]
  rw [Nat.mul_div_cancel _ hp, e9, Nat.mul_add_div hp] at h3;exact h3
 have hr0 : r0 / 2 ^ s < y := by rw [Nat.div_lt_iff_lt_mul hp]; exact hlt
 refine ⟨?_, ?_⟩
 · rw [hq]; unfold iW; rw [hN, Nat.add_comm ((q1 * HB + q0) * y), Nat.add_mul_div_right _ _ hy, Nat.div_eq_of_lt hr0, Nat.zero_add]
 · unfold kq fu; rw [hN, Nat.add_comm ((q1 * HB + q0) * y), Nat.add_mul_mod_self_right, Nat.mod_eq_of_lt hr0]
theorem oa {u y : Nat} (hu : u < W) : db u (aE (ky u y) y) 0 = u % y := by
 have h1 := Nat.div_add_mod u y;rw [Nat.mul_comm] at h1;unfold db aE ky;generalize u % y = r at *;generalize u / y * y = c at *;unfold W at *;omega
structure cC (u y w y1 y0 q1 rh : Nat) : Prop where
 le : (u * HB + w) / y <= q1
 eq : q1 * y1 + rh = u
 rh : rh < HB
 top : q1 <= HB + 1
theorem cC.start {u y w y1 y0 : Nat} (hy : y = y1 * HB + y0) (h1 : 2147483648 <= y1) (hu : u < y) (hw : w < HB) (h0 : y0 < HB) (hyW : y < W) : cC u y w y1 y0 (ky u y1) (db u (aE (ky u y1) y1) 0) := by
 obtain ⟨a, b, c⟩ := fE hy h1 hu hw h0;have e := oa (u := u) (y := y1) (by omega);have hy1 : y1 < HB := by
  refine Decidable.byContradiction fun hn => ?_;have : HB * HB <= y1 * HB := Nat.mul_le_mul_right _ (by omega);rw [sd] at this;omega
 have hm := Nat.mod_lt u (by omega : y1 > 0);refine ⟨b, ?_, by rw [e]; omega, c⟩;rw [e]; unfold ky; rw [Nat.mul_comm]; exact Nat.div_add_mod u y1
theorem cC.step {u y w y1 y0 q1 rh : Nat} (hi : cC u y w y1 y0 q1 rh) (hgt : (u * HB + w) / y < q1) : (q1 - 1) * y1 + (rh + y1) = u := by
 obtain ⟨p, rfl⟩ : ∃ p, q1 = p + 1 := ⟨q1 - 1, by have := Nat.lt_of_le_of_lt (Nat.zero_le _) hgt; omega⟩;have := hi.eq;rw [Nat.add_mul] at this;rw [Nat.add_sub_cancel]; omega
theorem cC.stop {u y w y1 y0 q1 rh : Nat} (hi : cC u y w y1 y0 q1 rh) (hy : y = y1 * HB + y0) (hyp : 0 < y) (h0 : y0 < HB) (hgt : (u * HB + w) / y < q1) (hbr : HB <= rh + y1) : q1 - 1 = (u * HB + w) / y :=
 mD hy rfl hyp (hi.step hgt) (rF h0 (by have := hi.top; omega) hbr) (Nat.le_sub_one_of_lt hgt)
theorem cC.next {u y w y1 y0 q1 rh : Nat} (hi : cC u y w y1 y0 q1 rh) (hgt : (u * HB + w) / y < q1) (hbr : rh + y1 < HB) : cC u y w y1 y0 (q1 - 1) (rh + y1) :=
 ⟨Nat.le_sub_one_of_lt hgt, hi.step hgt, hbr, by have := hi.top; omega⟩
theorem cC.done {u y w y1 y0 q1 rh : Nat} (hi : cC u y w y1 y0 q1 rh) (hy : y = y1 * HB + y0) (hyp : 0 < y) (hc : q1 * y0 <= HB * rh + w) : q1 = (u * HB + w) / y :=
 mD hy rfl hyp hi.eq hc hi.le
theorem jm (x : Nat) : my x 4294967295 = x % HB := by
 unfold my; exact Nat.and_two_pow_sub_one_eq_mod x 32
theorem gU (x : Nat) : fu x 32 = x / HB := rfl
end Go.Proofs.Ytjjlmfmoihooiaa
namespace Go.Proofs
open Go.Shelf
def Try.pV : Go.Shelf.Ren := ⟨fun | 134 => 99 | 129 => 52 | n => n, fun | 53 => 51 | 3 => 3 | 4 => 4 | 46 => 105 | 5 => 5 | 9 => 9 | n => n, fun | n => n⟩
theorem Try.wH : Go.Proofs.Lays.n134 Try.prog Try.pV := {
 mixed := by kernel_rfl
 f129 := Try.func52.trans (congrArg some (by kernel_rfl))
 f134 := Try.func99.trans (congrArg some (by kernel_rfl))
 t3 := Try.underlying3
 a3 := Try.isAgg3
 z3 := Try.sizeOf3
 v3 := Try.zeroValue3
 t4 := Try.underlying4
 a4 := Try.isAgg4
 z4 := Try.sizeOf4
 v4 := Try.zeroValue4
 t5 := Try.underlying5
 a5 := Try.isAgg5
 z5 := Try.sizeOf5
 v5 := Try.zeroValue5
 t9 := Try.underlying9
 a9 := Try.isAgg9
 z9 := Try.sizeOf9
 v9 := Try.zeroValue9
 t46 := Try.underlying105
 a46 := Try.isAgg105
 z46 := Try.sizeOf105
 v46 := Try.zeroValue105
 t53 := Try.underlying51
 a53 := Try.isAgg51
 z53 := Try.sizeOf51
 v53 := Try.zeroValue51 }
theorem Try.bits_LeadingZeros64 (x : Int) (w : World) (h0 : 0 <= x) (h1 : x <= 18446744073709551615) :
 Calls Try.prog 99 #[.int .u64 x] w fun e w' => e = .returned (.int .i64 (64 - (Lib.bitLen x.toNat : Int))) /\ w' = w := Any.bits_LeadingZeros64 Try.wH x w h0 h1
def Try.ql : Go.Shelf.Ren := ⟨fun | 129 => 52 | n => n, fun | 53 => 51 | 3 => 3 | 4 => 4 | 46 => 105 | 5 => 5 | 9 => 9 | n => n, fun | n => n⟩
theorem Try.wy : Go.Proofs.Lays.n129 Try.prog Try.ql := {
 mixed := by kernel_rfl
 f129 := Try.func52.trans (congrArg some (by kernel_rfl))
 t3 := Try.underlying3
 a3 := Try.isAgg3
 z3 := Try.sizeOf3
 v3 := Try.zeroValue3
 t4 := Try.underlying4
 a4 := Try.isAgg4
 z4 := Try.sizeOf4
 v4 := Try.zeroValue4
 t5 := Try.underlying5
 a5 := Try.isAgg5
 z5 := Try.sizeOf5
 v5 := Try.zeroValue5
 t9 := Try.underlying9
 a9 := Try.isAgg9
 z9 := Try.sizeOf9
 v9 := Try.zeroValue9
 t46 := Try.underlying105
 a46 := Try.isAgg105
 z46 := Try.sizeOf105
 v46 := Try.zeroValue105
 t53 := Try.underlying51
 a53 := Try.isAgg51
 z53 := Try.sizeOf51
 v53 := Try.zeroValue51 }
theorem Try.bits_Len64 (x : Int) (w : World) (h0 : 0 <= x) (h1 : x <= 18446744073709551615) :
 Calls Try.prog 52 #[.int .u64 x] w fun e w' => e = .returned (.int .i64 (Lib.bitLen x.toNat)) /\ w' = w := Any.bits_Len64 Try.wy x w h0 h1
def Try.oZ : Go.Shelf.Ren := ⟨fun | 264 => 92 | n => n, fun | 53 => 51 | 46 => 105 | n => n, fun | n => n⟩
theorem Try.xE : Go.Proofs.Lays.n264 Try.prog Try.oZ := {
 mixed := by kernel_rfl
 f264 := Try.func92.trans (congrArg some (by kernel_rfl))
 t46 := Try.underlying105
 a46 := Try.isAgg105
 z46 := Try.sizeOf105
 v46 := Try.zeroValue105
 t53 := Try.underlying51
 a53 := Try.isAgg51
 z53 := Try.sizeOf51
 v53 := Try.zeroValue51 }
open Go.RowKit Go.Lib in
theorem Try.bits_Mul64 (x y : Nat) (hx : x < 18446744073709551616) (hy : y < 18446744073709551616) (w : World) :
 Calls Try.prog 92 #[.int .u64 x, .int .u64 y] w fun e w' => e = .returned (.tuple #[.int .u64 ((x * y / 18446744073709551616 : Nat) : Int), .int .u64 ((x * y % 18446744073709551616 : Nat) : Int)]) /\ w' = w := Any.bits_Mul64 Try.xE x y hx hy w
end Go.Proofs
namespace Go.Proofs.Ytjjlmfmoihooiaa
open Go.RowKit
set_option maxHeartbeats 400000 in
theorem cU (ao : Option Addr) (len cap : Nat) (ws : List Nat) (w : World) (hA : cf w ao ws) (hl : len = ws.length) (hm : len <= maxLen) :
 Calls Try.prog 51 #[.slice ao len cap] w fun e w' => e = .returned (.int .i64 (au ws : Nat)) /\ w = w' := by
 unfold maxLen at hm;subst hl;have htl := aD ws;go_enter Try.func51, Try.ntmps51;go_wp2
 go_loop [3] (fun i => ∃ k : Nat, k <= ws.length /\ au ws <= k /\ i = .int .i64 k) (fun i => (intOf i).toNat)
 case atStart => exact ⟨ws.length, by omega, by omega, rfl⟩
 case round =>
  obtain ⟨k, hk, ht, rfl⟩ := hrel;by_cases h0 : 0 < k
  · obtain ⟨b, o, rfl, hb, hc⟩ := hA.pos (by omega);have hcell := hc (k - 1) (by omega);by_cases hz : gw ws (k - 1) = 0
    · have hzb : (((gw ws (k - 1) : Nat) : Int) == 0) = true := by rw [hz]; rfl
      have Hz := Lib.hid hz; clear hz hc;go_wp2
      go_round
      case rel => exact ⟨k - 1, by omega, iM ws (k - 1) (fun j hj => by
       by_cases hj' : j = k - 1
       · rw [hj']; exact Hz.out
       · exact gj ws j (by omega)), by go_num⟩
      case measure => simp [intOf]; omega
    · have hzb : (((gw ws (k - 1) : Nat) : Int) == 0) = false := by rw [beq_eq_false_iff_ne]; omega
      have h1 := np ws (k - 1) hz;clear hc hz;go_wp2;go_ret;exact ⟨fk (by omega), rfl⟩
  · go_wp2;go_ret;exact ⟨fk (by omega), rfl⟩
set_option maxHeartbeats 400000 in
theorem own_s (ao : Option Addr) (len cap : Nat) (ws : List Nat) (w : World) (hA : cf w ao ws) (hl : len = ws.length) (hm : len <= 17592186044416) :
 Calls Try.prog 71 #[.slice ao len cap] w fun e w' => ∃ b, e = .returned (.slice (some ⟨b, 0, none⟩) (ag (aa ws)) (ag (aa ws))) /\ r6 w w' b (ez (aa ws)) := by
 subst hl;have htl := aD ws;have hm' : ws.length <= maxLen := by unfold maxLen; omega
 have Hm := Lib.hid hm'; clear hm';go_enter Try.func71, Try.ntmps71;go_wp2_with (first
  | (go_at_call 51; refine (cU _ _ _ ws _ hA rfl Hm.out).mono ?_; rintro e w' ⟨rfl, rfl⟩)
  | (at_make; refine dx rfl _ _ rfl (au ws) (au ws) rfl rfl rfl rfl (Nat.le_refl _) (by omega) ?_; intro b w1 hm1)
  | (with_reducible show wpList _ _ _ (⟨some 11, _, _, _, _, _⟩ :: _) _ _; refine lH rfl _ _ rfl (hA.below hm1.below) rfl hm1.row rfl rfl (by simp) ?_; intro w2 hr2 hg2; have hb2 := hm1.below.grown hg2 hm1.below.size (fun k e => by cases e; exact Nat.le_of_eq hm1.at_.symm)))
 go_ret;have e : splice (List.replicate (au ws) 0) 0 (ws.take (au ws)) = ws.take (au ws) := by simp [splice, List.length_take, Nat.min_eq_left htl]
 rw [e] at hr2;rw [bD hA.ok, fD hA.ok];have hl : (ws.take (au ws)).length = au ws := by simp [List.length_take, Nat.min_eq_left htl]
 exact ⟨b, rfl, hr2, hA.ok.take _, Nat.le_of_eq hm1.at_.symm, hb2⟩
set_option maxHeartbeats 400000 in
theorem su (ao : Option Addr) (len cap : Nat) (ws : List Nat) (w : World) (hA : cf w ao ws) (hl : len = ws.length) (hm : len <= 17592186044416) :
 Calls Try.prog 45 #[.slice ao len cap] w fun e w' => ∃ b, e = .returned (.slice (some ⟨b, 0, none⟩) (ag (aa ws)) (ag (aa ws))) /\ r6 w w' b (ez (aa ws)) := by
 subst hl;go_enter Try.func45, Try.ntmps45;go_wp2_with (go_at_call 71; refine (own_s _ _ _ ws _ hA rfl hm).mono ?_; rintro e w' ⟨b, rfl, h1⟩)
 go_ret;exact ⟨_, rfl, h1⟩
theorem dU (ao : Option Addr) (len cap : Nat) (ws : List Nat) (w : World) (hA : cf w ao ws) (hl : len = ws.length) (hm : len <= 17592186044416) :
 Calls Try.prog 45 #[.slice ao len cap] w fun e w' => (∃ ao' cap', e = .returned (.slice ao' (ag (aa ws)) cap') /\ cJ w' w.heap.size ao' (ag (aa ws)) cap' (ez (aa ws))) /\ Below w.heap.size w w' :=
 (su ao len cap ws w hA hl hm).mono fun _ _ ⟨b, he, hN⟩ => ⟨⟨_, _, he, hN.own rfl (by have := dh hA.ok; unfold maxLen; omega)⟩, hN.below⟩
set_option maxHeartbeats 1000000 in
theorem rU (aoA aoB : Option Addr) (lA cA lB cB : Nat) (xs ys : List Nat) (w : World) (hA : cf w aoA xs) (hB : cf w aoB ys) (hlA : lA = xs.length) (hlB : lB = ys.length) (hmA : lA <= 17592186044416) (hmB : lB <= 17592186044416) :
 Calls Try.prog 47 #[.slice aoA lA cA, .slice aoB lB cB] w fun e w' => e = .returned (.int .i64 (eX (aa xs) (aa ys))) /\ Below w.heap.size w w' := by
 subst hlA hlB;have htA := aD xs;have htB := aD ys;have hmA' : xs.length <= maxLen := by unfold maxLen; omega
 have hmB' : ys.length <= maxLen := by unfold maxLen; omega
 have HA := Lib.hid hmA'; clear hmA';have HB := Lib.hid hmB'; clear hmB';by_cases hs : au xs = au ys
 · have hb : (((au xs : Nat) : Int) != ((au ys : Nat) : Int)) = false := by rw [hs]; simp
   have Hs := Lib.hid hs; clear hs;go_enter Try.func47, Try.ntmps47;go_wp2_with fail
   refine (cU _ _ _ xs _ hA rfl HA.out).mono ?_;rintro e w' ⟨rfl, rfl⟩;go_wp2_with fail
   refine (cU _ _ _ ys _ hB rfl HB.out).mono ?_;rintro e w' ⟨rfl, rfl⟩;go_wp2;go_loopw [7] (fun i wr => ∃ k : Nat, k <= au xs /\ i = .int .i64 ((k : Int) - 1) /\ Hid (∀ j, k <= j -> gw xs j = gw ys j) /\ Below w.heap.size w wr) (fun i _ => (intOf i + 1).toNat)
   case atStart => exact ⟨au xs, Nat.le_refl _, rfl, Lib.hid (fun j hj => by rw [gd hj, gd (by have := Hs.out; omega)]), Below.refl _ _⟩
   case round =>
    obtain ⟨k, hk, rfl, hag, hbl⟩ := hrel;by_cases h0 : 0 < k
    · have hk2 : k <= au ys := by have := Hs.out; omega
      obtain ⟨b1, o1, rfl, hb1, hc1⟩ := (hA.below hbl).pos (by omega);obtain ⟨b2, o2, rfl, hb2, hc2⟩ := (hB.below hbl).pos (by omega);have e1 := hc1 (k - 1) (by omega);have e2 := hc2 (k - 1) (by omega);clear hc1 hc2;have i1 : (k : Int) - 1 < (xs.length : Int) := by omega
      have i2 : (k : Int) - 1 < (ys.length : Int) := by omega
      have i3 : (0 : Int) <= (k : Int) - 1 := by omega
      by_cases hlt : gw xs (k - 1) < gw ys (k - 1)
      · have t1 : decide (((gw xs (k - 1) : Nat) : Int) < ((gw ys (k - 1) : Nat) : Int)) = true := by simp; omega
        go_wp2
        go_quiet (fail)
        go_wp2;go_ret;exact ⟨fk (kI (iJ hA.ok hB.ok (k - 1) (fun j hj => hag.out j (by omega)) hlt)).symm, below_drewN hbl _⟩
      · have t1 : decide (((gw xs (k - 1) : Nat) : Int) < ((gw ys (k - 1) : Nat) : Int)) = false := by simp; omega
        by_cases hgt : gw ys (k - 1) < gw xs (k - 1)
        · have t2 : decide (((gw ys (k - 1) : Nat) : Int) < ((gw xs (k - 1) : Nat) : Int)) = true := by simp; omega
          go_wp2
          go_quiet (fail)
          go_wp2
          go_quiet (fail)
          go_wp2;go_ret;exact ⟨fk (sC (iJ hB.ok hA.ok (k - 1) (fun j hj => (hag.out j (by omega)).symm) hgt)).symm, below_drewN (below_drewN hbl _) _⟩
        · have t2 : decide (((gw ys (k - 1) : Nat) : Int) < ((gw xs (k - 1) : Nat) : Int)) = false := by simp; omega
          go_wp2
          go_quiet (fail)
          go_wp2
          go_quiet (fail)
          go_wp2;go_roundw
          case rel => exact ⟨k - 1, by omega, by go_num, Lib.hid (fun j hj => by
           by_cases e : j = k - 1
           · subst e; omega
           · exact hag.out j (by omega)), below_drewN hbl _⟩
          case measure => simp [intOf]; omega
    · go_wp2;go_ret;refine ⟨fk (wz (iS fun j => hag.out j (by omega))).symm, hbl⟩
 · have hb : (((au xs : Nat) : Int) != ((au ys : Nat) : Int)) = true := by rw [bne_iff_ne]; omega
   by_cases hlt : au xs < au ys;all_goals
    go_enter Try.func47, Try.ntmps47;go_wp2_with fail
    refine (cU _ _ _ xs _ hA rfl HA.out).mono ?_;rintro e w' ⟨rfl, rfl⟩;go_wp2_with fail
    refine (cU _ _ _ ys _ hB rfl HB.out).mono ?_;rintro e w' ⟨rfl, rfl⟩;go_wp2;go_ret
   · exact ⟨fk (kI (gH hA.ok hB.ok hlt)).symm, Below.refl _ _⟩
   · exact ⟨fk (sC (gH hB.ok hA.ok (by omega))).symm, Below.refl _ _⟩
set_option maxHeartbeats 1000000 in
theorem Add_c (aoA aoB : Option Addr) (lA cA lB cB : Nat) (xs ys : List Nat) (w : World) (hA : cf w aoA xs) (hB : cf w aoB ys) (hlA : lA = xs.length) (hlB : lB = ys.length) (hmA : lA <= 17592186044416) (hmB : lB <= 17592186044416) :
 Calls Try.prog 72 #[.slice aoA lA cA, .slice aoB lB cB] w fun e w' =>
  (∃ ao' cap', e = .returned (.slice ao' (ag (aa xs + aa ys)) cap') /\ cJ w' w.heap.size ao' (ag (aa xs + aa ys)) cap' (ez (aa xs + aa ys))) /\ Below w.heap.size w w' := by
 subst hlA hlB;have htA := aD xs;have htB := aD ys;have hmA' : xs.length <= maxLen := by unfold maxLen; omega
 have hmB' : ys.length <= maxLen := by unfold maxLen; omega
 have HA := Lib.hid hmA'; clear hmA';have HB := Lib.hid hmB'; clear hmB';go_enter Try.func72, Try.ntmps72
 go_upto_if 15 with (go_at_call 51; first | ((with_reducible refine (cU aoA _ _ xs _ hA rfl HA.out).mono ?_); rintro e w' ⟨rfl, rfl⟩) | ((with_reducible refine (cU aoB _ _ ys _ hB rfl HB.out).mono ?_); rintro e w' ⟨rfl, rfl⟩))
 go_cut [0, 1] (fun s0 s1 wc => ∃ (ao1 ao2 : Option Addr) (c1 c2 : Nat) (as_ bs : List Nat), s0 = .slice ao1 as_.length c1 /\ s1 = .slice ao2 bs.length c2 /\ cf w ao1 as_ /\ cf w ao2 bs /\ au bs <= au as_ /\ as_.length <= 17592186044416 /\ bs.length <= 17592186044416 /\
  Hid (aa as_ + aa bs = aa xs + aa ys) /\ w = wc)
 case first =>
  by_cases hlt : au xs < au ys
  · have t1 : decide (((au xs : Nat) : Int) < ((au ys : Nat) : Int)) = true := by simp; omega
    go_wp2
    go_meet
    exact ⟨_, _, _, _, ys, xs, rfl, rfl, hB, hA, by omega, hmB, hmA, Lib.hid (by omega), rfl⟩
  · have t1 : decide (((au xs : Nat) : Int) < ((au ys : Nat) : Int)) = false := by simp; omega
    go_wp2
    go_meet
    exact ⟨_, _, _, _, xs, ys, rfl, rfl, hA, hB, by omega, hmA, hmB, Lib.hid rfl, rfl⟩
 case rest =>
  obtain ⟨ao1, ao2, c1, c2, as_, bs, rfl, rfl, h1, h2, hle, hm1, hm2, hsum, rfl⟩ := hcut;have k1 : as_.length <= maxLen := by unfold maxLen; omega
  have k2 : bs.length <= maxLen := by unfold maxLen; omega
  have K1 := Lib.hid k1; clear k1;have K2 := Lib.hid k2; clear k2;have l1 := aD as_;go_wp2_with (first
   | (go_at_call 51; first | ((with_reducible refine (cU ao1 _ _ as_ _ h1 rfl K1.out).mono ?_); rintro e w' ⟨rfl, rfl⟩) | ((with_reducible refine (cU ao2 _ _ bs _ h2 rfl K2.out).mono ?_); rintro e w' ⟨rfl, rfl⟩))
   | (at_make; refine dx rfl _ _ rfl (au as_ + 1) (au as_ + 1) rfl rfl (by omega) (by omega) (Nat.le_refl _) (by omega) ?_; intro b w1 hm1))
  go_loopw [8, 26] (fun c i wr => ∃ (k cr : Nat) (ls : List Nat), k <= au as_ /\ i = .int .i64 k /\ c = .int .u64 cr /\ cr <= 1 /\ ls.length = au as_ + 1 /\ Ok ls /\ ah wr b 51 (ls.map wv) /\ Below w.heap.size w wr /\
   aa (ls.take k) + W ^ k * cr = aa (as_.take k) + aa (bs.take k)) (fun _ i _ => au as_ - (intOf i).toNat)
  case atStart => exact ⟨0, 0, _, Nat.zero_le _, rfl, rfl, by omega, by simp, Ok.replicate _, hm1.row, hm1.below, by simp [aa]⟩
  case round =>
   obtain ⟨k, cr, ls, hk, rfl, rfl, hcr, hll, hok, hrow, hbl, heq⟩ := hrel;have Hll := Lib.hid hll; clear hll;have Heq := Lib.hid heq; clear heq;by_cases hlt : k < au as_
   · obtain ⟨b1, o1, rfl, hb1, hc1⟩ := (h1.below hbl).pos (by omega);have e1 := hc1 k (by omega);clear hc1;have hcell := hrow.word (i := k) (by have := Hll.out; omega);have hfree := hrow.free k;by_cases hlt2 : k < au bs
     · have l2 := aD bs;obtain ⟨b2, o2, rfl, hb2, hc2⟩ := (h2.below hbl).pos (by omega);have e2 := hc2 k (by omega);clear hc2;go_wp2_with (with_reducible show wpList _ _ _ (⟨some 45, _, _, _, _, _⟩ :: _) _ _; refine bP rfl _ _ _ _ rfl (gw as_ k) (gw bs k) cr hcr rfl rfl rfl rfl rfl rfl ?_)
       go_roundw
       case rel => exact ⟨k + 1, _, _, by omega, by go_num, rfl, gZ (h1.ok.gw k) (h2.ok.gw k) hcr, by rw [List.length_set]; exact Hll.out, hok.set _ _ (dS _ _ _), hrow.cg _ _, hbl.setCell (by exact Nat.le_of_eq hm1.at_.symm) _, by
        rw [aB as_, aB bs]; exact ph (by have := Hll.out; omega) Heq.out⟩
       case measure => simp [intOf]; omega
     · have hz : gw bs k = 0 := gd (by omega);have Hz := Lib.hid hz; clear hz;go_wp2_with (with_reducible show wpList _ _ _ (⟨some 45, _, _, _, _, _⟩ :: _) _ _; refine bP rfl _ _ _ _ rfl (gw as_ k) 0 cr hcr rfl rfl rfl rfl rfl rfl ?_)
       go_roundw
       case rel => exact ⟨k + 1, _, _, by omega, by go_num, rfl, gZ (h1.ok.gw k) aS hcr, by rw [List.length_set]; exact Hll.out, hok.set _ _ (dS _ _ _), hrow.cg _ _, hbl.setCell (by exact Nat.le_of_eq hm1.at_.symm) _, by
        rw [aB as_, aB bs, Hz.out]; exact ph (x := gw as_ k) (y := 0) (by have := Hll.out; omega) Heq.out⟩
       case measure => simp [intOf]; omega
   · have ek : k = au as_ := by omega
     subst ek;have hcell := hrow.word (i := au as_) (by have := Hll.out; omega);have hfree := hrow.free (au as_);have hrow2 := hrow.cg (au as_) cr;have hbl2 := hbl.setCell (p := ⟨b, au as_, none⟩) (by exact Nat.le_of_eq hm1.at_.symm) (.int .u64 (cr : Int));have hl2 : (ls.set (au as_) cr).length = au as_ + 1 := by rw [List.length_set]; exact Hll.out
     have hok2 := hok.set (au as_) cr (by have := eZ; omega);have hv : aa (ls.set (au as_) cr) = aa xs + aa ys := by
      have e1 := cS (l := ls) (k := au as_) (by have := Hll.out; omega) cr;rw [List.take_of_length_le (by rw [hl2]; exact Nat.le_refl _)] at e1;have e2 : aa (bs.take (au as_)) = aa bs := fs hle;rw [e1, Heq.out, aY h1.ok, e2, hsum.out]
     have Hfin := Lib.hid (jF hrow2 hok2 (B := w.heap.size) (Nat.le_of_eq hm1.at_.symm) hl2 (by omega) hv);have Hs1 := Lib.hid (hrow2.kx hok2);have Hl2 := Lib.hid hl2;have hmx : au as_ + 1 <= maxLen := by unfold maxLen; omega
     have Hmx := Lib.hid hmx;clear hmx hl2 hv hok2 hrow2;have l3 := aD (ls.set (au as_) cr);rw [Hl2.out] at l3;go_wp2_with (go_at_call 51; (with_reducible refine (cU _ _ _ (ls.set (au as_) cr) _ Hs1.out Hl2.out.symm Hmx.out).mono ?_); rintro e w' ⟨rfl, rfl⟩)
     go_ret;obtain ⟨q1, q2⟩ := Hfin.out;refine ⟨⟨_, _, ?_, q2⟩, hbl2⟩;rw [<- q1]; rfl
set_option maxHeartbeats 1000000 in
theorem xS (aoA aoB : Option Addr) (lA cA lB cB : Nat) (xs ys : List Nat) (w : World) (hA : cf w aoA xs) (hB : cf w aoB ys) (hlA : lA = xs.length) (hlB : lB = ys.length) (hmA : lA <= 17592186044416) (hmB : lB <= 17592186044416)
 (hle : aa ys <= aa xs) :
 Calls Try.prog 73 #[.slice aoA lA cA, .slice aoB lB cB] w fun e w' =>
  (∃ ao' cap', e = .returned (.tuple #[.slice ao' (ag (aa xs - aa ys)) cap', .int .i64 0]) /\ cJ w' w.heap.size ao' (ag (aa xs - aa ys)) cap' (ez (aa xs - aa ys))) /\ Below w.heap.size w w' := by
 subst hlA hlB;have htA := aD xs;have htB := aD ys;have htl : au ys <= au xs := by rw [<- bD hA.ok, <- bD hB.ok]; exact aH hle
 have hmA' : xs.length <= maxLen := by unfold maxLen; omega
 have hmB' : ys.length <= maxLen := by unfold maxLen; omega
 have HA := Lib.hid hmA'; clear hmA';have HB := Lib.hid hmB'; clear hmB';have hcn : decide (eX (aa xs) (aa ys) < 0) = false := by unfold eX; simp; split <;> (try split) <;> omega
 have Hle := Lib.hid hle; clear hle;go_enter Try.func73, Try.ntmps73;go_wp2_with (first
  | (go_at_call 47; refine (rU aoA aoB _ _ _ _ xs ys _ hA hB rfl rfl hmA hmB).mono ?_; rintro e w0 ⟨rfl, hb0⟩; have hA0 := hA.below hb0; have hB0 := hB.below hb0)
  | (go_at_call 51; first | ((with_reducible refine (cU aoA _ _ xs _ hA0 rfl HA.out).mono ?_); rintro e w' ⟨rfl, rfl⟩) | ((with_reducible refine (cU aoB _ _ ys _ hB0 rfl HB.out).mono ?_); rintro e w' ⟨rfl, rfl⟩))
  | (at_make; refine dx rfl _ _ rfl (au xs) (au xs) rfl rfl rfl rfl (Nat.le_refl _) (by omega) ?_; intro b w1 hm1))
 have hb1 : Below w.heap.size w w1 := hb0.trans (hm1.below.mono hb0.size);have hB1 : w.heap.size <= b := by have := hm1.at_; have := hb0.size; omega
 go_loopw [9, 23] (fun c i wr => ∃ (k cr : Nat) (ls : List Nat), k <= au xs /\ i = .int .i64 k /\ c = .int .u64 cr /\ cr <= 1 /\ ls.length = au xs /\ Ok ls /\ ah wr b 51 (ls.map wv) /\ Below w.heap.size w wr /\
  aa (ls.take k) + aa (ys.take k) = aa (xs.take k) + W ^ k * cr) (fun _ i _ => au xs - (intOf i).toNat)
 case atStart => exact ⟨0, 0, _, Nat.zero_le _, rfl, rfl, by omega, by simp, Ok.replicate _, hm1.row, hb1, by simp [aa]⟩
 case round =>
  obtain ⟨k, cr, ls, hk, rfl, rfl, hcr, hll, hok, hrow, hbl, heq⟩ := hrel;have Hll := Lib.hid hll; clear hll;have Heq := Lib.hid heq; clear heq;by_cases hlt : k < au xs
  · obtain ⟨b1, o1, rfl, hb1, hc1⟩ := (hA.below hbl).pos (by omega);have e1 := hc1 k (by omega);clear hc1;have hcell := hrow.word (i := k) (by have := Hll.out; omega);have hfree := hrow.free k;by_cases hlt2 : k < au ys
    · obtain ⟨b2, o2, rfl, hb2, hc2⟩ := (hB.below hbl).pos (by omega);have e2 := hc2 k (by omega);clear hc2;go_wp2_with (with_reducible show wpList _ _ _ (⟨some 42, _, _, _, _, _⟩ :: _) _ _; refine fA rfl _ _ _ _ rfl (gw xs k) (gw ys k) cr hcr rfl rfl rfl rfl rfl rfl ?_)
      go_roundw
      case rel => exact ⟨k + 1, _, _, by omega, by go_num, rfl, jD _ _ _, by rw [List.length_set]; exact Hll.out, hok.set _ _ (fF _ _ _), hrow.cg _ _, hbl.setCell hB1 _, by
       rw [aB xs, aB ys]; exact qd (by have := Hll.out; omega) Heq.out (hA.ok.gw k) (hB.ok.gw k) hcr⟩
      case measure => simp [intOf]; omega
    · have hz : gw ys k = 0 := gd (by omega);have Hz := Lib.hid hz; clear hz;go_wp2_with (with_reducible show wpList _ _ _ (⟨some 42, _, _, _, _, _⟩ :: _) _ _; refine fA rfl _ _ _ _ rfl (gw xs k) 0 cr hcr rfl rfl rfl rfl rfl rfl ?_)
      go_roundw
      case rel => exact ⟨k + 1, _, _, by omega, by go_num, rfl, jD _ _ _, by rw [List.length_set]; exact Hll.out, hok.set _ _ (fF _ _ _), hrow.cg _ _, hbl.setCell hB1 _, by
       rw [aB xs, aB ys, Hz.out]; exact qd (x := gw xs k) (y := 0) (by have := Hll.out; omega) Heq.out (hA.ok.gw k) aS hcr⟩
      case measure => simp [intOf]; omega
  · have ek : k = au xs := by omega
    subst ek;have hv : aa ls = aa xs - aa ys := by
     have e1 := Heq.out;rw [List.take_of_length_le (by have := Hll.out; omega), aY hA.ok, fs htl] at e1;have e2 : cr = 0 := by
      refine Decidable.byContradiction fun hne => ?_;have e3 : cr = 1 := by omega
      subst e3;have := ct hok;rw [Hll.out] at this;have := Hle.out;omega
     subst e2;omega
    have Hfin := Lib.hid (jF hrow hok (B := w.heap.size) hB1 Hll.out (by omega) hv);have Hs1 := Lib.hid (hrow.kx hok);have hmx : au xs <= maxLen := by unfold maxLen; omega
    have Hmx := Lib.hid hmx;clear hmx hv;have l3 := aD ls;rw [Hll.out] at l3;go_wp2_with (go_at_call 51; (with_reducible refine (cU _ _ _ ls _ Hs1.out Hll.out.symm Hmx.out).mono ?_); rintro e w' ⟨rfl, rfl⟩)
    go_ret2;obtain ⟨q1, q2⟩ := Hfin.out;refine ⟨⟨_, _, ?_, q2⟩, hbl⟩;rw [<- q1]; rfl
theorem lQ {x : Nat} (h0 : x ≠ 0) (h : x < W) : 1 <= Lib.bitLen x /\ Lib.bitLen x <= 64 := by
 have h1 := Lib.bitLenAux_bounds 64 x (by unfold W at h; omega) h0;refine ⟨h1.1, ?_⟩;refine Decidable.byContradiction fun hn => ?_;have h2 : 2 ^ 64 <= 2 ^ (Lib.bitLenAux 64 x - 1) := Nat.pow_le_pow_right (by omega) (by unfold Lib.bitLen at hn; omega);unfold W at h;omega
set_option maxHeartbeats 1000000 in
theorem vK (ao : Option Addr) (len cap : Nat) (ws : List Nat) (w : World) (hA : cf w ao ws) (hl : len = ws.length) (hm : len <= 17592186044416) :
 Calls Try.prog 24 #[.slice ao len cap] w fun e w' => (∃ n : Nat, e = .returned (.int .i64 (n : Int)) /\ (n = 0 ↔ aa ws = 0)) /\ w = w' := by
 subst hl;have htA := aD ws;have hmA' : ws.length <= maxLen := by unfold maxLen; omega
 have HA := Lib.hid hmA'; clear hmA';by_cases h0 : au ws = 0
 · have hb : (((au ws : Nat) : Int) == 0) = true := by rw [h0]; rfl
   have H0 := Lib.hid h0; clear h0;go_enter Try.func24, Try.ntmps24;go_wp2_with (go_at_call 51; refine (cU _ _ _ ws _ hA rfl HA.out).mono ?_; rintro e w' ⟨rfl, rfl⟩)
   go_ret;exact ⟨⟨0, rfl, by simp [(eJ hA.ok).1 H0.out]⟩, rfl⟩
 · have hb : (((au ws : Nat) : Int) == 0) = false := by rw [beq_eq_false_iff_ne]; omega
   obtain ⟨b1, o1, rfl, hb1, hc1⟩ := hA.pos (by omega);have e1 := hc1 (au ws - 1) (by omega);have hne : gw ws (au ws - 1) ≠ 0 := pS ws h0;have hw := hA.ok.gw (au ws - 1);have hbl := lQ hne hw;have hx : ((gw ws (au ws - 1) : Nat) : Int) <= 18446744073709551615 := by unfold W at hw; omega
   have Hx := Lib.hid hx;have H0 := Lib.hid h0;have i1 : 1 <= au ws := by omega
   clear hc1 hne hw hx h0;go_enter Try.func24, Try.ntmps24;go_wp2_with (first
    | (go_at_call 51; refine (cU _ _ _ ws _ hA rfl HA.out).mono ?_; rintro e w' ⟨rfl, rfl⟩)
    | (go_at_call 52; refine (Try.bits_Len64 _ _ (by omega) Hx.out).mono ?_; rintro e w' ⟨rfl, rfl⟩; simp only [Int.toNat_natCast]))
   go_ret;refine ⟨⟨64 * (au ws - 1) + Lib.bitLen (gw ws (au ws - 1)), fk (by omega), ?_⟩, rfl⟩;rw [<- eJ hA.ok];omega
theorem lZ {y : Nat} (h0 : y ≠ 0) (h : y < W) : ∃ s : Nat, s < 64 /\ (64 - (Lib.bitLen y : Int)) = (s : Int) /\ 9223372036854775808 <= y * 2 ^ s /\ y * 2 ^ s < W := by
 have h1 := Lib.bitLenAux_bounds 64 y (by unfold W at h; omega) h0;have h2 := lQ h0 h;refine ⟨64 - Lib.bitLen y, by omega, by omega, ?_, ?_⟩
 · have h3 : 2 ^ (Lib.bitLen y - 1) <= y := h1.2.1;have h4 : 2 ^ (Lib.bitLen y - 1) * 2 ^ (64 - Lib.bitLen y) <= y * 2 ^ (64 - Lib.bitLen y) := Nat.mul_le_mul_right _ h3;rw [<- Nat.pow_add] at h4;have h5 : Lib.bitLen y - 1 + (64 - Lib.bitLen y) = 63 := by omega
   rw [h5] at h4;exact h4
 · have h3 : y < 2 ^ Lib.bitLen y := h1.2.2;have h4 : y * 2 ^ (64 - Lib.bitLen y) < 2 ^ Lib.bitLen y * 2 ^ (64 - Lib.bitLen y) := Nat.mul_lt_mul_of_pos_right h3 (Nat.two_pow_pos _);rw [<- Nat.pow_add] at h4;have h5 : Lib.bitLen y + (64 - Lib.bitLen y) = 64 := by omega
   rw [h5] at h4;exact h4
set_option maxRecDepth 100000 in
set_option maxHeartbeats 2000000 in
theorem sO (h l y : Nat) (w : World) (hh : h < y) (hl : l < W) (hy : y < W) :
 Calls Try.prog 98 #[.int .u64 (h : Int), .int .u64 (l : Int), .int .u64 (y : Int)] w fun e w' =>
  e = .returned (.tuple #[.int .u64 ((iW h l y : Nat) : Int), .int .u64 ((kq h l y : Nat) : Int)]) /\ ∃ m, w' = w.drewN m := by
 have y0 : (((y : Nat) : Int) == 0) = false := by rw [beq_eq_false_iff_ne]; omega
 have y1 : decide ((y : Int) <= (h : Int)) = false := by simp; omega
 by_cases h0 : h = 0
 · subst h0;have y2 : ¬ (y = 0) := by omega
   go_enter Try.func98, Try.ntmps98;go_wp2
   go_quiet (fail)
   go_wp2;go_ret2;have d1 : iW 0 l y = l / y := by unfold iW; rw [Nat.zero_mul, Nat.zero_add]
   have d2 : kq 0 l y = l % y := by unfold kq; rw [Nat.zero_mul, Nat.zero_add]
   rw [d1, d2];refine ⟨?_, _, rfl⟩;have hw : IntKind.u64.wrap ((l : Int) / (y : Int)) = ((l / y : Nat) : Int) := by
    rw [<- Int.natCast_ediv, IntKind.wrap_u64];have h1 := Nat.div_le_self l y;unfold W at hl;generalize l / y = z at *;omega
   show Ending.returned (.tuple #[.int .u64 (IntKind.u64.wrap ((l : Int) / (y : Int))), .int .u64 ((l : Int) % (y : Int))]) = _;rw [hw, Int.natCast_emod]
 · have h1 : (((h : Nat) : Int) == 0) = false := by rw [beq_eq_false_iff_ne]; omega
   obtain ⟨s, hs, hsl, hy1, hy2⟩ := lZ (by omega : y ≠ 0) hy;have Hsl := Lib.hid hsl; clear hsl;obtain ⟨p1, p2, p3, p4⟩ := tR hl hs hh hy2;have e1 : da y s = y * 2 ^ s := Nat.mod_eq_of_lt hy2;have H := Lib.hid (And.intro p1 (And.intro p2 (And.intro p3 (And.intro p4 (And.intro hy1 (And.intro hy2 e1)))))); clear p1 p2 p3 p4 hy1 hy2 e1;have hyb : (y : Int) <= 18446744073709551615 := by unfold W at hy; omega
   have Hyb := Lib.hid hyb; clear hyb;have hylt : da y s < W := iu _;have hllt : da l s < W := iu _;have hY := Lib.hid (show da y s = fu (da y s) 32 * HB + my (da y s) 4294967295 by rw [gU, jm, Nat.mul_comm]; exact (Nat.div_add_mod _ _).symm);have hY0 : my (da y s) 4294967295 < HB := by rw [jm]; exact Nat.mod_lt _ (by unfold HB; omega)
   have hYb : 9223372036854775808 <= da y s := by rw [H.out.2.2.2.2.2.2]; exact H.out.2.2.2.2.1
   have hY1 : 2147483648 <= fu (da y s) 32 := by rw [gU]; unfold HB; omega
   have hY1u : fu (da y s) 32 < 4294967296 := by rw [gU, Nat.div_lt_iff_lt_mul (by unfold HB; omega)]; exact hylt
   have hU1 : fu (da l s) 32 < HB := by rw [gU, Nat.div_lt_iff_lt_mul (by unfold HB; omega), sd]; exact hllt
   have hU0 : my (da l s) 4294967295 < HB := by rw [jm]; exact Nat.mod_lt _ (by unfold HB; omega)
   have hUY : rL (da h s) (fu l (64 - s)) < da y s := by rw [H.out.2.2.2.2.2.2]; exact H.out.2.1
   generalize hYg : da y s = Y at *;generalize hVg : da l s = V at *;generalize hY1g : fu Y 32 = Y1 at *;generalize hY0g : my Y 4294967295 = Y0 at *;generalize hU1g : fu V 32 = U1 at *;generalize hU0g : my V 4294967295 = U0 at *;generalize hUg : rL (da h s) (fu l (64 - s)) = U at *;have G7 := Lib.hid hUg; clear hUg;have G1 := Lib.hid hYg; clear hYg;have G2 := Lib.hid hVg; clear hVg;have G3 := Lib.hid hY1g; clear hY1g;have G4 := Lib.hid hY0g; clear hY0g;have G5 := Lib.hid hU1g; clear hU1g;have G6 := Lib.hid hU0g; clear hU0g;go_enter Try.func98, Try.ntmps98
   go_upto_block 0 with (first
    | (go_at_call 99; refine (Try.bits_LeadingZeros64 _ _ (by omega) Hyb.out).mono ?_; rintro e w' ⟨rfl, hw'⟩; obtain rfl := hw'.symm; simp only [Int.toNat_natCast]; rw [Hsl.out])
    | (with_reducible show wpList _ _ _ (⟨some 39, _, _, _, _, _⟩ :: _) _ _; refine lG rfl _ _ rfl y s (by omega) rfl rfl rfl rfl ?_; rw [G1.out])
    | (with_reducible show wpList _ _ _ (⟨some 41, _, _, _, _, _⟩ :: _) _ _; refine lr rfl _ _ rfl Y 32 hylt (by omega) rfl rfl rfl rfl ?_; rw [G3.out])
    | (with_reducible show wpList _ _ _ (⟨some 43, _, _, _, _, _⟩ :: _) _ _; refine vJ rfl _ _ rfl Y 4294967295 hylt (by unfold W; omega) rfl rfl rfl rfl ?_; rw [G4.out])
    | (with_reducible show wpList _ _ _ (⟨some 46, _, _, _, _, _⟩ :: _) _ _; refine lG rfl _ _ rfl h s (by omega) rfl rfl rfl rfl ?_)
    | (with_reducible show wpList _ _ _ (⟨some 50, _, _, _, _, _⟩ :: _) _ _; refine lr rfl _ _ rfl l (64 - s) hl (by omega) rfl rfl rfl (by omega) ?_)
    | (with_reducible show wpList _ _ _ (⟨some 51, _, _, _, _, _⟩ :: _) _ _; refine qb rfl _ _ rfl (da h s) (fu l (64 - s)) H.out.2.2.1 H.out.2.2.2.1 rfl rfl rfl rfl ?_; rw [G7.out])
    | (with_reducible show wpList _ _ _ (⟨some 54, _, _, _, _, _⟩ :: _) _ _; refine lG rfl _ _ rfl l s (by omega) rfl rfl rfl rfl ?_; rw [G2.out])
    | (with_reducible show wpList _ _ _ (⟨some 56, _, _, _, _, _⟩ :: _) _ _; refine lr rfl _ _ rfl V 32 hllt (by omega) rfl rfl rfl rfl ?_; rw [G5.out])
    | (with_reducible show wpList _ _ _ (⟨some 58, _, _, _, _, _⟩ :: _) _ _; refine vJ rfl _ _ rfl V 4294967295 hllt (by unfold W; omega) rfl rfl rfl rfl ?_; rw [G6.out])
    | (with_reducible show wpList _ _ _ (⟨some 61, _, _, _, _, _⟩ :: _) _ _; refine tV rfl _ _ rfl U Y1 (by omega) (by omega) rfl rfl rfl rfl ?_)
    | (with_reducible show wpList _ _ _ (⟨some 65, _, _, _, _, _⟩ :: _) _ _; refine j4 rfl _ _ rfl (ky U Y1) Y1 rfl rfl rfl rfl ?_)
    | (with_reducible show wpList _ _ _ (⟨some 66, _, _, _, _, _⟩ :: _) _ _; refine rH rfl _ _ rfl U (aE (ky U Y1) Y1) (ib _ _) rfl rfl rfl rfl ?_))
   go_cut [15, 16] (fun q r wc => q = .int .u64 (((U * HB + U1) / Y : Nat) : Int) /\ (∃ rh : Nat, r = .int .u64 (rh : Int)) /\ w = wc)
   case first =>
    go_wp2
    go_loop [15, 16] (fun q r => ∃ q1 rh : Nat, q = .int .u64 (q1 : Int) /\ r = .int .u64 (rh : Int) /\ cC U Y U1 Y1 Y0 q1 rh) (fun q _ => (intOf q).toNat)
    case atStart => exact ⟨_, _, rfl, rfl, cC.start hY.out hY1 hUY hU1 hY0 hylt⟩
    case round =>
     obtain ⟨q1, rh, rfl, rfl, hi⟩ := hrel;have hrh := hi.rh;have htop := hi.top;have hqB := (fE hY.out hY1 hUY hU1 hY0).1;have Hq := Lib.hid hqB; clear hqB;have HU1 := Lib.hid hU1; have HY0 := Lib.hid hY0; have HYb := Lib.hid hYb; have Hyl := Lib.hid hylt;have hYp : 0 < Y := by omega
     unfold HB at hrh htop hU1 hY0;clear hYb hylt hllt hy hl;by_cases hA : 4294967296 <= q1
     · have t1 : decide ((4294967296 : Int) <= (q1 : Int)) = true := by simp; omega
       have hgt := iz hY.out rfl hYp hi.eq (.inl (by unfold HB; exact hA)) Hq.out;have Hgt := Lib.hid hgt;have hq1 : 1 <= q1 := Nat.lt_of_le_of_lt (Nat.zero_le _) hgt;clear hgt;by_cases hbr : 4294967296 <= rh + Y1
       · have t2 : decide ((4294967296 : Int) <= (rh : Int) + (Y1 : Int)) = true := by simp; omega
         go_wp2
         go_meet
         exact ⟨by rw [<- hi.stop hY.out hYp HY0.out Hgt.out (by unfold HB; exact hbr)]; go_num, ⟨_, rfl⟩, rfl⟩
       · have t2 : decide ((4294967296 : Int) <= (rh : Int) + (Y1 : Int)) = false := by simp; omega
         go_wp2
         go_round
         case rel => exact ⟨q1 - 1, rh + Y1, by go_num, by go_num, hi.next Hgt.out (by unfold HB; omega)⟩
         case measure => simp [intOf]; omega
     · have t1 : decide ((4294967296 : Int) <= (q1 : Int)) = false := by simp; omega
       have hmul : q1 * Y0 <= 4294967295 * 4294967295 := Nat.mul_le_mul (by omega) (by omega);have f1 : (q1 : Int) * (Y0 : Int) <= 18446744073709551615 := by rw [<- Int.natCast_mul]; omega
       have f0 : 0 <= (q1 : Int) * (Y0 : Int) := by rw [<- Int.natCast_mul]; omega
       clear hmul;by_cases hB : 4294967296 * rh + U1 < q1 * Y0
       · have t3 : decide ((4294967296 : Int) * (rh : Int) + (U1 : Int) < (q1 : Int) * (Y0 : Int)) = true := by rw [<- Int.natCast_mul]; simp; omega
         have hgt := iz hY.out rfl hYp hi.eq (.inr (by unfold HB; exact hB)) Hq.out;have Hgt := Lib.hid hgt;have hq1 : 1 <= q1 := Nat.lt_of_le_of_lt (Nat.zero_le _) hgt;clear hgt hB;by_cases hbr : 4294967296 <= rh + Y1
         · have t2 : decide ((4294967296 : Int) <= (rh : Int) + (Y1 : Int)) = true := by simp; omega
           go_wp2
           go_meet
           exact ⟨by rw [<- hi.stop hY.out hYp HY0.out Hgt.out (by unfold HB; exact hbr)]; go_num, ⟨_, rfl⟩, rfl⟩
         · have t2 : decide ((4294967296 : Int) <= (rh : Int) + (Y1 : Int)) = false := by simp; omega
           go_wp2
           go_round
           case rel => exact ⟨q1 - 1, rh + Y1, by go_num, by go_num, hi.next Hgt.out (by unfold HB; omega)⟩
           case measure => simp [intOf]; omega
       · have t3 : decide ((4294967296 : Int) * (rh : Int) + (U1 : Int) < (q1 : Int) * (Y0 : Int)) = false := by rw [<- Int.natCast_mul]; simp; omega
         have hd := hi.done hY.out hYp (by unfold HB; omega);have Hd := Lib.hid hd; clear hd hB;go_wp2
         go_meet
         exact ⟨by rw [Hd.out], ⟨_, rfl⟩, rfl⟩
   case rest =>
    obtain ⟨rfl, ⟨rh0, rfl⟩, rfl⟩ := hcut;have hYp : 0 < Y := by omega
    have hR := mX (u := U) (w := U1) rfl hYp hylt;have hRlt := Nat.mod_lt (U * HB + U1) hYp;have hQlt := (fE hY.out hY1 hUY hU1 hY0).1;generalize hQg : (U * HB + U1) / Y = Q at *;generalize hRg : (U * HB + U1) % Y = R at *;have HQ := Lib.hid hQg; clear hQg;have HR := Lib.hid hRg; clear hRg;rw [uN] at hR;have HRest := Lib.hid hR; clear hR;have HQlt := Lib.hid hQlt; clear hQlt;have Hslt := Lib.hid hs;have hRW : R < W := by omega
    go_upto_block 2 with (first
     | (with_reducible show wpList _ _ _ (⟨some 87, _, _, _, _, _⟩ :: _) _ _; refine j4 rfl _ _ rfl U 4294967296 rfl rfl rfl rfl ?_)
     | (with_reducible show wpList _ _ _ (⟨some 89, _, _, _, _, _⟩ :: _) _ _; refine nS rfl _ _ rfl (aE U 4294967296) U1 rfl rfl rfl rfl ?_)
     | (with_reducible show wpList _ _ _ (⟨some 92, _, _, _, _, _⟩ :: _) _ _; refine j4 rfl _ _ rfl Q Y rfl rfl rfl rfl ?_)
     | (with_reducible show wpList _ _ _ (⟨some 93, _, _, _, _, _⟩ :: _) _ _; refine n9 rfl _ _ rfl (aU (aE U 4294967296) U1 0) (aE Q Y) R (ib _ _) (by exact HRest.out) rfl rfl rfl rfl ?_)
     | (with_reducible show wpList _ _ _ (⟨some 96, _, _, _, _, _⟩ :: _) _ _; refine tV rfl _ _ rfl R Y1 hRW (by omega) rfl rfl rfl rfl ?_)
     | (with_reducible show wpList _ _ _ (⟨some 100, _, _, _, _, _⟩ :: _) _ _; refine j4 rfl _ _ rfl (ky R Y1) Y1 rfl rfl rfl rfl ?_)
     | (with_reducible show wpList _ _ _ (⟨some 101, _, _, _, _, _⟩ :: _) _ _; refine rH rfl _ _ rfl R (aE (ky R Y1) Y1) (ib _ _) rfl rfl rfl rfl ?_))
    go_cut [18, 16] (fun q r wc => q = .int .u64 (((R * HB + U0) / Y : Nat) : Int) /\ (∃ rh : Nat, r = .int .u64 (rh : Int)) /\ w = wc)
    case first =>
     go_wp2
     go_loop [18, 16] (fun q r => ∃ q1 rh : Nat, q = .int .u64 (q1 : Int) /\ r = .int .u64 (rh : Int) /\ cC R Y U0 Y1 Y0 q1 rh) (fun q _ => (intOf q).toNat)
     case atStart => exact ⟨_, _, rfl, rfl, cC.start hY.out hY1 hRlt hU0 hY0 hylt⟩
     case round =>
      obtain ⟨q1, rh, rfl, rfl, hi⟩ := hrel;have hrh := hi.rh;have htop := hi.top;have hqB := (fE hY.out hY1 hRlt hU0 hY0).1;have HqR := Lib.hid hqB; clear hqB;have HU1 := Lib.hid hU1; have HU0 := Lib.hid hU0; have HY0 := Lib.hid hY0; have HYb := Lib.hid hYb; have Hyl := Lib.hid hylt;unfold HB at hrh htop hU0 hY0;clear hU1 hYb hylt hllt hy hl hRW;by_cases hA : 4294967296 <= q1
      · have t1 : decide ((4294967296 : Int) <= (q1 : Int)) = true := by simp; omega
        have hgt := iz hY.out rfl hYp hi.eq (.inl (by unfold HB; exact hA)) HqR.out;have Hgt := Lib.hid hgt;have hq1 : 1 <= q1 := Nat.lt_of_le_of_lt (Nat.zero_le _) hgt;clear hgt;by_cases hbr : 4294967296 <= rh + Y1
        · have t2 : decide ((4294967296 : Int) <= (rh : Int) + (Y1 : Int)) = true := by simp; omega
          go_wp2
          go_meet
          exact ⟨by rw [<- hi.stop hY.out hYp HY0.out Hgt.out (by unfold HB; exact hbr)]; go_num, ⟨_, rfl⟩, rfl⟩
        · have t2 : decide ((4294967296 : Int) <= (rh : Int) + (Y1 : Int)) = false := by simp; omega
          go_wp2
          go_round
          case rel => exact ⟨q1 - 1, rh + Y1, by go_num, by go_num, hi.next Hgt.out (by unfold HB; omega)⟩
          case measure => simp [intOf]; omega
      · have t1 : decide ((4294967296 : Int) <= (q1 : Int)) = false := by simp; omega
        have hmul : q1 * Y0 <= 4294967295 * 4294967295 := Nat.mul_le_mul (by omega) (by omega);have f1 : (q1 : Int) * (Y0 : Int) <= 18446744073709551615 := by rw [<- Int.natCast_mul]; omega
        have f0 : 0 <= (q1 : Int) * (Y0 : Int) := by rw [<- Int.natCast_mul]; omega
        clear hmul;by_cases hB : 4294967296 * rh + U0 < q1 * Y0
        · have t3 : decide ((4294967296 : Int) * (rh : Int) + (U0 : Int) < (q1 : Int) * (Y0 : Int)) = true := by rw [<- Int.natCast_mul]; simp; omega
          have hgt := iz hY.out rfl hYp hi.eq (.inr (by unfold HB; exact hB)) HqR.out;have Hgt := Lib.hid hgt;have hq1 : 1 <= q1 := Nat.lt_of_le_of_lt (Nat.zero_le _) hgt;clear hgt hB;by_cases hbr : 4294967296 <= rh + Y1
          · have t2 : decide ((4294967296 : Int) <= (rh : Int) + (Y1 : Int)) = true := by simp; omega
            go_wp2
            go_meet
            exact ⟨by rw [<- hi.stop hY.out hYp HY0.out Hgt.out (by unfold HB; exact hbr)]; go_num, ⟨_, rfl⟩, rfl⟩
          · have t2 : decide ((4294967296 : Int) <= (rh : Int) + (Y1 : Int)) = false := by simp; omega
            go_wp2
            go_round
            case rel => exact ⟨q1 - 1, rh + Y1, by go_num, by go_num, hi.next Hgt.out (by unfold HB; omega)⟩
            case measure => simp [intOf]; omega
        · have t3 : decide ((4294967296 : Int) * (rh : Int) + (U0 : Int) < (q1 : Int) * (Y0 : Int)) = false := by rw [<- Int.natCast_mul]; simp; omega
          have hd := hi.done hY.out hYp (by unfold HB; omega);have Hd := Lib.hid hd; clear hd hB;go_wp2
          go_meet
          exact ⟨by rw [Hd.out], ⟨_, rfl⟩, rfl⟩
    case rest =>
     obtain ⟨rfl, ⟨rh1, rfl⟩, rfl⟩ := hcut;have hQ0lt := (fE hY.out hY1 hRlt hU0 hY0).1;have hYe : Y = y * 2 ^ s := H.out.2.2.2.2.2.2;have e5 : V / HB = U1 := by rw [<- gU]; exact G5.out
     have e6 : V % HB = U0 := by rw [<- jm]; exact G6.out
     have hj := uO (h := h) (l := l) (s := s) (y := y) (u := U) (v := V) (q1 := Q) (q0 := (R * HB + U0) / Y) (r1 := R) H.out.1 (by omega)
      (by rw [e5, <- hYe]; exact HQ.out.symm) (by rw [e5, <- hYe]; exact HR.out.symm) (by rw [e6, <- hYe]) HQlt.out hQ0lt
     rw [e6, <- hYe] at hj;have HYe := Lib.hid hYe; clear hYe e5 e6;have hR2 := mX (u := R) (w := U0) rfl hYp hylt;have hR2lt := Nat.mod_lt (R * HB + U0) hYp;generalize hQ0g : (R * HB + U0) / Y = Q0 at *;generalize hR0g : (R * HB + U0) % Y = R0 at *;have HQ0 := Lib.hid hQ0g; clear hQ0g;have HR0 := Lib.hid hR0g; clear hR0g;rw [uN] at hR2;have HR2 := Lib.hid hR2; clear hR2;rw [uN] at hj;have Hj := Lib.hid hj; clear hj;have hR0W : R0 < W := by omega
     clear hY0 hU0 hU1;go_wp2_with (first
      | (with_reducible show wpList _ _ _ (⟨some 122, _, _, _, _, _⟩ :: _) _ _; refine j4 rfl _ _ rfl Q 4294967296 rfl rfl rfl rfl ?_)
      | (with_reducible show wpList _ _ _ (⟨some 124, _, _, _, _, _⟩ :: _) _ _; refine nS rfl _ _ rfl (aE Q 4294967296) Q0 rfl rfl rfl rfl ?_)
      | (with_reducible show wpList _ _ _ (⟨some 126, _, _, _, _, _⟩ :: _) _ _; refine j4 rfl _ _ rfl R 4294967296 rfl rfl rfl rfl ?_)
      | (with_reducible show wpList _ _ _ (⟨some 128, _, _, _, _, _⟩ :: _) _ _; refine nS rfl _ _ rfl (aE R 4294967296) U0 rfl rfl rfl rfl ?_)
      | (with_reducible show wpList _ _ _ (⟨some 131, _, _, _, _, _⟩ :: _) _ _; refine j4 rfl _ _ rfl Q0 Y rfl rfl rfl rfl ?_)
      | (with_reducible show wpList _ _ _ (⟨some 132, _, _, _, _, _⟩ :: _) _ _; refine n9 rfl _ _ rfl (aU (aE R 4294967296) U0 0) (aE Q0 Y) R0 (ib _ _) (by exact HR2.out) rfl rfl rfl rfl ?_)
      | (with_reducible show wpList _ _ _ (⟨some 134, _, _, _, _, _⟩ :: _) _ _; refine lr rfl _ _ rfl R0 s hR0W (by omega) rfl rfl rfl rfl ?_))
     go_ret2;rw [<- Hj.out.1, <- Hj.out.2];exact ⟨rfl, 0, rfl⟩
theorem wI (h l y : Nat) (w : World) (hh : h < y) (hl : l < W) (hy : y < W) :
 Calls Try.prog 98 #[.int .u64 (h : Int), .int .u64 (l : Int), .int .u64 (y : Int)] w fun e w' =>
  e = .returned (.tuple #[.int .u64 ((iW h l y : Nat) : Int), .int .u64 ((kq h l y : Nat) : Int)]) /\ w.grownBy w' none :=
 (sO h l y w hh hl hy).mono fun _ _ ⟨a, m, b⟩ => ⟨a, by rw [b]; exact dF (World.grownBy.refl _ _) m⟩
set_option maxHeartbeats 1000000 in
theorem jI (ao : Option Addr) (len cap : Nat) (ws : List Nat) (w : World) (hA : cf w ao ws) (hl : len = ws.length) (hm : len <= 35184372088832) (hcap : len <= cap) :
 Calls Try.prog 79 #[.slice ao len cap] w fun e w' => e = .returned (.slice ao (au ws) (au ws)) /\ w = w' := by
 subst hl;have htl := aD ws;go_enter Try.func79, Try.ntmps79;go_wp2
 go_loop [3] (fun i => ∃ k : Nat, k <= ws.length /\ au ws <= k /\ i = .int .i64 k) (fun i => (intOf i).toNat)
 case atStart => exact ⟨ws.length, by omega, by omega, rfl⟩
 case round =>
  obtain ⟨k, hk, ht, rfl⟩ := hrel;by_cases h0 : 0 < k
  · obtain ⟨b, o, rfl, hb, hc⟩ := hA.pos (by omega);have hcell := hc (k - 1) (by omega);by_cases hz : gw ws (k - 1) = 0
    · have hzb : (((gw ws (k - 1) : Nat) : Int) == 0) = true := by rw [hz]; rfl
      have Hz := Lib.hid hz; clear hz hc;go_wp2
      go_round
      case rel => exact ⟨k - 1, by omega, iM ws (k - 1) (fun j hj => by
       by_cases hj' : j = k - 1
       · rw [hj']; exact Hz.out
       · exact gj ws j (by omega)), by go_num⟩
      case measure => simp [intOf]; omega
    · have hzb : (((gw ws (k - 1) : Nat) : Int) == 0) = false := by rw [beq_eq_false_iff_ne]; omega
      have h1 := np ws (k - 1) hz;have hk1 : k = au ws := by omega
      subst hk1;clear hc hz;go_wp2;go_ret;exact ⟨rfl, rfl⟩
  · have hk1 : k = au ws := by omega
    subst hk1;go_wp2;go_ret;exact ⟨rfl, rfl⟩
structure dN (w w' : World) (b : Nat) (cur cur' : List Nat) : Prop where
 row : ah w' b 51 (cur'.map wv)
 ok : Ok cur'
 len : cur'.length = cur.length
 grown : w.grownBy w' (some b)
theorem dN.set {w w' : World} {b : Nat} {cur cur' : List Nat} (h : dN w w' b cur cur') (i v : Nat) (hv : v < W) : dN w (w'.setCell ⟨b, i, none⟩ (.int .u64 (v : Int))) b cur (cur'.set i v) :=
 ⟨h.row.cg i v, h.ok.set i v hv, by rw [List.length_set]; exact h.len, mr h.grown i _⟩
theorem dN.drew {w w' : World} {b : Nat} {cur cur' : List Nat} (h : dN w w' b cur cur') : dN w w'.drew b cur cur' := ⟨h.row, h.ok, h.len, l8 h.grown⟩
set_option maxHeartbeats 1000000 in
theorem kN (zo ao : Option Addr) (b o lz cz len cap : Nat) (ws cur : List Nat) (w : World) (hrow : ah w b 51 (cur.map wv)) (hok : Ok cur) (hz : lz = 0 ∨ zo = some ⟨b, o, none⟩) (hfit : o + lz <= cur.length)
 (hA : cf w ao ws) (hne : iT ao ws b) (hl : len = ws.length) (hle : len <= lz) (hm : cur.length <= 35184372088832) :
 Calls Try.prog 81 #[.slice zo lz cz, .slice ao len cap] w fun e w' => e = .returned (.tuple #[]) /\ ∃ (cur' : List Nat) (cr : Nat), dN w w' b cur cur' /\ cr <= 1 /\
  (∀ j, j < o ∨ o + lz <= j -> gw cur' j = gw cur j) /\ sv cur' o lz + W ^ lz * cr = sv cur o lz + aa ws := by
 subst hl;go_enter Try.func81, Try.ntmps81;go_wp2;go_loopw [4, 9] (fun c i wr => ∃ (k cr : Nat) (cu : List Nat), k <= ws.length /\ i = .int .i64 k /\ c = .int .u64 cr /\ cr <= 1 /\ dN w wr b cur cu /\ Hid (∀ j, j < o ∨ o + k <= j -> gw cu j = gw cur j) /\
  Hid (sv cu o k + W ^ k * cr = sv cur o k + aa (ws.take k))) (fun _ i _ => ws.length - (intOf i).toNat)
 case atStart => exact ⟨0, 0, cur, Nat.zero_le _, rfl, rfl, by omega, ⟨hrow, hok, rfl, World.grownBy.refl _ _⟩, Lib.hid (fun _ _ => rfl), Lib.hid (by simp [fZ, aa])⟩
 case round =>
  obtain ⟨k, cr, cu, hk, rfl, rfl, hcr, hR, Hs, He⟩ := hrel;by_cases hlt : k < ws.length
  · obtain ⟨b1, o1, rfl, hb1, hc1⟩ := (hA.grown hR.grown hne).pos (by omega);have e1 := hc1 k hlt;clear hc1;obtain rfl : zo = some ⟨b, o, none⟩ := by
     rcases hz with h | h
     · omega
     · exact h
    have hlen := hR.len;have hcell := hR.row.word (i := o + k) (by omega);have hfree := hR.row.free (o + k);have Hlen := Lib.hid hlen; clear hlen;have hadd := nB (gw cu (o + k)) (gw ws k) cr hcr;have i1 : (k : Int) < (lz : Int) := by omega
    have i2 : (k : Int) < (ws.length : Int) := by omega
    go_wp2
    go_region
    go_wp2;go_roundw
    case rel =>
     exact ⟨k + 1, _, _, by omega, by go_num, rfl, gZ (hR.ok.gw _) (hA.ok.gw k) hcr, (hR.set (o + k) _ (dS _ _ _)).drew,
      Lib.hid (fun j hj => by rw [ba (by omega)]; exact Hs.out j (by omega)),
      Lib.hid (fS (ws := ws) (by have := Hlen.out; omega) He.out (Hs.out _ (by omega)) (aB ws k))⟩
    case measure => simp [intOf]; omega
  · have hk1 : k = ws.length := by omega
    subst hk1;go_wp2;go_loopw [4, 6] (fun c i wr => ∃ (k cr : Nat) (cu : List Nat), ws.length <= k /\ k <= lz /\ i = .int .i64 k /\ c = .int .u64 cr /\ cr <= 1 /\ dN w wr b cur cu /\ Hid (∀ j, j < o ∨ o + k <= j -> gw cu j = gw cur j) /\
     Hid (sv cu o k + W ^ k * cr = sv cur o k + aa ws)) (fun _ i _ => lz - (intOf i).toNat)
    case atStart => exact ⟨ws.length, cr, cu, Nat.le_refl _, hle, rfl, rfl, hcr, hR, Hs, Lib.hid (by have := He.out; rwa [List.take_of_length_le (Nat.le_refl _)] at this)⟩
    case round =>
     clear hR Hs He hcr;obtain ⟨k, cr, cu, hk0, hk, rfl, rfl, hcr, hR, Hs, He⟩ := hrel;by_cases hc0 : cr = 0
     · subst hc0;go_wp2
       go_end0
       exact ⟨rfl, cu, 0, hR, by omega, fun j hj => Hs.out j (by omega), by
        have := mH (n := lz) hk (X := 0) (by have := He.out; omega) (fun j hj => Hs.out j (by omega)); omega⟩
     · have t1 : (((cr : Nat) : Int) != 0) = true := by rw [bne_iff_ne]; omega
       have Hc0 := Lib.hid hc0; clear hc0;by_cases hlt2 : k < lz
       · obtain rfl : zo = some ⟨b, o, none⟩ := by
          rcases hz with h | h
          · omega
          · exact h
         have hlen := hR.len;have hcell := hR.row.word (i := o + k) (by omega);have hfree := hR.row.free (o + k);have Hlen := Lib.hid hlen; clear hlen;have i1 : (k : Int) < (lz : Int) := by omega
         go_wp2_with (with_reducible show wpList _ _ _ (⟨some 49, _, _, _, _, _⟩ :: _) _ _; refine bP rfl _ _ _ _ rfl (gw cu (o + k)) 0 cr hcr rfl rfl rfl rfl rfl rfl ?_)
         go_roundw
         case rel =>
          exact ⟨k + 1, _, _, by omega, by omega, by go_num, rfl, gZ (hR.ok.gw _) aS hcr, hR.set (o + k) _ (dS _ _ _),
           Lib.hid (fun j hj => by rw [ba (by omega)]; exact Hs.out j (by omega)),
           Lib.hid (fS (ws := ws) (by have := Hlen.out; omega) He.out (Hs.out _ (by omega)) (by omega))⟩
         case measure => simp [intOf]; omega
       · have hk1 : k = lz := by omega
         subst hk1;go_wp2
         go_end0
         exact ⟨rfl, cu, cr, hR, hcr, fun j hj => Hs.out j (by omega), He.out⟩
set_option maxHeartbeats 1000000 in
theorem mG (zo ao : Option Addr) (b o lz cz len cap : Nat) (ws cur : List Nat) (w : World) (hrow : ah w b 51 (cur.map wv)) (hok : Ok cur) (hz : lz = 0 ∨ zo = some ⟨b, o, none⟩) (hfit : o + lz <= cur.length)
 (hA : cf w ao ws) (hne : iT ao ws b) (hl : len = ws.length) (hle : len <= lz) (hm : cur.length <= 35184372088832) (hge : aa ws <= sv cur o lz) :
 Calls Try.prog 94 #[.slice zo lz cz, .slice ao len cap] w fun e w' => e = .returned (.tuple #[]) /\ ∃ (cur' : List Nat), dN w w' b cur cur' /\
  (∀ j, j < o ∨ o + lz <= j -> gw cur' j = gw cur j) /\ sv cur' o lz + aa ws = sv cur o lz := by
 subst hl;have Hge := Lib.hid hge; clear hge;go_enter Try.func94, Try.ntmps94;go_wp2;go_loopw [4, 9] (fun c i wr => ∃ (k cr : Nat) (cu : List Nat), k <= lz /\ i = .int .i64 k /\ c = .int .u64 cr /\ cr <= 1 /\ dN w wr b cur cu /\ Hid (∀ j, j < o ∨ o + k <= j -> gw cu j = gw cur j) /\
  Hid (sv cu o k + aa (ws.take k) = sv cur o k + W ^ k * cr)) (fun _ i _ => lz - (intOf i).toNat)
 case atStart => exact ⟨0, 0, cur, Nat.zero_le _, rfl, rfl, by omega, ⟨hrow, hok, rfl, World.grownBy.refl _ _⟩, Lib.hid (fun _ _ => rfl), Lib.hid (by simp [fZ, aa])⟩
 case round =>
  obtain ⟨k, cr, cu, hk, rfl, rfl, hcr, hR, Hs, He⟩ := hrel;by_cases hlt : k < lz
  · obtain rfl : zo = some ⟨b, o, none⟩ := by
     rcases hz with h | h
     · omega
     · exact h
    have hlen := hR.len;have hcell := hR.row.word (i := o + k) (by omega);have hfree := hR.row.free (o + k);have Hlen := Lib.hid hlen; clear hlen;by_cases hlt2 : k < ws.length
    · obtain ⟨b1, o1, rfl, hb1, hc1⟩ := (hA.grown hR.grown hne).pos (by omega);have e1 := hc1 k hlt2;clear hc1;go_wp2_with (with_reducible show wpList _ _ _ (⟨some 31, _, _, _, _, _⟩ :: _) _ _; refine fA rfl _ _ _ _ rfl (gw cu (o + k)) (gw ws k) cr hcr rfl rfl rfl rfl rfl rfl ?_)
      go_roundw
      case rel =>
       exact ⟨k + 1, _, _, by omega, by go_num, rfl, jD _ _ _, hR.set (o + k) _ (fF _ _ _),
        Lib.hid (fun j hj => by rw [ba (by omega)]; exact Hs.out j (by omega)),
        Lib.hid (jl (by have := Hlen.out; omega) He.out (Hs.out _ (by omega)) (aB ws k) (hR.ok.gw _) (hA.ok.gw k) hcr)⟩
      case measure => simp [intOf]; omega
    · by_cases hc0 : cr = 0
      · subst hc0;go_wp2;refine bodyPost_ret (results_none rfl _ _ _) rfl ?_;exact ⟨rfl, cu, hR, fun j hj => Hs.out j (by omega), by
         have := mH (n := lz) (Nat.le_of_lt hlt) (X := aa ws) (Y := 0) (by have := He.out; rw [List.take_of_length_le (by omega)] at this; omega) (fun j hj => Hs.out j (by omega)); omega⟩
      · have t1 : (((cr : Nat) : Int) == 0) = false := by rw [beq_eq_false_iff_ne]; omega
        have Hc0 := Lib.hid hc0; clear hc0;go_wp2_with (with_reducible show wpList _ _ _ (⟨some 31, _, _, _, _, _⟩ :: _) _ _; refine fA rfl _ _ _ _ rfl (gw cu (o + k)) 0 cr hcr rfl rfl rfl rfl rfl rfl ?_)
        go_roundw
        case rel =>
         exact ⟨k + 1, _, _, by omega, by go_num, rfl, jD _ _ _, hR.set (o + k) _ (fF _ _ _),
          Lib.hid (fun j hj => by rw [ba (by omega)]; exact Hs.out j (by omega)),
          Lib.hid (jl (by have := Hlen.out; omega) He.out (Hs.out _ (by omega)) (by rw [List.take_of_length_le (by omega), List.take_of_length_le (by omega)]; omega) (hR.ok.gw _) aS hcr)⟩
        case measure => simp [intOf]; omega
  · have hk1 : k = lz := by omega
    subst hk1;go_wp2
    go_end0
    refine ⟨rfl, cu, hR, fun j hj => Hs.out j (by omega), ?_⟩;have e1 := He.out;rw [List.take_of_length_le hle] at e1;have e2 := l9 hR.ok o k;have e3 := Hge.out;have e4 : cr = 0 := by
     refine Decidable.byContradiction fun hn => ?_;have : cr = 1 := by omega
     subst this;omega
    subst e4;omega
theorem dN.below {w0 w w' : World} {B b : Nat} {cur cur' : List Nat} (h : dN w w' b cur cur') (hb : Below B w0 w) (hB : B <= b) (hs : B <= w.heap.size) : Below B w0 w' :=
 hb.grown h.grown hs (fun k e => by cases e; exact hB)
theorem wY {xs ys cur' cu : List Nat} {n cr : Nat} (hl : cur'.length = n + 1) (hcur : cu.length = n + 1) (hx : xs.length <= n) (hy : ys.length <= n) (okx : Ok xs) (oky : Ok ys) (okc : Ok cur') (hv : aa cu = aa xs)
 (he : sv cur' 0 (n + 1) + W ^ (n + 1) * cr = sv cu 0 (n + 1) + aa ys) (hcr : cr <= 1) : aa cur' = aa xs + aa ys := by
 have s1 : sv cu 0 (n + 1) = aa xs := by rw [<- hcur, ee, hv]
 have s2 : sv cur' 0 (n + 1) = aa cur' := by rw [<- hl, ee]
 rw [s1, s2] at he;have e2 := ct okx;have e3 := ct oky;have e4 : W ^ xs.length <= W ^ n := Nat.pow_le_pow_right aS hx;have e5 : W ^ ys.length <= W ^ n := Nat.pow_le_pow_right aS hy;have e7 : W ^ n * 2 <= W ^ (n + 1) := by rw [Nat.pow_succ]; exact Nat.mul_le_mul_left _ eZ
 have h0 : cr = 0 := by
  refine Decidable.byContradiction fun hn => ?_;have h1 : cr = 1 := by omega
  rw [h1, Nat.mul_one] at he;omega
 rw [h0, Nat.mul_zero] at he;omega
set_option maxHeartbeats 1000000 in
theorem xY (aoA aoB : Option Addr) (lA cA lB cB : Nat) (xs ys : List Nat) (w : World) (hA : cf w aoA xs) (hB : cf w aoB ys) (hlA : lA = xs.length) (hlB : lB = ys.length) (hmA : lA <= 17592186044416) (hmB : lB <= 17592186044416) :
 Calls Try.prog 93 #[.slice aoA lA cA, .slice aoB lB cB] w fun e w' => ∃ b zs, e = .returned (.slice (some ⟨b, 0, none⟩) (max lA lB + 1) (max lA lB + 1)) /\ r6 w w' b zs /\ zs.length = max lA lB + 1 /\ aa zs = aa xs + aa ys := by
 subst hlA hlB;go_enter Try.func93, Try.ntmps93;go_wp2_with (first
  | (at_make; refine dx rfl _ _ rfl (max xs.length ys.length + 1) (max xs.length ys.length + 1) rfl rfl (by omega) (by omega) (Nat.le_refl _) (by omega) ?_; intro b w1 hm1)
  | (with_reducible show wpList _ _ _ (⟨some 15, _, _, _, _, _⟩ :: _) _ _; refine lH rfl _ _ rfl (hA.below hm1.below) rfl hm1.row rfl rfl (by simp) ?_; intro w2 hr2 hg2; have hb2 := hm1.below.grown hg2 hm1.below.size (fun k e => by cases e; exact Nat.le_of_eq hm1.at_.symm)))
 have hge : w.heap.size <= b := Nat.le_of_eq hm1.at_.symm;have hcur : (splice (List.replicate (max xs.length ys.length + 1) 0) 0 (xs.take (max xs.length ys.length + 1))).length = max xs.length ys.length + 1 := by
  rw [length_splice _ _ _ (by simp [List.length_take]; omega)]; simp
 have hv : aa (splice (List.replicate (max xs.length ys.length + 1) 0) 0 (xs.take (max xs.length ys.length + 1))) = aa xs := by
  have : xs.take (max xs.length ys.length + 1) = xs := List.take_of_length_le (by omega);rw [this];simp only [splice, List.take_zero, List.nil_append, Nat.zero_add, List.drop_replicate];exact fi _ _
 have hok2 : Ok (splice (List.replicate (max xs.length ys.length + 1) 0) 0 (xs.take (max xs.length ys.length + 1))) := by
  unfold splice;exact (Ok.replicate _).take _ |>.append ((hA.ok.take _).append ((Ok.replicate _).drop _))
 obtain ⟨cu, hcu⟩ : ∃ cu, cu = splice (List.replicate (max xs.length ys.length + 1) 0) 0 (xs.take (max xs.length ys.length + 1)) := ⟨_, rfl⟩;rw [<- hcu] at hcur hv hok2 hr2;clear hcu;refine (kN _ aoB b 0 _ _ _ cB ys _ _ hr2 hok2 (.inr rfl) (by rw [hcur]; omega) (hB.below hb2) (hB.apart hge) rfl (by omega) (by rw [hcur]; omega)).mono ?_;rintro e w3 ⟨rfl, cur', cr, hR, hcr, hs, he⟩;go_wp2;go_ret;have hl : cur'.length = max xs.length ys.length + 1 := by rw [hR.len, hcur]
 refine ⟨b, cur', rfl, ⟨hR.row, hR.ok, hge, hR.below hb2 hge hb2.size⟩, hl, ?_⟩;exact wY hl hcur (by omega) (by omega) hA.ok hB.ok hR.ok hv he hcr
theorem cY (x y : Nat) (hx : x < W) (hy : y < W) (w : World) :
 Calls Try.prog 92 #[.int .u64 (x : Int), .int .u64 (y : Int)] w fun e w' => e = .returned (.tuple #[.int .u64 ((aX x y : Nat) : Int), .int .u64 ((aE x y : Nat) : Int)]) /\ w = w' :=
 (Try.bits_Mul64 x y hx hy w).mono fun _ _ h => ⟨h.1, h.2.symm⟩
set_option maxHeartbeats 1000000 in
theorem zb (aoA aoB : Option Addr) (b lz cz lA cA lB cB : Nat) (xs ys : List Nat) (w : World) (hrow : ah w b 51 ((List.replicate (lA + lB) 0).map wv)) (hA : cf w aoA xs) (hB : cf w aoB ys)
 (hlA : lA = xs.length) (hlB : lB = ys.length) (hm : lA + lB <= 35184372088832) (hlz : lz = lA + lB)
 (hneA : iT aoA xs b) (hneB : iT aoB ys b) :
 Calls Try.prog 80 #[.slice (some ⟨b, 0, none⟩) lz cz, .slice aoA lA cA, .slice aoB lB cB] w fun e w' => e = .returned (.tuple #[]) /\ ∃ cur', dN w w' b (List.replicate (lA + lB) 0) cur' /\ aa cur' = aa xs * aa ys := by
 subst hlA hlB hlz;go_enter Try.func80, Try.ntmps80;go_wp2;go_loopw [16] (fun i wr => ∃ (k : Nat) (cu : List Nat), k <= xs.length /\ i = .int .i64 k /\ dN w wr b (List.replicate (xs.length + ys.length) 0) cu /\ Hid (∀ j, k + ys.length <= j -> gw cu j = 0) /\ Hid (aa cu = aa (xs.take k) * aa ys)) (fun i _ => xs.length - (intOf i).toNat)
 case atStart => exact ⟨0, _, Nat.zero_le _, rfl, ⟨hrow, Ok.replicate _, rfl, World.grownBy.refl _ _⟩, Lib.hid (fun j _ => by simp [gw, List.getD_eq_getElem?_getD, List.getElem?_replicate]; split <;> rfl), Lib.hid (by rw [fe]; simp [aa])⟩
 case round =>
  obtain ⟨k, cu, hk, rfl, hR, Hz, He⟩ := hrel;by_cases hlt : k < xs.length
  · obtain ⟨b1, o1, rfl, hb1, hc1⟩ := (hA.grown hR.grown hneA).pos (by omega);have e1 := hc1 k hlt;clear hc1;by_cases hx0 : gw xs k = 0
    · have t1 : (((gw xs k : Nat) : Int) == 0) = true := by rw [hx0]; rfl
      have Hx0 := Lib.hid hx0; clear hx0;go_wp2;go_roundw
      case rel => exact ⟨k + 1, cu, by omega, by go_num, hR, Lib.hid (fun j hj => Hz.out j (by omega)), Lib.hid (by rw [aB, Hx0.out, Nat.mul_zero, Nat.add_zero]; exact He.out)⟩
      case measure => simp [intOf]; omega
    · have t1 : (((gw xs k : Nat) : Int) == 0) = false := by rw [beq_eq_false_iff_ne]; omega
      have Hx0 := Lib.hid hx0; clear hx0;obtain ⟨wo, rfl⟩ : ∃ wo : World, wo = wr := ⟨_, rfl⟩;go_wp2;go_loopw [8, 25] (fun c i wr => ∃ (j cr : Nat) (cv : List Nat), j <= ys.length /\ i = .int .i64 j /\ c = .int .u64 cr /\ Hid (cr < W) /\ dN w wr b (List.replicate (xs.length + ys.length) 0) cv /\ Hid (∀ j, k + ys.length <= j -> gw cv j = 0) /\
       Hid (aa cv + W ^ (k + j) * cr = aa cu + W ^ k * (gw xs k * aa (ys.take j)))) (fun _ i _ => ys.length - (intOf i).toNat)
      case atStart => exact ⟨0, 0, cu, Nat.zero_le _, rfl, rfl, Lib.hid aS, hR, Hz, Lib.hid (by simp [aa])⟩
      case round =>
       obtain ⟨j, cr, cv, hj, rfl, rfl, Hcr, hV, Hvz, Hve⟩ := hrel;by_cases hlt2 : j < ys.length
       · obtain ⟨b2, o2, rfl, hb2, hc2⟩ := (hB.grown hV.grown hneB).pos (by omega);have e2 := hc2 j hlt2;clear hc2;have hlen := hV.len;rw [List.length_replicate] at hlen;have hcell := hV.row.word (i := k + j) (by omega);have hfree := hV.row.free (k + j);have hbd := iV (hV.ok.gw (k + j)) (hA.ok.gw k) (hB.ok.gw j) Hcr.out;have Hlen := Lib.hid hlen; clear hlen;have Hbd := Lib.hid hbd; clear hbd;have q1 : ((aX (gw xs k) (gw ys j) : Nat) : Int) + ((aL (aE (gw xs k) (gw ys j)) cr 0 : Nat) : Int) <= 18446744073709551615 := by have := Hbd.out.1; unfold W at this; omega
         have q2 : ((aX (gw xs k) (gw ys j) : Nat) : Int) + ((aL (aE (gw xs k) (gw ys j)) cr 0 : Nat) : Int) + ((aL (gw cv (k + j)) (aU (aE (gw xs k) (gw ys j)) cr 0) 0 : Nat) : Int) <= 18446744073709551615 := by have := Hbd.out.2.1; unfold W at this; omega
         go_wp2_with (first
          | (go_at_call 92; refine (cY _ _ (hA.ok.gw k) (hB.ok.gw j) _).mono ?_; rintro e w' ⟨rfl, rfl⟩)
          | (with_reducible show wpList _ _ _ (⟨some 39, _, _, _, _, _⟩ :: _) _ _; refine bP rfl _ _ _ _ rfl (aE (gw xs k) (gw ys j)) cr 0 (by omega) rfl rfl rfl rfl rfl rfl ?_)
          | (with_reducible show wpList _ _ _ (⟨some 57, _, _, _, _, _⟩ :: _) _ _; refine bP rfl _ _ _ _ rfl (gw cv (k + j)) (aU (aE (gw xs k) (gw ys j)) cr 0) 0 (by omega) rfl rfl rfl rfl rfl rfl ?_))
         go_roundw
         case rel =>
          exact ⟨j + 1, _, _, by omega, by go_num, rfl, Lib.hid Hbd.out.2.1, hV.set (k + j) _ (dS _ _ _), Lib.hid (fun i hi => by rw [ba (by omega)]; exact Hvz.out i hi),
           Lib.hid (tF (by have := Hlen.out; omega) Hve.out (hV.ok.gw _) (hA.ok.gw k) (hB.ok.gw j) Hcr.out)⟩
         case measure => simp [intOf]; omega
       · have hj1 : j = ys.length := by omega
         subst hj1;have hlen := hV.len;rw [List.length_replicate] at hlen;have hcell := hV.row.word (i := k + ys.length) (by omega);have hfree := hV.row.free (k + ys.length);have Hlen := Lib.hid hlen; clear hlen;go_wp2;go_roundw
         case rel =>
          refine ⟨k + 1, _, by omega, by go_num, hV.set (k + ys.length) cr Hcr.out, Lib.hid (fun i hi => by rw [ba (by omega)]; exact Hvz.out i (by omega)), Lib.hid ?_⟩;have e3 := ke (l := cv) (k := k + ys.length) (v := cr) (by have := Hlen.out; omega);rw [Hvz.out _ (Nat.le_refl _), Nat.mul_zero, Nat.add_zero] at e3;rw [e3, Hve.out, List.take_of_length_le (Nat.le_refl _), He.out, aB, Nat.add_mul, Nat.mul_assoc]
         case measure => simp [intOf]; omega
  · have hk1 : k = xs.length := by omega
    subst hk1;go_wp2
    go_end0
    refine ⟨rfl, cu, hR, ?_⟩;have := He.out
    rwa [List.take_of_length_le (Nat.le_refl _)] at this
theorem eG (l : List Nat) (k : Nat) : aa (l.drop k) = gw l k + W * aa (l.drop (k + 1)) := by
 by_cases hk : k < l.length
 · rw [List.drop_eq_getElem_cons hk]; simp [aa, gw, List.getD_eq_getElem?_getD, List.getElem?_eq_getElem hk]
 · rw [List.drop_eq_nil_of_le (by omega), List.drop_eq_nil_of_le (by omega)];simp [aa, gw, List.getD_eq_getElem?_getD, List.getElem?_eq_none (by omega : l.length <= k)]
theorem mj (l : List Nat) (k v : Nat) : (l.set k v).drop (k + 1) = l.drop (k + 1) := by
 apply List.ext_getElem?;intro j;simp only [List.getElem?_drop, List.getElem?_set];have : ¬ k = k + 1 + j := by omega
 simp [this]
theorem iR {l : List Nat} {k v : Nat} (hk : k < l.length) : aa ((l.set k v).drop k) = v + W * aa (l.drop (k + 1)) := by
 rw [eG, gR hk, mj]
theorem mv {Q r y d M : Nat} (hy : 0 < y) (hM : Q = M / y) (hr : r = M % y) : iW r d y + W * Q = (d + W * M) / y /\ kq r d y = (d + W * M) % y := by
 have h1 := Nat.div_add_mod M y;rw [<- hM, <- hr] at h1;have e : d + W * M = (r * W + d) + y * (W * Q) := by
  rw [<- h1, Nat.mul_add, Nat.mul_left_comm W y Q, Nat.mul_comm W r]; omega
 unfold iW kq;rw [e, Nat.add_mul_div_left _ _ hy, Nat.add_mul_mod_self_left];exact ⟨rfl, rfl⟩
theorem ah.lD {w w' : World} {b : Nat} {t : TypeId} {cs : List Value} (h : ah w b t cs) (hg : w.grownBy w' none) : ah w' b t cs := by
 unfold ah; rw [hg.block b h.lt (fun e => by cases e)]; exact h
theorem Below.lD {B : Nat} {w0 w w' : World} (h : Below B w0 w) (hg : w.grownBy w' none) (hB : B <= w.heap.size) : Below B w0 w' := h.grown hg hB (fun k e => by cases e)
set_option maxRecDepth 100000 in
set_option maxHeartbeats 1000000 in
theorem yU (ao : Option Addr) (len cap : Nat) (ws : List Nat) (y : Nat) (w : World) (hA : cf w ao ws) (hl : len = ws.length) (hm : len <= 17592186044416) (hy0 : y ≠ 0) (hy : y < W) :
 Calls Try.prog 96 #[.slice ao len cap, .int .u64 (y : Int)] w fun e w' =>
  (∃ ao' cap', e = .returned (.tuple #[.slice ao' (ag (aa ws / y)) cap', .int .u64 ((aa ws % y : Nat) : Int), .int .i64 0]) /\ cJ w' w.heap.size ao' (ag (aa ws / y)) cap' (ez (aa ws / y))) /\ Below w.heap.size w w' := by
 subst hl;have t0 : (((y : Nat) : Int) == 0) = false := by rw [beq_eq_false_iff_ne]; omega
 have hwl := dh hA.ok;have Hy := Lib.hid hy; clear hy;go_enter Try.func96, Try.ntmps96;go_wp2_with (go_at_call 45; refine (su _ _ _ ws _ hA rfl hm).mono ?_; rintro e w1 ⟨b, rfl, hN⟩)
 generalize hD : ez (aa ws) = D at *;have hDl : ag (aa ws) = D.length := by rw [<- hD]; rfl
 have hDv : aa D = aa ws := by rw [<- hD, ck]
 have HD := Lib.hid hD; clear hD;have HDv := Lib.hid hDv; clear hDv;generalize ag (aa ws) = n at *;have HDl := Lib.hid hDl; clear hDl;go_loopw [8, 9] (fun r i wr => ∃ (k rest : Nat) (cu : List Nat), k <= n /\ i = .int .i64 ((k : Int) - 1) /\ r = .int .u64 (rest : Int) /\ ah wr b 51 (cu.map wv) /\ Ok cu /\ Hid (cu.length = n) /\ Below w.heap.size w wr /\
  Hid (∀ j, j < k -> gw cu j = gw D j) /\ Hid (aa (cu.drop k) = aa (D.drop k) / y) /\ Hid (rest = aa (D.drop k) % y)) (fun _ i _ => (intOf i + 1).toNat)
 case atStart => exact ⟨n, 0, D, Nat.le_refl _, rfl, rfl, hN.row, hN.ok, HDl.out.symm, hN.below, Lib.hid (fun _ _ => rfl),
  Lib.hid (by rw [List.drop_eq_nil_of_le (by have := HDl.out; omega)]; simp [aa]), Lib.hid (by rw [List.drop_eq_nil_of_le (by have := HDl.out; omega)]; simp [aa])⟩
 case round =>
  obtain ⟨k, rest, cu, hk, rfl, rfl, hrow, hok, Hlen, hb, Hs, Hq, Hr⟩ := hrel;by_cases h0 : 0 < k
  · have hcell := hrow.word (i := k - 1) (by have := Hlen.out; omega);have hyp : 0 < y := by omega
    have hrl : rest < y := by rw [Hr.out]; exact Nat.mod_lt _ hyp
    have Hrl := Lib.hid hrl; clear hrl;go_wp2_with (go_at_call 98; refine (wI rest (gw cu (k - 1)) y _ Hrl.out (hok.gw _) Hy.out).mono ?_; rintro e w3 ⟨rfl, hg3⟩; have hc3 := (hrow.lD hg3).word (i := k - 1) (by have := Hlen.out; omega); have hf3 := (hrow.lD hg3).free (k - 1))
    go_roundw
    case rel =>
     have hlt : k - 1 < cu.length := by have := Hlen.out; omega
     have hkk : k - 1 + 1 = k := by omega
     have hst := mv (d := gw D (k - 1)) hyp Hq.out Hr.out;have hd2 : iW rest (gw cu (k - 1)) y < W := by
      unfold iW;rw [Nat.div_lt_iff_lt_mul hyp];have h1 : (rest + 1) * W <= y * W := Nat.mul_le_mul_right _ Hrl.out;have h2 := hok.gw (k - 1);rw [Nat.add_mul, Nat.one_mul] at h1;rw [Nat.mul_comm W y]; omega
     refine ⟨k - 1, _, _, by omega, by go_num, rfl, (hrow.lD hg3).cg (k - 1) _, hok.set _ _ hd2, Lib.hid (by rw [List.length_set]; exact Hlen.out), (Below.lD hb hg3 hb.size).setCell hN.ge _,
      Lib.hid (fun j hj => by rw [ba (by omega)]; exact Hs.out j (by omega)), Lib.hid ?_, Lib.hid ?_⟩
     · rw [iR hlt, hkk, Hs.out _ (by omega), hst.1, eG D (k - 1), hkk]
     · rw [Hs.out _ (by omega), hst.2, eG D (k - 1), hkk]
    case measure => simp [intOf]; omega
  · have hk0 : k = 0 := by omega
    subst hk0;have hv : aa cu = aa ws / y := by have := Hq.out; rw [List.drop_zero, List.drop_zero, HDv.out] at this; exact this
    have hr : rest = aa ws % y := by have := Hr.out; rw [List.drop_zero, HDv.out] at this; exact this
    have Hv := Lib.hid hv; clear hv;have Hr2 := Lib.hid hr; clear hr;have hnb : n <= 17592186044416 := by omega
    go_wp2_with (go_at_call 45; refine (dU _ _ _ cu _ (hrow.kx hok) Hlen.out.symm hnb).mono ?_; rintro e w4 ⟨⟨ao', cap', rfl, h1⟩, h2⟩)
    go_ret3;rw [Hv.out] at h1 ⊢;refine ⟨⟨ao', cap', ?_, h1.mono hb.size⟩, hb.trans (h2.mono hb.size)⟩;rw [<- Hr2.out]; rfl
theorem x4 {x s c : Nat} (hx : x < W) (hs : s < 64) (hc : c < 2 ^ s) :
 rL (da x s) c + W * (x * 2 ^ s / W) = x * 2 ^ s + c /\ rL (da x s) c < W /\ x * 2 ^ s / W < 2 ^ s /\ (0 < s -> fu x (64 - s) = x * 2 ^ s / W) /\ (s = 0 -> x * 2 ^ s / W = 0) := by
 have hw : W = 2 ^ (64 - s) * 2 ^ s := iB (by omega);have hp : 0 < 2 ^ s := Nat.pow_pos (by omega);have e1 : da x s = 2 ^ s * (x % 2 ^ (64 - s)) := by
  unfold da; rw [hw, Nat.mul_mod_mul_right, Nat.mul_comm]
 have e2 : x * 2 ^ s / W = x / 2 ^ (64 - s) := by rw [hw, Nat.mul_div_mul_right _ _ hp]
 have e3 : rL (da x s) c = da x s + c := by
  unfold rL; rw [e1, Nat.or_comm, mY hc, Nat.add_comm]
 have h4 : x / 2 ^ (64 - s) < 2 ^ s := by
  rw [Nat.div_lt_iff_lt_mul (Nat.pow_pos (by omega)), Nat.mul_comm, <- hw]; exact hx
 refine ⟨?_, ?_, by rw [e2]; exact h4, fun _ => by unfold fu; exact e2.symm, ?_⟩
 · rw [e3];have := Nat.mod_add_div (x * 2 ^ s) W;unfold da; omega
 · rw [e3, e1];have h5 : x % 2 ^ (64 - s) + 1 <= 2 ^ (64 - s) := Nat.mod_lt _ (Nat.pow_pos (by omega));have h6 := Nat.mul_le_mul_left (2 ^ s) h5;rw [Nat.mul_add, Nat.mul_comm (2 ^ s) (2 ^ (64 - s)), <- hw] at h6;omega
 · rintro rfl;rw [Nat.pow_zero, Nat.mul_one]; exact Nat.div_eq_of_lt hx
theorem kK {ls ws : List Nat} {k c s v d : Nat} (hk : k < ls.length) (h : aa (ls.take k) + W ^ k * c = 2 ^ s * aa (ws.take k)) (hv : v + W * d = gw ws k * 2 ^ s + c) :
 aa ((ls.set k v).take (k + 1)) + W ^ (k + 1) * d = 2 ^ s * aa (ws.take (k + 1)) := by
 rw [cS hk, aB, Nat.mul_add, <- h, Nat.pow_succ];have : W ^ k * (v + W * d) = W ^ k * (gw ws k * 2 ^ s + c) := by rw [hv]
 rw [Nat.mul_add, Nat.mul_add, <- Nat.mul_assoc] at this;have e : 2 ^ s * (W ^ k * gw ws k) = W ^ k * (gw ws k * 2 ^ s) := by rw [Nat.mul_left_comm, Nat.mul_comm (2 ^ s)]
 omega
set_option maxRecDepth 100000 in
set_option maxHeartbeats 1000000 in
theorem n6 (ao : Option Addr) (len cap : Nat) (ws : List Nat) (s n : Nat) (w : World) (hA : cf w ao ws) (hl : len = ws.length) (hm : len <= 17592186044416) (hs : s < 64) (hn : n <= 17592186044417) (hln : len <= n) (hfit : 2 ^ s * aa ws < W ^ n) :
 Calls Try.prog 100 #[.slice ao len cap, .int .u64 (s : Int), .int .i64 (n : Int)] w fun e w' =>
  ∃ (b : Nat) (zs : List Nat), e = .returned (.slice (some ⟨b, 0, none⟩) n n) /\ r6 w w' b zs /\ zs.length = n /\ aa zs = 2 ^ s * aa ws := by
 subst hl;have hs' : (s : Int) < 64 := by omega
 have Hfit := Lib.hid hfit; clear hfit;go_enter Try.func100, Try.ntmps100;go_wp2_with (at_make; refine dx rfl _ _ rfl n n rfl rfl rfl rfl (Nat.le_refl _) (by omega) ?_; intro b w1 hm1)
 have hB1 : w.heap.size <= b := Nat.le_of_eq hm1.at_.symm;go_loopw [8, 15] (fun c i wr => ∃ (k cr : Nat) (ls : List Nat), k <= n /\ i = .int .i64 k /\ c = .int .u64 cr /\ cr < W /\ Hid (cr < 2 ^ s) /\ Hid (ls.length = n) /\ Ok ls /\ ah wr b 51 (ls.map wv) /\ Below w.heap.size w wr /\
  Hid (aa (ls.take k) + W ^ k * cr = 2 ^ s * aa (ws.take k))) (fun _ i _ => n - (intOf i).toNat)
 case atStart => exact ⟨0, 0, _, Nat.zero_le _, rfl, rfl, aS, Lib.hid (Nat.pow_pos (by omega)), Lib.hid (by simp), Ok.replicate _, hm1.row, hm1.below, Lib.hid (by simp [aa])⟩
 case round =>
  obtain ⟨k, cr, ls, hk, rfl, rfl, hcW, Hcr, Hll, hok, hrow, hbl, Heq⟩ := hrel;by_cases hlt : k < n
  · have hcell := hrow.word (i := k) (by have := Hll.out; omega);have hfree := hrow.free k;have hst := x4 (hA.ok.gw k) hs Hcr.out;have hvW := hst.2.1;have hdW : gw ws k * 2 ^ s / W < W := Nat.lt_of_lt_of_le hst.2.2.1 (by rw [ug]; exact Nat.pow_le_pow_right (by omega) (by omega));have Hst := Lib.hid hst; clear hst;have hxW := hA.ok.gw k;have hshW : da (gw ws k) s < W := iu _;have hk' : k < ls.length := by have := Hll.out; omega
    have Hk' := Lib.hid hk'; clear hk';by_cases hlw : k < ws.length
    · obtain ⟨b1, o1, rfl, hb1, hc1⟩ := (hA.below hbl).pos (by omega);have e1 := hc1 k hlw;clear hc1;have t1 : decide ((k : Int) < (ws.length : Int)) = true := by simp; omega
      by_cases h0 : 0 < s
      · have t2 : decide ((0 : Int) < (s : Int)) = true := by simp; omega
        have He4 := Lib.hid (Hst.out.2.2.2.1 h0);go_wp2_with (first
         | (with_reducible show wpList _ _ _ (⟨some 30, _, _, _, _, _⟩ :: _) _ _; refine lG rfl _ _ rfl (gw ws k) s (by omega) rfl rfl rfl rfl ?_)
         | (with_reducible show wpList _ _ _ (⟨some 32, _, _, _, _, _⟩ :: _) _ _; refine qb rfl _ _ rfl (da (gw ws k) s) cr hshW hcW rfl rfl rfl rfl ?_)
         | (with_reducible show wpList _ _ _ (⟨some 39, _, _, _, _, _⟩ :: _) _ _; refine lr rfl _ _ rfl (gw ws k) (64 - s) hxW (by omega) rfl rfl rfl (by omega) ?_; rw [He4.out]))
        go_roundw
        case rel =>
         exact ⟨k + 1, _, _, by omega, by go_num, rfl, hdW, Lib.hid Hst.out.2.2.1, Lib.hid (by rw [List.length_set]; exact Hll.out), hok.set _ _ hvW, hrow.cg k _, hbl.setCell hB1 _, Lib.hid (kK Hk'.out Heq.out Hst.out.1)⟩
        case measure => simp [intOf]; omega
      · have t2 : decide ((0 : Int) < (s : Int)) = false := by simp; omega
        have He4 := Lib.hid (Hst.out.2.2.2.2 (by omega));go_wp2_with (first
         | (with_reducible show wpList _ _ _ (⟨some 30, _, _, _, _, _⟩ :: _) _ _; refine lG rfl _ _ rfl (gw ws k) s (by omega) rfl rfl rfl rfl ?_)
         | (with_reducible show wpList _ _ _ (⟨some 32, _, _, _, _, _⟩ :: _) _ _; refine qb rfl _ _ rfl (da (gw ws k) s) cr hshW hcW rfl rfl rfl rfl ?_))
        go_roundw
        case rel =>
         exact ⟨k + 1, 0, _, by omega, by go_num, rfl, aS, Lib.hid (Nat.pow_pos (by omega)), Lib.hid (by rw [List.length_set]; exact Hll.out), hok.set _ _ hvW, hrow.cg k _, hbl.setCell hB1 _, Lib.hid (kK Hk'.out Heq.out (by have := Hst.out.1; rw [He4.out] at this; exact this))⟩
        case measure => simp [intOf]; omega
    · have t1 : decide ((k : Int) < (ws.length : Int)) = false := by simp; omega
      have hz : gw ws k = 0 := gd (by have := aD ws; omega);have Hz := Lib.hid hz; clear hz;have hor : rL 0 cr = cr := by simp [rL]
      have Hor := Lib.hid hor; clear hor;by_cases h0 : 0 < s
      · have t2 : decide ((0 : Int) < (s : Int)) = true := by simp; omega
        go_wp2_with ((with_reducible show wpList _ _ _ (⟨some 32, _, _, _, _, _⟩ :: _) _ _; refine qb rfl _ _ rfl 0 cr aS hcW rfl rfl rfl rfl ?_; rw [Hor.out]))
        go_roundw
        case rel =>
         exact ⟨k + 1, 0, _, by omega, by go_num, rfl, aS, Lib.hid (Nat.pow_pos (by omega)), Lib.hid (by rw [List.length_set]; exact Hll.out), hok.set _ _ hcW, hrow.cg k _, hbl.setCell hB1 _, Lib.hid (kK Hk'.out Heq.out (by rw [Hz.out]; omega))⟩
        case measure => simp [intOf]; omega
      · have t2 : decide ((0 : Int) < (s : Int)) = false := by simp; omega
        go_wp2_with ((with_reducible show wpList _ _ _ (⟨some 32, _, _, _, _, _⟩ :: _) _ _; refine qb rfl _ _ rfl 0 cr aS hcW rfl rfl rfl rfl ?_; rw [Hor.out]))
        go_roundw
        case rel =>
         exact ⟨k + 1, 0, _, by omega, by go_num, rfl, aS, Lib.hid (Nat.pow_pos (by omega)), Lib.hid (by rw [List.length_set]; exact Hll.out), hok.set _ _ hcW, hrow.cg k _, hbl.setCell hB1 _, Lib.hid (kK Hk'.out Heq.out (by rw [Hz.out]; omega))⟩
        case measure => simp [intOf]; omega
  · have hk0 : k = n := by omega
    subst hk0;go_wp2;go_ret;refine ⟨b, ls, rfl, ⟨hrow, hok, hB1, hbl⟩, Hll.out, ?_⟩;have e := Heq.out;rw [List.take_of_length_le (by have := Hll.out; omega), List.take_of_length_le (by omega)] at e;have hz : cr = 0 := by
     refine Decidable.byContradiction fun hne => ?_;have h1 : W ^ k * 1 <= W ^ k * cr := Nat.mul_le_mul_left _ (by omega);have h2 := Hfit.out;rw [<- e] at h2;omega
    subst hz;rw [Nat.mul_zero, Nat.add_zero] at e;exact e
theorem n4 {d x c : Nat} (hd : d < W) (hx : x < W) (hc : c < W) : aX d x + aL (aE d x) c 0 < W /\ aU (aE d x) c 0 + W * (aX d x + aL (aE d x) c 0) = d * x + c := by
 have h := iV (g := 0) aS hd hx hc;have e1 := mul_eq d x;have e2 := add_eq (aE d x) c 0;refine ⟨h.1, ?_⟩;rw [Nat.mul_add]; omega
theorem tC {cu cur ys : List Nat} {o k c l d P : Nat} (hlt : o + k < cu.length) (he : sv cu o k + d * aa (ys.take k) = sv cur o k + W ^ k * (c + l)) (hg : gw cu (o + k) = gw cur (o + k))
 (hx : gw cu (o + k) < W) (hd : d < W) (hy : gw ys k < W) (hc : c < W) (hl : l <= 1) (hP : P = aU (aE d (gw ys k)) c 0) :
 sv (cu.set (o + k) (db (gw cu (o + k)) P l)) o (k + 1) + d * aa (ys.take (k + 1)) =
  sv cur o (k + 1) + W ^ (k + 1) * ((aX d (gw ys k) + aL (aE d (gw ys k)) c 0) + rB (gw cu (o + k)) P l) := by
 have hPW : P < W := by rw [hP]; exact dS _ _ _
 have e := sub_eq hx hPW hl;have e2 := (n4 hd hy hc).2;rw [<- hP] at e2;rw [fq hlt, bT cur, <- hg, aB, Nat.pow_succ, Nat.mul_add d];generalize aX d (gw ys k) + aL (aE d (gw ys k)) c 0 = C at *;generalize db (gw cu (o + k)) P l = S at *;generalize rB (gw cu (o + k)) P l = L at *;have f1 : W ^ k * (S + P + l) = W ^ k * (gw cu (o + k) + W * L) := by rw [e]
 have f2 : W ^ k * (P + W * C) = W ^ k * (d * gw ys k + c) := by rw [e2]
 rw [Nat.mul_add, Nat.mul_add, Nat.mul_add] at f1;rw [Nat.mul_add, Nat.mul_add] at f2;have f3 : d * (W ^ k * gw ys k) = W ^ k * (d * gw ys k) := Nat.mul_left_comm ..;have f4 : W ^ k * W * (C + L) = W ^ k * (W * C) + W ^ k * (W * L) := by rw [Nat.mul_assoc, Nat.mul_add, Nat.mul_add]
 rw [Nat.mul_add] at he;rw [f3, f4];omega
theorem tf {cu cur : List Nat} {o k c l M : Nat} (hlt : o + k < cu.length) (he : sv cu o k + M = sv cur o k + W ^ k * (c + l)) (hg : gw cu (o + k) = gw cur (o + k))
 (hx : gw cu (o + k) < W) (hc : c < W) (hl : l <= 1) :
 sv (cu.set (o + k) (db (gw cu (o + k)) c l)) o (k + 1) + M = sv cur o (k + 1) + W ^ (k + 1) * rB (gw cu (o + k)) c l := by
 have e := sub_eq hx hc hl;rw [fq hlt, bT cur, <- hg, Nat.pow_succ];generalize db (gw cu (o + k)) c l = S at *;generalize rB (gw cu (o + k)) c l = L at *;have f1 : W ^ k * (S + c + l) = W ^ k * (gw cu (o + k) + W * L) := by rw [e]
 rw [Nat.mul_add, Nat.mul_add, Nat.mul_add] at f1;rw [Nat.mul_add] at he;rw [Nat.mul_assoc];omega
set_option maxRecDepth 100000 in
set_option maxHeartbeats 1000000 in
theorem zf (ao : Option Addr) (b o lz cz len cap : Nat) (ws cur : List Nat) (d : Nat) (w : World) (hrow : ah w b 51 (cur.map wv)) (hok : Ok cur) (hlz : lz = len + 1) (hfit : o + lz <= cur.length)
 (hA : cf w ao ws) (hne : iT ao ws b) (hl : len = ws.length) (hm : cur.length <= 35184372088832) (hd : d < W) :
 Calls Try.prog 102 #[.slice (some ⟨b, o, none⟩) lz cz, .slice ao len cap, .int .u64 (d : Int)] w fun e w' => ∃ (cur' : List Nat) (lent : Nat), e = .returned (.bool (((lent : Nat) : Int) != 0)) /\ dN w w' b cur cur' /\ lent <= 1 /\
  (∀ j, j < o ∨ o + lz <= j -> gw cur' j = gw cur j) /\ sv cur' o lz + d * aa ws = sv cur o lz + W ^ lz * lent := by
 subst hl hlz;go_enter Try.func102, Try.ntmps102;go_wp2;go_loopw [7, 8, 16] (fun c l i wr => ∃ (k cr lt : Nat) (cu : List Nat), k <= ws.length /\ i = .int .i64 k /\ c = .int .u64 cr /\ l = .int .u64 lt /\ Hid (cr < W) /\ lt <= 1 /\ dN w wr b cur cu /\ Hid (∀ j, j < o ∨ o + k <= j -> gw cu j = gw cur j) /\
  Hid (sv cu o k + d * aa (ws.take k) = sv cur o k + W ^ k * (cr + lt))) (fun _ _ i _ => ws.length - (intOf i).toNat)
 case atStart => exact ⟨0, 0, 0, cur, Nat.zero_le _, rfl, rfl, rfl, Lib.hid aS, by omega, ⟨hrow, hok, rfl, World.grownBy.refl _ _⟩, Lib.hid (fun _ _ => rfl), Lib.hid (by simp [fZ, aa])⟩
 case round =>
  obtain ⟨k, cr, lt, cu, hk, rfl, rfl, rfl, Hcr, hlt1, hR, Hs, He⟩ := hrel;have hlen := hR.len;have hcell := hR.row.word (i := o + k) (by omega);have hfree := hR.row.free (o + k);have Hlen := Lib.hid hlen; clear hlen;by_cases hlt : k < ws.length
  · obtain ⟨b1, o1, rfl, hb1, hc1⟩ := (hA.grown hR.grown hne).pos (by omega);have e1 := hc1 k hlt;clear hc1;have hbd := n4 hd (hA.ok.gw k) Hcr.out;have Hbd := Lib.hid hbd.1; clear hbd;have q1 : ((aX d (gw ws k) : Nat) : Int) + ((aL (aE d (gw ws k)) cr 0 : Nat) : Int) <= 18446744073709551615 := by have := Hbd.out; unfold W at this; omega
    go_wp2_with (first
     | (go_at_call 92; refine (cY _ _ hd (hA.ok.gw k) _).mono ?_; rintro e w' ⟨rfl, rfl⟩)
     | (with_reducible show wpList _ _ _ (⟨some 31, _, _, _, _, _⟩ :: _) _ _; refine bP rfl _ _ _ _ rfl (aE d (gw ws k)) cr 0 (by omega) rfl rfl rfl rfl rfl rfl ?_)
     | (with_reducible show wpList _ _ _ (⟨some 46, _, _, _, _, _⟩ :: _) _ _; refine fA rfl _ _ _ _ rfl (gw cu (o + k)) (aU (aE d (gw ws k)) cr 0) lt hlt1 rfl rfl rfl rfl rfl rfl ?_))
    go_roundw
    case rel =>
     exact ⟨k + 1, _, _, _, by omega, by go_num, rfl, rfl, Lib.hid Hbd.out, jD _ _ _, hR.set (o + k) _ (fF _ _ _),
      Lib.hid (fun j hj => by rw [ba (by omega)]; exact Hs.out j (by omega)),
      Lib.hid (tC (by have := Hlen.out; omega) He.out (Hs.out _ (by omega)) (hR.ok.gw _) hd (hA.ok.gw k) Hcr.out hlt1 rfl)⟩
    case measure => simp [intOf]; omega
  · have hk1 : k = ws.length := by omega
    subst hk1;go_wp2_with (with_reducible show wpList _ _ _ (⟨some 62, _, _, _, _, _⟩ :: _) _ _; refine fA rfl _ _ _ _ rfl (gw cu (o + ws.length)) cr lt hlt1 rfl rfl rfl rfl rfl rfl ?_)
    go_ret;refine ⟨_, _, rfl, hR.set (o + ws.length) _ (fF _ _ _), jD _ _ _, fun j hj => by rw [ba (by omega)]; exact Hs.out j (by omega), ?_⟩;have := tf (by have := Hlen.out; omega) He.out (Hs.out _ (by omega)) (hR.ok.gw _) Hcr.out hlt1
    rwa [List.take_of_length_le (Nat.le_refl _)] at this
set_option maxRecDepth 100000 in
set_option maxHeartbeats 1000000 in
theorem yA (ao : Option Addr) (b o lz cz len cap : Nat) (ws cur : List Nat) (w : World) (hrow : ah w b 51 (cur.map wv)) (hok : Ok cur) (hlz : lz = len + 1) (hfit : o + lz <= cur.length)
 (hA : cf w ao ws) (hne : iT ao ws b) (hl : len = ws.length) (hm : cur.length <= 35184372088832) :
 Calls Try.prog 103 #[.slice (some ⟨b, o, none⟩) lz cz, .slice ao len cap] w fun e w' => e = .returned (.tuple #[]) /\ ∃ (cur' : List Nat) (cr : Nat), dN w w' b cur cur' /\
  (∀ j, j < o ∨ o + lz <= j -> gw cur' j = gw cur j) /\ sv cur' o lz + W ^ lz * cr = sv cur o lz + aa ws := by
 subst hl hlz;go_enter Try.func103, Try.ntmps103;go_wp2;go_loopw [4, 8] (fun c i wr => ∃ (k cr : Nat) (cu : List Nat), k <= ws.length /\ i = .int .i64 k /\ c = .int .u64 cr /\ cr <= 1 /\ dN w wr b cur cu /\ Hid (∀ j, j < o ∨ o + k <= j -> gw cu j = gw cur j) /\
  Hid (sv cu o k + W ^ k * cr = sv cur o k + aa (ws.take k))) (fun _ i _ => ws.length - (intOf i).toNat)
 case atStart => exact ⟨0, 0, cur, Nat.zero_le _, rfl, rfl, by omega, ⟨hrow, hok, rfl, World.grownBy.refl _ _⟩, Lib.hid (fun _ _ => rfl), Lib.hid (by simp [fZ, aa])⟩
 case round =>
  obtain ⟨k, cr, cu, hk, rfl, rfl, hcr, hR, Hs, He⟩ := hrel;have hlen := hR.len;have hcell := hR.row.word (i := o + k) (by omega);have hfree := hR.row.free (o + k);have Hlen := Lib.hid hlen; clear hlen;by_cases hlt : k < ws.length
  · obtain ⟨b1, o1, rfl, hb1, hc1⟩ := (hA.grown hR.grown hne).pos (by omega);have e1 := hc1 k hlt;clear hc1;have hadd := nB (gw cu (o + k)) (gw ws k) cr hcr;have i1 : (k : Int) < (ws.length : Int) + 1 := by omega
    have i2 : (k : Int) < (ws.length : Int) := by omega
    go_wp2
    go_region
    go_wp2;go_roundw
    case rel =>
     exact ⟨k + 1, _, _, by omega, by go_num, rfl, gZ (hR.ok.gw _) (hA.ok.gw k) hcr, (hR.set (o + k) _ (dS _ _ _)).drew,
      Lib.hid (fun j hj => by rw [ba (by omega)]; exact Hs.out j (by omega)),
      Lib.hid (fS (ws := ws) (by have := Hlen.out; omega) He.out (Hs.out _ (by omega)) (aB ws k))⟩
    case measure => simp [intOf]; omega
  · have hk1 : k = ws.length := by omega
    subst hk1;have hcW : cr < W := Nat.lt_of_le_of_lt hcr (by unfold W; omega);go_wp2_with (with_reducible show wpList _ _ _ (⟨some 34, _, _, _, _, _⟩ :: _) _ _; refine nS rfl _ _ rfl (gw cu (o + ws.length)) cr rfl rfl rfl rfl ?_)
    go_end0
    refine ⟨rfl, _, aL (gw cu (o + ws.length)) cr 0, hR.set (o + ws.length) _ (dS _ _ _), fun j hj => by rw [ba (by omega)]; exact Hs.out j (by omega), ?_⟩;have e := He.out;rw [List.take_of_length_le (Nat.le_refl _)] at e;have := fS (ws := ws) (o := o) (k := ws.length) (cr := cr) (y := 0) (by have := Hlen.out; omega) e (Hs.out _ (by omega)) (M := aa ws) (by omega);have e2 : aU (gw cu (o + ws.length)) cr 0 = aU (gw cu (o + ws.length)) 0 cr := by unfold aU; rw [Nat.add_zero]; rfl
    have e3 : aL (gw cu (o + ws.length)) cr 0 = aL (gw cu (o + ws.length)) 0 cr := by unfold aL; rw [Nat.add_zero]; rfl
    rw [e2, e3];exact this
def gq (u2 u1 u0 v1 v0 : Nat) : Nat := min (W - 1) (((u2 * W + u1) * W + u0) / (v1 * W + v0))
structure gY (u2 u1 u0 v1 v0 d rest : Nat) : Prop where
 eq : d * v1 + rest = u2 * W + u1
 le : gq u2 u1 u0 v1 v0 <= d
 lt : d < W
 rl : rest < W
theorem j7 {u2 u1 u0 v1 v0 d rest : Nat} (hv : 0 < v1) (heq : d * v1 + rest = u2 * W + u1) (hle : gq u2 u1 u0 v1 v0 <= d) (hlt : d < W) (hc : d * v0 <= rest * W + u0) : d = gq u2 u1 u0 v1 v0 := by
 apply Nat.le_antisymm _ hle;unfold gq;refine Nat.le_min.2 ⟨by omega, ?_⟩;have hV : 0 < v1 * W + v0 := by have := Nat.mul_pos hv aS; omega
 rw [Nat.le_div_iff_mul_le hV, <- heq, Nat.mul_add, Nat.add_mul, Nat.mul_assoc];omega
theorem gY.stop {u2 u1 u0 v1 v0 d rest : Nat} (h : gY u2 u1 u0 v1 v0 d rest) (hv : 0 < v1) (hc : d * v0 <= rest * W + u0) : d = gq u2 u1 u0 v1 v0 := j7 hv h.eq h.le h.lt hc
theorem ma {d v0 rest u0 : Nat} (hu : u0 < W) : (aX d v0 < rest ∨ (aX d v0 = rest /\ aE d v0 <= u0)) ↔ d * v0 <= rest * W + u0 := by
 have e := mul_eq d v0;have h1 := ib d v0;rw [<- e, Nat.mul_comm rest W];generalize aX d v0 = hi at *;generalize aE d v0 = lo at *;constructor
 · rintro (h | ⟨h, h2⟩)
   · have : W * (hi + 1) <= W * rest := Nat.mul_le_mul_left _ h;rw [Nat.mul_add] at this; omega
   · subst h; omega
 · intro h;rcases Nat.lt_trichotomy hi rest with h2 | h2 | h2
   · exact .inl h2
   · exact .inr ⟨h2, by subst h2; omega⟩
   · have : W * (rest + 1) <= W * hi := Nat.mul_le_mul_left _ h2;rw [Nat.mul_add] at this; omega
theorem gY.more {u2 u1 u0 v1 v0 d rest : Nat} (h : gY u2 u1 u0 v1 v0 d rest) (hv : 0 < v1) (hc : rest * W + u0 < d * v0) : 1 <= d /\ gq u2 u1 u0 v1 v0 <= d - 1 /\ (d - 1) * v1 + (rest + v1) = u2 * W + u1 := by
 have hd : 1 <= d := by
  refine Decidable.byContradiction fun hn => ?_;have : d = 0 := by omega
  subst this; omega
 refine ⟨hd, ?_, ?_⟩
 · have hV : 0 < v1 * W + v0 := by have := Nat.mul_pos hv aS; omega
   have : ((u2 * W + u1) * W + u0) / (v1 * W + v0) < d := by
    rw [Nat.div_lt_iff_lt_mul hV, <- h.eq, Nat.mul_add, Nat.add_mul, Nat.mul_assoc];omega
   unfold gq;have := Nat.min_le_right (W - 1) (((u2 * W + u1) * W + u0) / (v1 * W + v0));omega
 · obtain ⟨k, rfl⟩ : ∃ k, d = k + 1 := ⟨d - 1, by omega⟩;have := h.eq;rw [Nat.add_mul] at this;rw [Nat.add_sub_cancel]; omega
theorem sR {a b : Nat} (h : aL a b 0 ≠ 0) : W <= a + b := by
 refine Decidable.byContradiction fun hn => h ?_;unfold aL; exact Nat.div_eq_of_lt (by omega)
theorem sH {a b : Nat} (h : aL a b 0 = 0) : aU a b 0 = a + b /\ a + b < W := by
 have h1 := add_eq a b 0;have h2 := dS a b 0;rw [h] at h1; omega
theorem oO {d v0 r u0 : Nat} (hd : d < W) (h0 : v0 < W) (hr : W <= r) : d * v0 <= r * W + u0 := by
 have h1 : d * v0 <= W * W := Nat.mul_le_mul (Nat.le_of_lt hd) (Nat.le_of_lt h0);have h2 : W * W <= r * W := Nat.mul_le_mul_right _ hr;omega
theorem gY.over {u2 u1 u0 v1 v0 d rest : Nat} (h : gY u2 u1 u0 v1 v0 d rest) (hv : 0 < v1) (h0 : v0 < W) (hc : rest * W + u0 < d * v0) (ho : aL rest v1 0 ≠ 0) : d - 1 = gq u2 u1 u0 v1 v0 := by
 obtain ⟨h1, h2, h3⟩ := h.more hv hc;have := h.lt;exact j7 hv h3 h2 (by omega) (oO (by omega) h0 (sR ho))
theorem gY.next {u2 u1 u0 v1 v0 d rest : Nat} (h : gY u2 u1 u0 v1 v0 d rest) (hv : 0 < v1) (hc : rest * W + u0 < d * v0) (ho : aL rest v1 0 = 0) : gY u2 u1 u0 v1 v0 (d - 1) (aU rest v1 0) := by
 obtain ⟨h1, h2, h3⟩ := h.more hv hc;obtain ⟨h4, h5⟩ := sH ho;have := h.lt;exact ⟨by rw [h4]; exact h3, h2, by omega, by omega⟩
theorem mS {u1 v1 : Nat} : (W - 1) * v1 + (u1 + v1) = v1 * W + u1 := by
 obtain ⟨k, hk⟩ : ∃ k, W = k + 1 := ⟨W - 1, by have := aS; omega⟩;rw [hk, Nat.add_sub_cancel, Nat.mul_add, Nat.mul_comm k v1]; omega
theorem rJ {u1 u0 v1 v0 : Nat} (hv : 0 < v1) (h0 : v0 < W) (ho : aL u1 v1 0 ≠ 0) : W - 1 = gq v1 u1 u0 v1 v0 :=
 j7 hv mS (Nat.min_le_left ..) (by have := aS; omega) (oO (by have := aS; omega) h0 (sR ho))
theorem gY.yv {u1 u0 v1 v0 : Nat} (ho : aL u1 v1 0 = 0) : gY v1 u1 u0 v1 v0 (W - 1) (aU u1 v1 0) := by
 obtain ⟨h4, h5⟩ := sH ho;exact ⟨by rw [h4]; exact mS, Nat.min_le_left .., by have := aS; omega, by omega⟩
theorem gY.yV {u2 u1 u0 v1 v0 : Nat} (hu : u2 < v1) (h1 : u1 < W) (h0 : u0 < W) (hv1 : v1 < W) : gY u2 u1 u0 v1 v0 (iW u2 u1 v1) (kq u2 u1 v1) := by
 have hv : 0 < v1 := by omega
 have e : iW u2 u1 v1 * v1 + kq u2 u1 v1 = u2 * W + u1 := by unfold iW kq; rw [Nat.mul_comm]; exact Nat.div_add_mod ..
 have hr : kq u2 u1 v1 < v1 := Nat.mod_lt _ hv;refine ⟨e, ?_, ?_, by omega⟩
 · refine Nat.le_trans (Nat.min_le_right ..) ?_;have hV : 0 < v1 * W + v0 := by have := Nat.mul_pos hv aS; omega
   apply Nat.le_of_lt_succ;rw [Nat.div_lt_iff_lt_mul hV];generalize iW u2 u1 v1 = d at *;have f1 : u2 * W + u1 + 1 <= (d + 1) * v1 := by rw [Nat.add_mul]; omega
   have f2 := Nat.mul_le_mul_right W f1;rw [Nat.add_mul (u2 * W + u1), Nat.one_mul, Nat.mul_assoc] at f2;rw [Nat.succ_eq_add_one, Nat.mul_add];omega
 · unfold iW;rw [Nat.div_lt_iff_lt_mul hv];have f1 : (u2 + 1) * W <= v1 * W := Nat.mul_le_mul_right _ hu;rw [Nat.add_mul, Nat.mul_comm v1 W] at f1;omega
set_option maxRecDepth 100000 in
set_option maxHeartbeats 1000000 in
theorem xm (u2 u1 u0 v1 v0 : Nat) (w : World) (hv : 0 < v1) (hv1 : v1 < W) (h0 : v0 < W) (hu2 : u2 <= v1) (hu1 : u1 < W) (hu0 : u0 < W) :
 Calls Try.prog 101 #[.int .u64 (u2 : Int), .int .u64 (u1 : Int), .int .u64 (u0 : Int), .int .u64 (v1 : Int), .int .u64 (v0 : Int)] w fun e w' => e = .returned (.int .u64 ((gq u2 u1 u0 v1 v0 : Nat) : Int)) /\ ∃ m, w' = w.drewN m := by
 have Hv1 := Lib.hid hv1; clear hv1;have H0 := Lib.hid h0; clear h0;have Hu0 := Lib.hid hu0; clear hu0;have Hu1 := Lib.hid hu1; clear hu1;have Hv := Lib.hid hv; clear hv;have HW : W - 1 = 18446744073709551615 := by unfold W; rfl
 have HW' := Lib.hid HW; clear HW;go_enter Try.func101, Try.ntmps101;go_wp2;go_step3;by_cases hlt : u2 < v1
 · have t1 : decide ((v1 : Int) <= (u2 : Int)) = false := by simp; omega
   have hnl : ¬ v1 <= u2 := by omega
   have Hlt := Lib.hid hlt; clear hlt;go_wp2_with (go_at_call 98; refine (sO u2 u1 v1 _ Hlt.out Hu1.out Hv1.out).mono ?_; rintro e w3 ⟨rfl, hm, rfl⟩)
   go_step3;go_wp2
   go_loop [11, 12] (fun d r => ∃ dd rr : Nat, d = .int .u64 (dd : Int) /\ r = .int .u64 (rr : Int) /\ gY u2 u1 u0 v1 v0 dd rr) (fun d _ => (intOf d).toNat)
   case atStart => exact ⟨_, _, rfl, rfl, gY.yV Hlt.out Hu1.out Hu0.out Hv1.out⟩
   case round =>
    obtain ⟨dd, rr, rfl, rfl, hi⟩ := hrel;have hdd := hi.lt;have hdL : dd <= 18446744073709551615 := by unfold W at hdd; omega
    have ht := ma (d := dd) (v0 := v0) (rest := rr) (u0 := u0) Hu0.out;have Hi := Lib.hid hi; clear hi;by_cases A : dd * v0 <= rr * W + u0
    · have hs := Hi.out.stop Hv.out A;have Hs := Lib.hid hs; clear hs;have hc := ht.2 A;clear A ht;by_cases A1 : aX dd v0 < rr
      · have t3 : decide (((aX dd v0 : Nat) : Int) < (rr : Int)) = true := by simp; omega
        clear hc;go_wp2_with (go_at_call 92; refine (cY _ _ hdd H0.out _).mono ?_; rintro e w' ⟨rfl, rfl⟩)
        try rw [Exit.noGoto_ret]
        go_ret;exact ⟨by rw [<- Hs.out]; rfl, hm, rfl⟩
      · obtain ⟨B1, B2⟩ : aX dd v0 = rr /\ aE dd v0 <= u0 := hc.resolve_left A1;have t3 : decide (((aX dd v0 : Nat) : Int) < (rr : Int)) = false := by simp; omega
        have t4 : (((aX dd v0 : Nat) : Int) == (rr : Int)) = true := by rw [B1]; simp
        have t5 : decide (((aE dd v0 : Nat) : Int) <= (u0 : Int)) = true := by simp; omega
        clear hc B1;go_wp2_with (go_at_call 92; refine (cY _ _ hdd H0.out _).mono ?_; rintro e w' ⟨rfl, rfl⟩)
        try rw [Exit.noGoto_ret]
        go_ret;exact ⟨by rw [<- Hs.out]; rfl, hm, rfl⟩
    · have A' : rr * W + u0 < dd * v0 := by omega
      have h1 : 1 <= dd := (Hi.out.more Hv.out A').1;have hc : ¬ (aX dd v0 < rr ∨ (aX dd v0 = rr /\ aE dd v0 <= u0)) := fun h => A (ht.1 h);have n1 : ¬ (aX dd v0 < rr) := fun h => hc (.inl h);have t3 : decide (((aX dd v0 : Nat) : Int) < (rr : Int)) = false := by
       simp; omega
      have HA := Lib.hid A';clear A A' ht;by_cases B1 : aX dd v0 = rr
      · have t4 : (((aX dd v0 : Nat) : Int) == (rr : Int)) = true := by rw [B1]; simp
        have n2 : ¬ (aE dd v0 <= u0) := fun h => hc (.inr ⟨B1, h⟩);have t5 : decide (((aE dd v0 : Nat) : Int) <= (u0 : Int)) = false := by
         simp; omega
        have HB1 := Lib.hid B1;clear hc B1;by_cases ho : aL rr v1 0 = 0
        · have t2 : (((aL rr v1 0 : Nat) : Int) != 0) = false := by rw [ho]; rfl
          have Ho := Lib.hid ho; clear ho;go_wp2_with (first
           | (go_at_call 92; refine (cY _ _ hdd H0.out _).mono ?_; rintro e w' ⟨rfl, rfl⟩)
           | (with_reducible show wpList _ _ _ (⟨some 62, _, _, _, _, _⟩ :: _) _ _; refine bP rfl _ _ _ _ rfl rr v1 0 (by omega) rfl rfl rfl rfl rfl rfl ?_))
          go_round
          case rel => exact ⟨dd - 1, _, by go_num, rfl, Hi.out.next Hv.out HA.out Ho.out⟩
          case measure => simp [intOf]; omega
        · have t2 : (((aL rr v1 0 : Nat) : Int) != 0) = true := by rw [bne_iff_ne]; omega
          have Ho := Lib.hid ho; clear ho;go_wp2_with (first
           | (go_at_call 92; refine (cY _ _ hdd H0.out _).mono ?_; rintro e w' ⟨rfl, rfl⟩)
           | (with_reducible show wpList _ _ _ (⟨some 62, _, _, _, _, _⟩ :: _) _ _; refine bP rfl _ _ _ _ rfl rr v1 0 (by omega) rfl rfl rfl rfl rfl rfl ?_))
          try rw [Exit.noGoto_ret]
          go_ret;exact ⟨by rw [<- Hi.out.over Hv.out H0.out HA.out Ho.out]; rw [(by omega : ((dd - 1 : Nat) : Int) = (dd : Int) - 1)]; rfl, hm, rfl⟩
      · have t4 : (((aX dd v0 : Nat) : Int) == (rr : Int)) = false := by rw [beq_eq_false_iff_ne]; omega
        clear hc B1;by_cases ho : aL rr v1 0 = 0
        · have t2 : (((aL rr v1 0 : Nat) : Int) != 0) = false := by rw [ho]; rfl
          have Ho := Lib.hid ho; clear ho;go_wp2_with (first
           | (go_at_call 92; refine (cY _ _ hdd H0.out _).mono ?_; rintro e w' ⟨rfl, rfl⟩)
           | (with_reducible show wpList _ _ _ (⟨some 62, _, _, _, _, _⟩ :: _) _ _; refine bP rfl _ _ _ _ rfl rr v1 0 (by omega) rfl rfl rfl rfl rfl rfl ?_))
          go_round
          case rel => exact ⟨dd - 1, _, by go_num, rfl, Hi.out.next Hv.out HA.out Ho.out⟩
          case measure => simp [intOf]; omega
        · have t2 : (((aL rr v1 0 : Nat) : Int) != 0) = true := by rw [bne_iff_ne]; omega
          have Ho := Lib.hid ho; clear ho;go_wp2_with (first
           | (go_at_call 92; refine (cY _ _ hdd H0.out _).mono ?_; rintro e w' ⟨rfl, rfl⟩)
           | (with_reducible show wpList _ _ _ (⟨some 62, _, _, _, _, _⟩ :: _) _ _; refine bP rfl _ _ _ _ rfl rr v1 0 (by omega) rfl rfl rfl rfl rfl rfl ?_))
          try rw [Exit.noGoto_ret]
          go_ret;exact ⟨by rw [<- Hi.out.over Hv.out H0.out HA.out Ho.out]; rw [(by omega : ((dd - 1 : Nat) : Int) = (dd : Int) - 1)]; rfl, hm, rfl⟩
 · have t1 : decide ((v1 : Int) <= (u2 : Int)) = true := by simp; omega
   obtain rfl : u2 = v1 := by omega
   clear hlt;by_cases ho : aL u1 u2 0 = 0
   · have t2 : (((aL u1 u2 0 : Nat) : Int) != 0) = false := by rw [ho]; rfl
     have Ho := Lib.hid ho; clear ho;go_wp2_with (with_reducible show wpList _ _ _ (⟨some 25, _, _, _, _, _⟩ :: _) _ _; refine bP rfl _ _ _ _ rfl u1 u2 0 (by omega) rfl rfl rfl rfl rfl rfl ?_)
     go_step3;go_wp2
     go_loop [11, 12] (fun d r => ∃ dd rr : Nat, d = .int .u64 (dd : Int) /\ r = .int .u64 (rr : Int) /\ gY u2 u1 u0 u2 v0 dd rr) (fun d _ => (intOf d).toNat)
     case atStart => exact ⟨18446744073709551615, _, rfl, rfl, by rw [<- HW'.out]; exact gY.yv Ho.out⟩
     case round =>
      obtain ⟨dd, rr, rfl, rfl, hi⟩ := hrel;have hdd := hi.lt;have hdL : dd <= 18446744073709551615 := by unfold W at hdd; omega
      have ht := ma (d := dd) (v0 := v0) (rest := rr) (u0 := u0) Hu0.out;have Hi := Lib.hid hi; clear hi;by_cases A : dd * v0 <= rr * W + u0
      · have hs := Hi.out.stop Hv.out A;have Hs := Lib.hid hs; clear hs;have hc := ht.2 A;clear A ht;by_cases A1 : aX dd v0 < rr
        · have t3 : decide (((aX dd v0 : Nat) : Int) < (rr : Int)) = true := by simp; omega
          clear hc;go_wp2_with (go_at_call 92; refine (cY _ _ hdd H0.out _).mono ?_; rintro e w' ⟨rfl, rfl⟩)
          try rw [Exit.noGoto_ret]
          go_ret;exact ⟨by rw [<- Hs.out]; rfl, 0, rfl⟩
        · obtain ⟨B1, B2⟩ : aX dd v0 = rr /\ aE dd v0 <= u0 := hc.resolve_left A1;have t3 : decide (((aX dd v0 : Nat) : Int) < (rr : Int)) = false := by simp; omega
          have t4 : (((aX dd v0 : Nat) : Int) == (rr : Int)) = true := by rw [B1]; simp
          have t5 : decide (((aE dd v0 : Nat) : Int) <= (u0 : Int)) = true := by simp; omega
          clear hc B1;go_wp2_with (go_at_call 92; refine (cY _ _ hdd H0.out _).mono ?_; rintro e w' ⟨rfl, rfl⟩)
          try rw [Exit.noGoto_ret]
          go_ret;exact ⟨by rw [<- Hs.out]; rfl, 0, rfl⟩
      · have A' : rr * W + u0 < dd * v0 := by omega
        have h1 : 1 <= dd := (Hi.out.more Hv.out A').1;have hc : ¬ (aX dd v0 < rr ∨ (aX dd v0 = rr /\ aE dd v0 <= u0)) := fun h => A (ht.1 h);have n1 : ¬ (aX dd v0 < rr) := fun h => hc (.inl h);have t3 : decide (((aX dd v0 : Nat) : Int) < (rr : Int)) = false := by
         simp; omega
        have HA := Lib.hid A';clear A A' ht;by_cases B1 : aX dd v0 = rr
        · have t4 : (((aX dd v0 : Nat) : Int) == (rr : Int)) = true := by rw [B1]; simp
          have n2 : ¬ (aE dd v0 <= u0) := fun h => hc (.inr ⟨B1, h⟩);have t5 : decide (((aE dd v0 : Nat) : Int) <= (u0 : Int)) = false := by
           simp; omega
          have HB1 := Lib.hid B1;clear hc B1;by_cases ho : aL rr u2 0 = 0
          · have t2 : (((aL rr u2 0 : Nat) : Int) != 0) = false := by rw [ho]; rfl
            have Ho := Lib.hid ho; clear ho;go_wp2_with (first
             | (go_at_call 92; refine (cY _ _ hdd H0.out _).mono ?_; rintro e w' ⟨rfl, rfl⟩)
             | (with_reducible show wpList _ _ _ (⟨some 62, _, _, _, _, _⟩ :: _) _ _; refine bP rfl _ _ _ _ rfl rr u2 0 (by omega) rfl rfl rfl rfl rfl rfl ?_))
            go_round
            case rel => exact ⟨dd - 1, _, by go_num, rfl, Hi.out.next Hv.out HA.out Ho.out⟩
            case measure => simp [intOf]; omega
          · have t2 : (((aL rr u2 0 : Nat) : Int) != 0) = true := by rw [bne_iff_ne]; omega
            have Ho := Lib.hid ho; clear ho;go_wp2_with (first
             | (go_at_call 92; refine (cY _ _ hdd H0.out _).mono ?_; rintro e w' ⟨rfl, rfl⟩)
             | (with_reducible show wpList _ _ _ (⟨some 62, _, _, _, _, _⟩ :: _) _ _; refine bP rfl _ _ _ _ rfl rr u2 0 (by omega) rfl rfl rfl rfl rfl rfl ?_))
            try rw [Exit.noGoto_ret]
            go_ret;exact ⟨by rw [<- Hi.out.over Hv.out H0.out HA.out Ho.out]; rw [(by omega : ((dd - 1 : Nat) : Int) = (dd : Int) - 1)]; rfl, 0, rfl⟩
        · have t4 : (((aX dd v0 : Nat) : Int) == (rr : Int)) = false := by rw [beq_eq_false_iff_ne]; omega
          clear hc B1;by_cases ho : aL rr u2 0 = 0
          · have t2 : (((aL rr u2 0 : Nat) : Int) != 0) = false := by rw [ho]; rfl
            have Ho := Lib.hid ho; clear ho;go_wp2_with (first
             | (go_at_call 92; refine (cY _ _ hdd H0.out _).mono ?_; rintro e w' ⟨rfl, rfl⟩)
             | (with_reducible show wpList _ _ _ (⟨some 62, _, _, _, _, _⟩ :: _) _ _; refine bP rfl _ _ _ _ rfl rr u2 0 (by omega) rfl rfl rfl rfl rfl rfl ?_))
            go_round
            case rel => exact ⟨dd - 1, _, by go_num, rfl, Hi.out.next Hv.out HA.out Ho.out⟩
            case measure => simp [intOf]; omega
          · have t2 : (((aL rr u2 0 : Nat) : Int) != 0) = true := by rw [bne_iff_ne]; omega
            have Ho := Lib.hid ho; clear ho;go_wp2_with (first
             | (go_at_call 92; refine (cY _ _ hdd H0.out _).mono ?_; rintro e w' ⟨rfl, rfl⟩)
             | (with_reducible show wpList _ _ _ (⟨some 62, _, _, _, _, _⟩ :: _) _ _; refine bP rfl _ _ _ _ rfl rr u2 0 (by omega) rfl rfl rfl rfl rfl rfl ?_))
            try rw [Exit.noGoto_ret]
            go_ret;exact ⟨by rw [<- Hi.out.over Hv.out H0.out HA.out Ho.out]; rw [(by omega : ((dd - 1 : Nat) : Int) = (dd : Int) - 1)]; rfl, 0, rfl⟩
   · have t2 : (((aL u1 u2 0 : Nat) : Int) != 0) = true := by rw [bne_iff_ne]; omega
     have Ho := Lib.hid ho; clear ho;go_wp2_with (with_reducible show wpList _ _ _ (⟨some 25, _, _, _, _, _⟩ :: _) _ _; refine bP rfl _ _ _ _ rfl u1 u2 0 (by omega) rfl rfl rfl rfl rfl rfl ?_)
     try rw [Exit.noGoto_ret]
     go_ret;exact ⟨by rw [<- rJ Hv.out H0.out Ho.out, HW'.out]; rfl, 0, rfl⟩
structure oz (us vs cu qs : List Nat) (n k : Nat) : Prop where
 same : ∀ i, i < k -> gw cu i = gw us i
 val : aa (qs.drop k) * aa vs + sv cu k n = aa (us.drop k)
 lt : sv cu k n < aa vs
theorem ym (l : List Nat) (o : Nat) : sv l o 1 = gw l o := by
 have := bT l o 0;rw [fZ] at this;simpa using this
theorem oz.seg {us vs cu qs : List Nat} {n j : Nat} (h : oz us vs cu qs n (j + 1)) (hok : Ok cu) : sv cu j (n + 1) = gw us j + W * sv cu (j + 1) n /\ sv cu j (n + 1) < W * aa vs := by
 have e : sv cu j (n + 1) = gw us j + W * sv cu (j + 1) n := by
  rw [Nat.add_comm n 1, jY, ym, Nat.pow_one, h.same j (by omega)]
 refine ⟨e, ?_⟩;have h1 : W * (sv cu (j + 1) n + 1) <= W * aa vs := Nat.mul_le_mul_left _ h.lt;have h2 := hok.gw j;rw [h.same j (by omega)] at h2;rw [Nat.mul_add] at h1;omega
theorem rD {cu vs : List Nat} {n j : Nat} (hc : Ok cu) (hv : Ok vs) (hlen : vs.length = n + 2) (htop : 9223372036854775808 <= gw vs (n + 1)) (hS : sv cu j (n + 3) < W * aa vs) :
 gw cu (j + (n + 2)) <= gw vs (n + 1) /\
 sv cu j (n + 3) / aa vs <= gq (gw cu (j + (n + 2))) (gw cu (j + (n + 1))) (gw cu (j + n)) (gw vs (n + 1)) (gw vs n) /\
 gq (gw cu (j + (n + 2))) (gw cu (j + (n + 1))) (gw cu (j + n)) (gw vs (n + 1)) (gw vs n) <= sv cu j (n + 3) / aa vs + 1 := by
 have eS : sv cu j (n + 3) = sv cu j n + W ^ n * ((gw cu (j + (n + 2)) * W + gw cu (j + (n + 1))) * W + gw cu (j + n)) := by
  have p2 : W ^ (n + 2) = W ^ n * W * W := by rw [Nat.pow_succ, Nat.pow_succ]
  have p1 : W ^ (n + 1) = W ^ n * W := by rw [Nat.pow_succ]
  rw [bT, bT, bT, p2, p1, Nat.mul_add, Nat.add_mul, Nat.mul_add];have e1 : W ^ n * W * W * gw cu (j + (n + 2)) = W ^ n * (gw cu (j + (n + 2)) * W * W) := by
   rw [Nat.mul_assoc, Nat.mul_assoc]; congr 1; rw [<- Nat.mul_assoc, Nat.mul_comm, Nat.mul_assoc]
  have e2 : W ^ n * W * gw cu (j + (n + 1)) = W ^ n * (gw cu (j + (n + 1)) * W) := by
   rw [Nat.mul_assoc, Nat.mul_comm W]
  omega
 have eV : aa vs = sv vs 0 n + W ^ n * (gw vs (n + 1) * W + gw vs n) := by
  rw [<- ee vs, hlen, bT, bT, Nat.zero_add, Nat.zero_add, Nat.pow_succ, Nat.mul_add];have e2 : W ^ n * W * gw vs (n + 1) = W ^ n * (gw vs (n + 1) * W) := by
   rw [Nat.mul_assoc, Nat.mul_comm W]
  omega
 have lS := l9 hc j n;have lV := l9 hv 0 n;have hP : 0 < W ^ n := Nat.pow_pos aS;have b0 := hc.gw (j + n);have b1 := hc.gw (j + (n + 1));have c0 := hv.gw n;have c1 := hv.gw (n + 1);generalize gw cu (j + (n + 2)) = u2 at *;generalize gw cu (j + (n + 1)) = u1 at *;generalize gw cu (j + n) = u0 at *;generalize gw vs (n + 1) = v1 at *;generalize gw vs n = v0 at *;generalize sv cu j (n + 3) = S at *;generalize aa vs = V at *;generalize sv cu j n = sl at *;generalize sv vs 0 n = vl at *;generalize W ^ n = P at *;have hU : ∀ m, m * (v1 * W + v0) <= (u2 * W + u1) * W + u0 ↔ P * (m * (v1 * W + v0)) <= P * ((u2 * W + u1) * W + u0) := fun m => ⟨Nat.mul_le_mul_left P, fun h => Nat.le_of_mul_le_mul_left h hP⟩;have hV2 : 0 < v1 * W + v0 := by have := Nat.mul_pos (by omega : 0 < v1) aS; omega
 have hVp : 0 < V := by have := Nat.mul_pos hP hV2; omega
 have hVu : V < P * (v1 * W + v0 + 1) := by rw [Nat.mul_add]; omega
 refine ⟨?_, ?_, ?_⟩
 · refine Decidable.byContradiction fun hn => ?_;have h1 : (v1 + 1) * W * W <= u2 * W * W := Nat.mul_le_mul_right _ (Nat.mul_le_mul_right _ (by omega));have h2 : (v1 * W + v0 + 1) * W <= (v1 + 1) * W * W := Nat.mul_le_mul_right _ (by rw [Nat.add_mul]; omega);have h3 : (v1 * W + v0 + 1) * W <= (u2 * W + u1) * W + u0 := by rw [Nat.add_mul (u2 * W)]; omega
   have h4 := Nat.mul_le_mul_left P h3;have h5 : W * V <= W * (P * (v1 * W + v0 + 1)) := Nat.mul_le_mul_left _ (Nat.le_of_lt hVu);have h6 : W * (P * (v1 * W + v0 + 1)) = P * ((v1 * W + v0 + 1) * W) := by rw [Nat.mul_left_comm, Nat.mul_comm W]
   omega
 · unfold gq;refine Nat.le_min.2 ⟨?_, ?_⟩
   · have : S / V < W := by rw [Nat.div_lt_iff_lt_mul hVp]; exact hS
     omega
   · rw [Nat.le_div_iff_mul_le hV2];have h1 : S / V * V <= S := Nat.div_mul_le_self S V;generalize S / V = q at *;have h2 : q * (P * (v1 * W + v0)) <= q * V := Nat.mul_le_mul_left _ (by omega);have h3 : P * (q * (v1 * W + v0)) < P * ((u2 * W + u1) * W + u0 + 1) := by
      rw [Nat.mul_left_comm P q, Nat.mul_add P _ 1]; omega
     have := Nat.lt_of_mul_lt_mul_left h3;omega
 · have hd1 : gq u2 u1 u0 v1 v0 * (v1 * W + v0) <= (u2 * W + u1) * W + u0 := by
    rw [<- Nat.le_div_iff_mul_le hV2]; exact Nat.min_le_right ..
   have hd2 : gq u2 u1 u0 v1 v0 <= W - 1 := Nat.min_le_left ..;generalize gq u2 u1 u0 v1 v0 = d at *;rcases Nat.eq_zero_or_pos d with h0 | h0
   · rw [h0]; exact Nat.zero_le _
   obtain ⟨c, rfl⟩ : ∃ c, d = c + 1 := ⟨d - 1, by omega⟩;refine Nat.succ_le_succ ?_;rw [Nat.le_div_iff_mul_le hVp];have h1 := Nat.mul_le_mul_left P hd1;have h2 : (c + 1) * V <= (c + 1) * (P * (v1 * W + v0 + 1)) := Nat.mul_le_mul_left _ (Nat.le_of_lt hVu);have h3 : (c + 1) * (P * (v1 * W + v0 + 1)) = P * ((c + 1) * (v1 * W + v0)) + P * (c + 1) := by
    rw [Nat.mul_left_comm, <- Nat.mul_add, Nat.mul_add (c + 1), Nat.mul_one]
   have h4 : P * (c + 1) <= P * W := Nat.mul_le_mul_left _ (by have := aS; omega);have h5 : P * W <= P * (v1 * W + v0) := Nat.mul_le_mul_left _ (by have : 1 * W <= v1 * W := Nat.mul_le_mul_right _ (by omega); omega);rw [Nat.add_mul c 1 V, Nat.one_mul] at h2;omega
theorem took {S V d t P l : Nat} (hP : S / V <= d) (hP2 : d <= S / V + 1) (hV : 0 < V) (he : t + d * V = S + P * l) (ht : t < P) (hl : l <= 1) : (l = 0 -> d = S / V /\ t = S % V) /\ (l ≠ 0 -> d = S / V + 1) := by
 have e := Nat.div_add_mod S V;have hm := Nat.mod_lt S hV;generalize S / V = q at *;generalize S % V = r at *;rw [Nat.mul_comm V q] at e;constructor
 · rintro rfl;have : d = q := by
    refine Decidable.byContradiction fun hn => ?_;have : d = q + 1 := by omega
    subst this;rw [Nat.add_mul] at he; omega
   subst this;exact ⟨rfl, by omega⟩
 · intro h;have : l = 1 := by omega
   subst this;refine Decidable.byContradiction fun hn => ?_;have : d = q := by omega
   subst this;omega
theorem gave {S V d t t2 P cr : Nat} (hd : d = S / V + 1) (hV : 0 < V) (he : t + d * V = S + P * 1) (ht2 : t2 < P) (hVP : V <= P) (hg : t2 + P * cr = t + V) : d - 1 = S / V /\ t2 = S % V := by
 have e := Nat.div_add_mod S V;have hm := Nat.mod_lt S hV;generalize S / V = q at *;generalize S % V = r at *;rw [Nat.mul_comm V q] at e;subst hd;rw [Nat.add_mul] at he;refine ⟨by omega, ?_⟩;have h1 : t2 + P * cr = r + P := by omega
 have h2 : cr = 1 := by
  rcases Nat.lt_trichotomy cr 1 with h | h | h
  · have : cr = 0 := by omega
    subst this; omega
  · exact h
  · have : P * 2 <= P * cr := Nat.mul_le_mul_left _ h;omega
 subst h2;omega
theorem oz.next {us vs cu cu' qs : List Nat} {n j d : Nat} (h : oz us vs cu qs n (j + 1)) (hok : Ok cu) (hok' : Ok cu') (hvs : Ok vs) (hlen : vs.length = n) (hj : j < qs.length) (hd : d = sv cu j (n + 1) / aa vs)
 (hs : ∀ i, i < j -> gw cu' i = gw cu i) (hr : sv cu' j (n + 1) = sv cu j (n + 1) % aa vs) : d < W /\ oz us vs cu' (qs.set j d) n j := by
 obtain ⟨e1, e2⟩ := h.seg hok;have hVp : 0 < aa vs := by have := h.lt; omega
 have hVW : aa vs < W ^ n := by rw [<- hlen]; exact ct hvs
 have hm := Nat.mod_lt (sv cu j (n + 1)) hVp;have e3 := Nat.div_add_mod (sv cu j (n + 1)) (aa vs);have hz : sv cu' j n = sv cu j (n + 1) % aa vs := by
  have := bT cu' j n;rw [hr] at this;have h0 : gw cu' (j + n) = 0 := by
   refine Decidable.byContradiction fun hn => ?_;have : W ^ n * 1 <= W ^ n * gw cu' (j + n) := Nat.mul_le_mul_left _ (by omega);omega
  rw [h0] at this; omega
 refine ⟨by rw [hd, Nat.div_lt_iff_lt_mul hVp]; exact e2, fun i hi => by rw [hs i hi, h.same i (by omega)], ?_, by rw [hz]; exact hm⟩;rw [iR hj, hz, eG us j, <- h.val, Nat.add_mul, hd, Nat.mul_add W, <- Nat.mul_assoc];rw [Nat.mul_comm (aa vs)] at e3;omega
theorem rk {X Y s n m : Nat} {us vs : List Nat} (hu : aa us = 2 ^ s * X) (hv : aa vs = 2 ^ s * Y) (hul : us.length = m + 1) (hX : X < W ^ m) (hn : 1 <= n) (hnm : n <= m) (hok : Ok us) (hs : s < 64)
 (htop : W ^ (n - 1) * 9223372036854775808 <= aa vs) (qs : List Nat) (hq : qs.length = m - n + 1) : oz us vs us qs n (m - n + 1) := by
 have e1 : sv us (m - n + 1) n = aa (us.drop (m - n + 1)) := by
  have := wO us (m - n + 1);rw [hul] at this;rw [<- this]; congr 1; omega
 refine ⟨fun _ _ => rfl, ?_, ?_⟩
 · rw [List.drop_eq_nil_of_le (by omega : qs.length <= m - n + 1)];rw [e1]; simp [aa]
 · rw [e1];refine Nat.lt_of_lt_of_le ?_ htop;have h1 : aa us = aa (us.take (m - n + 1)) + W ^ (m - n + 1) * aa (us.drop (m - n + 1)) := dP us _ (by omega);have h2 : aa us < 2 ^ s * W ^ m := by rw [hu]; exact Nat.mul_lt_mul_of_pos_left hX (Nat.two_pow_pos s)
   have h3 : 2 ^ s * W ^ m <= 9223372036854775808 * W ^ m := Nat.mul_le_mul_right _ (by
    have : 2 ^ s <= 2 ^ 63 := Nat.pow_le_pow_right (by omega) (by omega);exact this)
   have h4 : W ^ m = W ^ (m - n + 1) * W ^ (n - 1) := by rw [<- Nat.pow_add]; congr 1; omega
   have h5 : W ^ (m - n + 1) * aa (us.drop (m - n + 1)) < W ^ (m - n + 1) * (W ^ (n - 1) * 9223372036854775808) := by
    rw [<- Nat.mul_assoc, <- h4, Nat.mul_comm (W ^ m)]; omega
   exact Nat.lt_of_mul_lt_mul_left h5
theorem uP {X Y s n : Nat} {us vs cu qs : List Nat} (h : oz us vs cu qs n 0) (hu : aa us = 2 ^ s * X) (hv : aa vs = 2 ^ s * Y) : aa qs = X / Y /\ aa (cu.take n) / 2 ^ s = X % Y := by
 have h1 := h.val;have h2 := h.lt;rw [List.drop_zero, List.drop_zero, hu, hv, kL] at h1;rw [hv, kL] at h2;have hp : 0 < 2 ^ s := Nat.two_pow_pos s;have hY : 0 < Y := by
  rcases Nat.eq_zero_or_pos Y with h0 | h0
  · subst h0; omega
  · exact h0
 have hd : 2 ^ s ∣ aa (cu.take n) := by
  have hA : 2 ^ s ∣ aa qs * (2 ^ s * Y) := ⟨aa qs * Y, by rw [Nat.mul_left_comm]⟩;have hB : 2 ^ s ∣ aa qs * (2 ^ s * Y) + aa (cu.take n) := by rw [h1]; exact ⟨X, rfl⟩
  exact (Nat.dvd_add_right hA).1 hB
 obtain ⟨r, hr⟩ := hd;rw [hr, Nat.mul_div_cancel_left _ hp];rw [hr] at h1 h2;have hrY : r < Y := Nat.lt_of_mul_lt_mul_left h2;have hX : aa qs * Y + r = X := by
  have e : 2 ^ s * (aa qs * Y + r) = 2 ^ s * X := by rw [Nat.mul_add, <- h1, Nat.mul_left_comm]
  exact Nat.eq_of_mul_eq_mul_left hp e
 subst hX;constructor
 · rw [Nat.add_comm, Nat.add_mul_div_right _ _ hY, Nat.div_eq_of_lt hrY, Nat.zero_add]
 · rw [Nat.add_comm, Nat.add_mul_mod_self_right, Nat.mod_eq_of_lt hrY]
set_option maxHeartbeats 1000000 in
theorem Shr_c (ao : Option Addr) (len cap : Nat) (ws : List Nat) (s : Nat) (w : World) (hA : cf w ao ws) (hl : len = ws.length) (hm : len <= 17592186044416) (hs : s < 64) :
 Calls Try.prog 104 #[.slice ao len cap, .int .i64 (s : Int)] w fun e w' =>
  (∃ ao' cap', e = .returned (.tuple #[.slice ao' (ag (aa ws / 2 ^ s)) cap', .int .i64 0]) /\ cJ w' w.heap.size ao' (ag (aa ws / 2 ^ s)) cap' (ez (aa ws / 2 ^ s))) /\ Below w.heap.size w w' := by
 subst hl;have htA := aD ws;have hmA' : ws.length <= maxLen := by unfold maxLen; omega
 have HA := Lib.hid hmA'; clear hmA';have d1 : (s : Int) / 64 = 0 := by omega
 have d2 : (s : Int) % 64 = (s : Int) := by omega
 have d3 : decide ((s : Int) < 0) = false := by simp
 by_cases h0 : au ws = 0
 · have hb : decide ((au ws : Int) <= 0) = true := by simp [h0]
   have H0 := Lib.hid h0; clear h0;go_enter Try.func104, Try.ntmps104;go_wp2_with (go_at_call 51; refine (cU _ _ _ ws _ hA rfl HA.out).mono ?_; rintro e w' ⟨rfl, rfl⟩)
   go_ret2;have e : aa ws / 2 ^ s = 0 := by rw [(eJ hA.ok).1 H0.out, Nat.zero_div]
   rw [e, aN, dj];exact ⟨⟨none, 0, rfl, cJ.nil _ _⟩, Below.refl _ _⟩
 · have hb : decide ((au ws : Int) <= 0) = false := by simp; omega
   have i1 : 1 <= au ws := by omega
   have H0 := Lib.hid h0; clear h0;go_enter Try.func104, Try.ntmps104;go_wp2_with (first
    | (go_at_call 51; refine (cU _ _ _ ws _ hA rfl HA.out).mono ?_; rintro e w' ⟨rfl, rfl⟩)
    | (at_make; refine dx rfl _ _ rfl (au ws) (au ws) rfl rfl rfl rfl (Nat.le_refl _) (by omega) ?_; intro b w1 hm1))
   have hB1 : w.heap.size <= b := Nat.le_of_eq hm1.at_.symm;go_loopw [29] (fun i wr => ∃ (k : Nat) (ls : List Nat), k <= au ws /\ i = .int .i64 k /\ ls.length = au ws /\ Ok ls /\ ah wr b 51 (ls.map wv) /\ Below w.heap.size w wr /\
    Hid (aa (ls.take k) = aa ws / 2 ^ s % W ^ k)) (fun i _ => au ws - (intOf i).toNat)
   case atStart => exact ⟨0, _, Nat.zero_le _, rfl, by simp, Ok.replicate _, hm1.row, hm1.below, Lib.hid (by simp [aa, Nat.mod_one])⟩
   case round =>
    obtain ⟨k, ls, hk, rfl, hll, hok, hrow, hbl, Heq⟩ := hrel;have Hll := Lib.hid hll; clear hll;by_cases hlt : k < au ws
    · obtain ⟨b1, o1, rfl, hb1, hc1⟩ := (hA.below hbl).pos (by omega);have e1 := hc1 k (by omega);have hcell := hrow.word (i := k) (by have := Hll.out; omega);have hfree := hrow.free k;by_cases hlt2 : k + 1 < au ws
      · have e2 := hc1 (k + 1) (by omega);clear hc1;have t1 : decide ((k : Int) + 1 < (au ws : Int)) = true := by simp; omega
        go_wp2
        go_region
        go_wp2;go_roundw
        case rel =>
         have hx : gw ws k / 2 ^ s < W := Nat.lt_of_le_of_lt (Nat.div_le_self ..) (hA.ok.gw k);have hv : (gw ws k / 2 ^ s) ||| (gw ws (k + 1) * 2 ^ (64 - s) % W) < W := by rw [v8 hA.ok hs]; exact iu _
         refine ⟨k + 1, (ls.set k (gw ws k / 2 ^ s)).set k ((gw ws k / 2 ^ s) ||| (gw ws (k + 1) * 2 ^ (64 - s) % W)), by omega, by go_num, by rw [List.length_set, List.length_set]; exact Hll.out, (hok.set _ _ hx).set _ _ hv, ?_, ?_, ?_⟩
         · have := (hrow.cg k (gw ws k / 2 ^ s)).cg k ((gw ws k / 2 ^ s) ||| (gw ws (k + 1) * 2 ^ (64 - s) % W));rw [vG, pN, or_cast _ _ hx (iu _)];exact this
         · exact (((hbl.setCell hB1 _).drew)).setCell hB1 _
         · refine Lib.hid ?_;have hk' : k < ls.length := by have := Hll.out; omega
           rw [cS (by rw [List.length_set]; exact hk'), iU, Heq.out, v8 hA.ok hs, <- iQ]
        case measure => simp [intOf]; omega
      · have t1 : decide ((k : Int) + 1 < (au ws : Int)) = false := by simp; omega
        clear hc1;go_wp2;go_roundw
        case rel =>
         have hx : gw ws k / 2 ^ s < W := Nat.lt_of_le_of_lt (Nat.div_le_self ..) (hA.ok.gw k);refine ⟨k + 1, ls.set k (gw ws k / 2 ^ s), by omega, by go_num, by rw [List.length_set]; exact Hll.out, hok.set _ _ hx, ?_, ?_, ?_⟩
         · have := hrow.cg k (gw ws k / 2 ^ s);rw [pN];exact this
         · exact hbl.setCell hB1 _
         · refine Lib.hid ?_;have hk' : k < ls.length := by have := Hll.out; omega
           have hz : gw ws (k + 1) = 0 := gd (by omega);have e := pC hA.ok hs k;rw [hz, Nat.zero_mul, Nat.zero_mod, Nat.add_zero] at e;rw [cS hk', Heq.out, e, <- iQ]
        case measure => simp [intOf]; omega
    · have ek : k = au ws := by omega
      subst ek;have hv : aa ls = aa ws / 2 ^ s := by
       have e1 := Heq.out;rw [List.take_of_length_le (by have := Hll.out; omega), Nat.mod_eq_of_lt] at e1
       · exact e1
       · refine Nat.lt_of_le_of_lt (Nat.div_le_self ..) ?_;rw [<- aY hA.ok];have := ct (hA.ok.take (au ws))
         rwa [List.length_take, Nat.min_eq_left htA] at this
      have Hfin := Lib.hid (jF hrow hok (B := w.heap.size) hB1 Hll.out (by omega) hv);have Hs1 := Lib.hid (hrow.kx hok);have hmx : au ws <= maxLen := by unfold maxLen; omega
      have Hmx := Lib.hid hmx;clear hmx hv;have l3 := aD ls;rw [Hll.out] at l3;go_wp2_with (go_at_call 51; (with_reducible refine (cU _ _ _ ls _ Hs1.out Hll.out.symm Hmx.out).mono ?_); rintro e w' ⟨rfl, rfl⟩)
      go_ret2;obtain ⟨q1, q2⟩ := Hfin.out;refine ⟨⟨_, _, ?_, q2⟩, hbl⟩;rw [<- q1]; rfl
theorem oi {cu vs : List Nat} {N j : Nat} (hN : 2 <= N) (hc : Ok cu) (hv : Ok vs) (hlen : vs.length = N) (htop : 9223372036854775808 <= gw vs (N - 1)) (hS : sv cu j (N + 1) < W * aa vs) :
 gw cu (j + N) <= gw vs (N - 1) /\
 sv cu j (N + 1) / aa vs <= gq (gw cu (j + N)) (gw cu (j + N - 1)) (gw cu (j + N - 2)) (gw vs (N - 1)) (gw vs (N - 2)) /\
 gq (gw cu (j + N)) (gw cu (j + N - 1)) (gw cu (j + N - 2)) (gw vs (N - 1)) (gw vs (N - 2)) <= sv cu j (N + 1) / aa vs + 1 := by
 obtain ⟨n, rfl⟩ : ∃ n, N = n + 2 := ⟨N - 2, by omega⟩;exact rD hc hv hlen htop hS
theorem gq_lt (u2 u1 u0 v1 v0 : Nat) : gq u2 u1 u0 v1 v0 <= 18446744073709551615 := Nat.le_trans (Nat.min_le_left ..) (by unfold W; omega)
set_option maxRecDepth 100000 in
set_option maxHeartbeats 1000000 in
theorem y9 (aoA aoB : Option Addr) (m N cA cB : Nat) (xs ys : List Nat) (w : World) (hA : cf w aoA xs) (hB : cf w aoB ys) (hlA : m = xs.length) (hlB : N = ys.length) (hm : m <= 17592186044415) (hN : 2 <= N) (hNm : N <= m) (htop : gw ys (N - 1) ≠ 0) :
 Calls Try.prog 97 #[.slice aoA m cA, .slice aoB N cB] w fun e w' =>
  (∃ aq cq ar cr, e = .returned (.tuple #[.slice aq (ag (aa xs / aa ys)) cq, .slice ar (ag (aa xs % aa ys)) cr]) /\ cJ w' w.heap.size aq (ag (aa xs / aa ys)) cq (ez (aa xs / aa ys)) /\
   cJ w' w.heap.size ar (ag (aa xs % aa ys)) cr (ez (aa xs % aa ys))) /\ Below w.heap.size w w' := by
 obtain ⟨s, hs, hsl, hy1, hy2⟩ := lZ htop (hB.ok.gw _);have Hsl := Lib.hid hsl; clear hsl;have hyb : ((gw ys (N - 1) : Nat) : Int) <= 18446744073709551615 := by have := hB.ok.gw (N - 1); unfold W at this; omega
 have Hyb := Lib.hid hyb; clear hyb;have Htop := Lib.hid htop; clear htop;have HlA := Lib.hid hlA; clear hlA;have HlB := Lib.hid hlB; clear hlB;obtain ⟨b2, o2, rfl, hb2, hc2⟩ := hB.pos (by have := HlB.out; omega);have ey := hc2 (N - 1) (by have := HlB.out; omega);clear hc2;have hs64 : (s : Int) < 64 := by omega
 have hm1 : ((m + 1 : Nat) : Int) = (m : Int) + 1 := by omega
 have Hm1 := Lib.hid hm1; clear hm1;have hY0 : aa ys = sv ys 0 (N - 1) + W ^ (N - 1) * gw ys (N - 1) := by
  have h1 := ee ys;rw [<- HlB.out, (by omega : N = N - 1 + 1), bT] at h1;rw [<- h1, Nat.zero_add]
 have hYfit : 2 ^ s * aa ys < W ^ N := by
  have h1 := l9 hB.ok 0 (N - 1);have h2 : aa ys < W ^ (N - 1) * (gw ys (N - 1) + 1) := by rw [Nat.mul_add]; omega
  have h3 : gw ys (N - 1) < 2 ^ (64 - s) := by
   rw [iB (by omega : s <= 64)] at hy2;exact Nat.lt_of_mul_lt_mul_right hy2
  have h4 : 2 ^ s * (W ^ (N - 1) * (gw ys (N - 1) + 1)) <= W ^ (N - 1) * W := by
   rw [Nat.mul_left_comm];refine Nat.mul_le_mul_left _ ?_;have h5 : 2 ^ s * (gw ys (N - 1) + 1) <= 2 ^ s * 2 ^ (64 - s) := Nat.mul_le_mul_left _ h3;rw [iB (by omega : s <= 64), Nat.mul_comm (2 ^ (64 - s))]; exact h5
  have h6 : 2 ^ s * aa ys < 2 ^ s * (W ^ (N - 1) * (gw ys (N - 1) + 1)) := Nat.mul_lt_mul_of_pos_left h2 (Nat.two_pow_pos s);have h7 : W ^ N = W ^ (N - 1) * W := by rw [<- Nat.pow_succ]; congr 1; omega
  omega
 have hXfit : 2 ^ s * aa xs < W ^ (m + 1) := by
  have h1 := ct hA.ok;rw [<- HlA.out] at h1;have h2 : 2 ^ s * aa xs < 2 ^ s * W ^ m := Nat.mul_lt_mul_of_pos_left h1 (Nat.two_pow_pos s);have h3 : 2 ^ s * W ^ m <= W * W ^ m := Nat.mul_le_mul_right _ (by rw [ug]; exact Nat.pow_le_pow_right (by omega) (by omega));rw [Nat.pow_succ, Nat.mul_comm (W ^ m)]; omega
 go_enter Try.func97, Try.ntmps97;go_wp2_with (go_at_call 99; refine (Try.bits_LeadingZeros64 _ _ (by omega) Hyb.out).mono ?_; rintro e w' ⟨rfl, hw'⟩; obtain rfl := hw'.symm; simp only [Int.toNat_natCast]; rw [Hsl.out])
 refine (n6 (some ⟨b2, o2, none⟩) N cB ys s N _ hB HlB.out (by omega) hs (by omega) (Nat.le_refl _) hYfit).mono ?_;rintro e w1 ⟨bv, vs, rfl, hNv, hvl, hvv⟩;have hA1 := hA.below hNv.below;have hsh := n6 aoA m cA xs s (m + 1) w1 hA1 HlA.out (by omega) hs (by omega) (by omega) hXfit;rw [Hm1.out] at hsh;go_wp2_with fail
 refine hsh.mono ?_;rintro e w2 ⟨bu, us, rfl, hNu, hul, huv⟩;clear hsh;have hbv : bv < w1.heap.size := hNv.row.lt;have hvu : bv ≠ bu := by have := hNu.ge; omega
 have hrv2 : ah w2 bv 51 (vs.map wv) := hNv.row.below hNu.below hbv;have hbu : bu < w2.heap.size := hNu.row.lt;have hb12 : Below w.heap.size w w2 := hNv.below.trans (hNu.below.mono hNv.below.size);go_wp2_with (at_make; refine dx rfl _ _ rfl (m - N + 1) (m - N + 1) rfl rfl (by omega) (by omega) (Nat.le_refl _) (by omega) ?_; intro bq w3 hm3)
 have hu : bu ≠ bq := by have := hm3.at_; omega
 have hv : bv ≠ bq := by have := hm3.at_; have := hNu.below.size; omega
 have hBu : w.heap.size <= bu := by have := hNu.ge; have := hNv.below.size; omega
 have hBq : w.heap.size <= bq := by have := hm3.at_; have := hb12.size; omega
 have hb13 : Below w.heap.size w w3 := hb12.trans (hm3.below.mono hb12.size);have hrv3 := hrv2.below hm3.below (by have := hNu.below.size; omega);have hru3 := hNu.row.below hm3.below hbu;have hvlow : W ^ (N - 1) * 9223372036854775808 <= aa vs := by
  have h1 : W ^ (N - 1) * 9223372036854775808 <= W ^ (N - 1) * (gw ys (N - 1) * 2 ^ s) := Nat.mul_le_mul_left _ hy1;rw [hvv, hY0, Nat.mul_add, Nat.mul_left_comm (2 ^ s), Nat.mul_comm (2 ^ s) (gw ys (N - 1))];omega
 have hvtop : 9223372036854775808 <= gw vs (N - 1) := by
  have h1 := ee vs;rw [hvl, (by omega : N = N - 1 + 1), bT, Nat.zero_add] at h1;have h2 := l9 hNv.ok 0 (N - 1);have h3 : W ^ (N - 1) * 9223372036854775808 < W ^ (N - 1) * (gw vs (N - 1) + 1) := by rw [Nat.mul_add]; omega
  have := Nat.lt_of_mul_lt_mul_left h3;omega
 have hXW : aa xs < W ^ m := by have := ct hA.ok; rw [<- HlA.out] at this; exact this
 have Hst := Lib.hid (rk huv hvv hul hXW (by omega : 1 <= N) hNm hNu.ok hs hvlow (List.replicate (m - N + 1) 0) (by simp));have Hvtop := Lib.hid hvtop; clear hvtop hvlow;have Hhuv := Lib.hid huv; clear huv;have Hhvv := Lib.hid hvv; clear hvv;have Hvl := Lib.hid hvl; clear hvl;have Hul := Lib.hid hul; clear hul;have HY0 := Lib.hid hY0; clear hY0;have Hx := Lib.hid hXfit; clear hXfit;have Hy := Lib.hid hYfit; clear hYfit;have Hy1 := Lib.hid hy1; clear hy1;have Hy2 := Lib.hid hy2; clear hy2;have hNvo := Lib.hid hNv.ok;clear hNv hA1 hrv2 ey;go_wp2;go_loopw [11] (fun i wr => ∃ (k : Nat) (cu qs : List Nat), k <= m - N + 1 /\ i = .int .i64 ((k : Int) - 1) /\ ah wr bv 51 (vs.map wv) /\ ah wr bu 51 (cu.map wv) /\ ah wr bq 51 (qs.map wv) /\ Ok cu /\ Ok qs /\ Hid (cu.length = m + 1) /\ Hid (qs.length = m - N + 1) /\
  Below w.heap.size w wr /\ Hid (oz us vs cu qs N k)) (fun i _ => (intOf i + 1).toNat)
 case atStart => exact ⟨m - N + 1, us, List.replicate (m - N + 1) 0, Nat.le_refl _, by go_num, hrv3, hru3, hm3.row, hNu.ok, Ok.replicate _, Hul, Lib.hid (by simp), hb13, Hst⟩
 case round =>
  obtain ⟨k, cu, qs, hk, hi, hrv, hru, hrq, hoku, hokq, Hcl, Hql, hb, HI⟩ := hrel;rcases k with _ | j
  · have e : ((0 : Nat) : Int) - 1 = -1 := by omega
    rw [e] at hi;subst hi;obtain ⟨hq1, hr1⟩ := uP HI.out Hhuv.out Hhvv.out;have Hq1 := Lib.hid hq1; clear hq1;have Hr1 := Lib.hid hr1; clear hr1;have hNl : N = (cu.take N).length := by rw [List.length_take, Hcl.out, Nat.min_eq_left (by omega)]
    have HNl := Lib.hid hNl; clear hNl;go_wp2_with fail
    refine (Shr_c _ _ _ (cu.take N) s _ ((hru.kx hoku).take N) HNl.out (by omega) hs).mono ?_;rintro e w4 ⟨⟨ar, cr, rfl, h1⟩, h2⟩;have hbq : bq < wr.heap.size := hrq.lt;have hrq4 := hrq.below h2 hbq;rw [Hr1.out] at h1 ⊢;have H1 := Lib.hid h1; clear h1;go_wp2_with fail
    refine (dU _ _ _ qs _ (hrq4.kx hokq) Hql.out.symm (by omega)).mono ?_;rintro e w5 ⟨⟨aq, cq, rfl, h3⟩, h4⟩;rw [Hq1.out] at h3 ⊢;go_wp2;go_ret2;exact ⟨⟨aq, cq, ar, cr, rfl, h3.mono (Nat.le_trans hb.size h2.size), (H1.out.mono hb.size).below h4⟩, (hb.trans (h2.mono hb.size)).trans (h4.mono (Nat.le_trans hb.size h2.size))⟩
  · have e : ((j + 1 : Nat) : Int) - 1 = (j : Int) := by omega
    rw [e] at hi;subst hi;have c1 := hru.word (i := j + N) (by have := Hcl.out; omega);have c2 := hru.word (i := j + N - 1) (by have := Hcl.out; omega);have c3 := hru.word (i := j + N - 2) (by have := Hcl.out; omega);have c4 := hrv.word (i := N - 1) (by have := Hvl.out; omega);have c5 := hrv.word (i := N - 2) (by have := Hvl.out; omega);have b1 : (j : Int) + (N : Int) < (m : Int) + 1 := by omega
    have hnear := oi (j := j) hN hoku hNvo.out Hvl.out Hvtop.out (HI.out.seg hoku).2;have Hnear := Lib.hid hnear; clear hnear;have hg : ∀ wx, Calls Try.prog 101 #[.int .u64 ((gw cu (j + N) : Nat) : Int), .int .u64 ((gw cu (j + N - 1) : Nat) : Int), .int .u64 ((gw cu (j + N - 2) : Nat) : Int), .int .u64 ((gw vs (N - 1) : Nat) : Int), .int .u64 ((gw vs (N - 2) : Nat) : Int)] wx
     fun e w' => e = .returned (.int .u64 ((gq (gw cu (j + N)) (gw cu (j + N - 1)) (gw cu (j + N - 2)) (gw vs (N - 1)) (gw vs (N - 2)) : Nat) : Int)) /\ ∃ m, w' = wx.drewN m :=
     fun wx => xm _ _ _ _ _ wx (by have := Hvtop.out; omega) (hNvo.out.gw _) (hNvo.out.gw _) Hnear.out.1 (hoku.gw _) (hoku.gw _)
    generalize hdd : gq (gw cu (j + N)) (gw cu (j + N - 1)) (gw cu (j + N - 2)) (gw vs (N - 1)) (gw vs (N - 2)) = dd at *;have hdL : dd <= 18446744073709551615 := by rw [<- hdd]; exact gq_lt ..
    clear hdd;go_wp2
    go_quiet ((go_at_call 101; refine Calls.quiet_of (hg _)))
    go_wp2_with fail
    rw [(by omega : j + N + 1 - j = N + 1)];have hdW : dd < W := by unfold W; omega
    refine (zf _ bu j _ _ N N vs cu dd _ (hru.drewN _) hoku rfl (by have := Hcl.out; omega) ((hrv.drewN _).kx hNvo.out) (fun _ a ha => by cases ha; exact hvu) Hvl.out.symm (by have := Hcl.out; omega) hdW).mono ?_;rintro e w4 ⟨cu1, lent, rfl, hR1, hl1, hs1, he1⟩;have hbx : Below w.heap.size w (wr.drewN nq) := hb.grown (dF (World.grownBy.refl _ none) nq) hb.size (fun k e => by cases e);have hb4 := hR1.below hbx hBu hb.size;have hrv4 := (hrv.drewN nq).grown hR1.grown hvu;have hrq4 := (hrq.drewN nq).grown hR1.grown (fun e => hu e.symm);have hcl1 : Hid (cu1.length = m + 1) := Lib.hid (by rw [hR1.len]; exact Hcl.out);have hVp : 0 < aa vs := by have := HI.out.lt; omega
    have ht1 := l9 hR1.ok j (N + 1);have htk := took Hnear.out.2.1 Hnear.out.2.2 hVp he1 ht1 hl1;have hVP : aa vs <= W ^ (N + 1) := by
     have h1 := ct hNvo.out;rw [Hvl.out] at h1;exact Nat.le_trans (Nat.le_of_lt h1) (Nat.pow_le_pow_right aS (by omega))
    have Hs1 := Lib.hid hs1; clear hs1;have He1 := Lib.hid he1; clear he1;have Htk := Lib.hid htk; clear htk;have Ht1 := Lib.hid ht1; clear ht1;have HVP := Lib.hid hVP; clear hVP;have HVp := Lib.hid hVp; clear hVp;by_cases hz : lent = 0
    · have hn := HI.out.next hoku hR1.ok hNvo.out Hvl.out (by have := Hql.out; omega : j < qs.length) (Htk.out.1 hz).1 (fun i hi => Hs1.out i (.inl hi)) (Htk.out.1 hz).2;have Hn := Lib.hid hn; clear hn;have t1 : (((lent : Nat) : Int) != 0) = false := by rw [hz]; rfl
      clear hz;have hcell := hrq4.word (i := j) (by have := Hql.out; omega);have hfree := hrq4.free j;have i1 : (j : Int) < (m : Int) - (N : Int) + 1 := by omega
      go_wp2;go_roundw
      case rel =>
       exact ⟨j, _, _, by omega, by go_num, hrv4.other hv _, hR1.row.other hu _, hrq4.cg j _, hR1.ok, hokq.set _ _ Hn.out.1, hcl1, Lib.hid (by rw [List.length_set]; exact Hql.out), hb4.setCell hBq _, Lib.hid Hn.out.2⟩
      case measure => simp [intOf]
    · have t1 : (((lent : Nat) : Int) != 0) = true := by rw [bne_iff_ne]; omega
      have hd1 := Htk.out.2 hz;have hdp : 1 <= dd := by rw [hd1]; exact Nat.succ_le_succ (Nat.zero_le _)
      have hl2 : lent = 1 := by omega
      subst hl2;have Hd1 := Lib.hid hd1; clear hd1;clear hz;go_wp2_with fail
      rw [(by omega : j + N + 1 - j = N + 1)];refine (yA _ bu j _ _ N N vs cu1 _ hR1.row hR1.ok rfl (by have := hcl1.out; omega) (hrv4.kx hNvo.out) (fun _ a ha => by cases ha; exact hvu) Hvl.out.symm (by have := hcl1.out; omega)).mono ?_;rintro e w5 ⟨rfl, cu2, cr, hR2, hs2, he2⟩;have hb5 := hR2.below hb4 hBu hb4.size;have hrv5 := hrv4.grown hR2.grown hvu;have hrq5 := hrq4.grown hR2.grown (fun e => hu e.symm);have hgv := gave Hd1.out HVp.out He1.out (l9 hR2.ok j (N + 1)) HVP.out he2;have hn := HI.out.next hoku hR2.ok hNvo.out Hvl.out (by have := Hql.out; omega : j < qs.length) hgv.1 (fun i hi => by rw [hs2 i (.inl hi)]; exact Hs1.out i (.inl hi)) hgv.2;have Hn := Lib.hid hn; clear hn hgv hs2 he2;have hcell := hrq5.word (i := j) (by have := Hql.out; omega);have hfree := hrq5.free j;have i1 : (j : Int) < (m : Int) - (N : Int) + 1 := by omega
      have hce : (((dd - 1 : Nat)) : Int) = (dd : Int) - 1 := by omega
      go_wp2;go_roundw
      case rel =>
       rw [<- hce];exact ⟨j, _, _, by omega, by go_num, hrv5.other hv _, hR2.row.other hu _, hrq5.cg j _, hR2.ok, hokq.set _ _ Hn.out.1, Lib.hid (by rw [hR2.len]; exact hcl1.out), Lib.hid (by rw [List.length_set]; exact Hql.out), hb5.setCell hBq _, Lib.hid Hn.out.2⟩
      case measure => simp [intOf]
theorem wB {y : Nat} (h : ag y = 1) : gw (ez y) 0 = y /\ y ≠ 0 /\ y < W := by
 have h0 : y ≠ 0 := fun e => by rw [e, aN] at h; omega
 have h1 := aT y;rw [h, Nat.pow_one] at h1;refine ⟨?_, h0, h1⟩;rw [gy h0]; simp [gw, List.getD_eq_getElem?_getD, Nat.mod_eq_of_lt h1]
theorem vX {y : Nat} (h : y ≠ 0) : gw (ez y) (ag y - 1) ≠ 0 := by
 have h1 := uk y;have h2 : au (ez y) ≠ 0 := fun e => h ((eJ (qH y)).1 e ▸ (ck y).symm);have := pS (ez y) h2;rw [h1] at this;exact this
theorem eh (y : Nat) : (ez y).length = ag y := rfl
set_option maxRecDepth 100000 in
set_option maxHeartbeats 1000000 in
theorem ob (aoA aoB : Option Addr) (lA lB cA cB : Nat) (xs ys : List Nat) (w : World) (hA : cf w aoA xs) (hB : cf w aoB ys) (hlA : lA = xs.length) (hlB : lB = ys.length) (hmA : lA <= 17592186044415) (hmB : lB <= 17592186044415) (hY : aa ys ≠ 0) :
 Calls Try.prog 88 #[.slice aoA lA cA, .slice aoB lB cB] w fun e w' =>
  (∃ aq cq ar cr, e = .returned (.tuple #[.slice aq (ag (aa xs / aa ys)) cq, .slice ar (ag (aa xs % aa ys)) cr, .int .i64 0]) /\ cJ w' w.heap.size aq (ag (aa xs / aa ys)) cq (ez (aa xs / aa ys)) /\
   cJ w' w.heap.size ar (ag (aa xs % aa ys)) cr (ez (aa xs % aa ys))) /\ Below w.heap.size w w' := by
 subst hlA hlB;have hwA := dh hA.ok;have hwB := dh hB.ok;have t0 : ((ag (aa ys) : Int) == 0) = false := by
  rw [beq_eq_false_iff_ne];have : ag (aa ys) ≠ 0 := fun e => hY (cH.1 e);omega
 have hw0 : ag (aa ys) ≠ 0 := fun e => hY (cH.1 e);have HY := Lib.hid hY; clear hY;go_enter Try.func88, Try.ntmps88;go_wp2_with fail
 refine (dU _ _ _ ys _ hB rfl (by omega)).mono ?_;rintro e w1 ⟨⟨ay, cy, rfl, hO1⟩, hb1⟩;by_cases h1 : ag (aa ys) = 1
 · have t1 : ((ag (aa ys) : Int) == 1) = true := by rw [h1]; rfl
   obtain ⟨g1, g2, g3⟩ := wB h1;obtain ⟨b2, o2, rfl, hb2, hc2⟩ := hO1.at_.pos (by rw [eh]; omega);have ey := hc2 0 (by rw [eh]; omega);rw [g1, Nat.add_zero] at ey;have i1 : 0 < ag (aa ys) := by omega
   have Hh1 := Lib.hid h1; clear h1 hc2;go_wp2_with fail
   refine (yU aoA _ _ xs (aa ys) _ (hA.below hb1) rfl (by omega) g2 g3).mono ?_;rintro e w2 ⟨⟨aq, cq, rfl, hO2⟩, hb2⟩;go_wp2_with fail
   have hrow : ah (w2.alloc (.cells #[.int .u64 ((aa xs : Int) % (aa ys : Int))] 51)) w2.heap.size 51 ([aa xs % aa ys].map wv) := by
    have := ah.new w2 #[.int .u64 ((aa xs : Int) % (aa ys : Int))] 51;rw [<- Int.natCast_emod] at this ⊢;exact this
   have hrW : aa xs % aa ys < W := Nat.lt_trans (Nat.mod_lt _ (by omega)) g3;have hb3 : Below w2.heap.size w2 (w2.alloc (.cells #[.int .u64 ((aa xs : Int) % (aa ys : Int))] 51)) := (Below.refl _ _).alloc (Nat.le_refl _) _;have hw1 := hrow.kx (Ok.one hrW);have hv1 : aa [aa xs % aa ys] = aa xs % aa ys := by simp [aa]
   have hL := dU _ 1 1 [aa xs % aa ys] _ hw1 rfl (by omega);rw [hv1] at hL;refine hL.mono ?_;rintro e w4 ⟨⟨ar, cr, rfl, hO4⟩, hb4⟩;clear hL hv1 hw1 hrow;generalize w2.alloc (.cells #[.int .u64 ((aa xs : Int) % (aa ys : Int))] 51) = w3 at *;go_wp2;go_ret3;have s1 := hb1.size;have s2 := hb2.size;have s3 := hb3.size;exact ⟨⟨aq, cq, ar, cr, rfl, ((hO2.mono hb1.size).below hb3).below hb4, hO4.mono (by omega)⟩, ((hb1.trans (hb2.mono s1)).trans (hb3.mono (by omega))).trans (hb4.mono (by omega))⟩
 · have t1 : ((ag (aa ys) : Int) == 1) = false := by rw [beq_eq_false_iff_ne]; omega
   have i2 : 2 <= ag (aa ys) := by omega
   clear h1;go_wp2_with fail
   refine (dU _ _ _ xs _ (hA.below hb1) rfl (by omega)).mono ?_;rintro e w2 ⟨⟨ax, cx, rfl, hO2⟩, hb2⟩;go_wp2_with fail
   have s1 := hb1.size;have s2 := hb2.size;have hO1' := hO1.below hb2;refine (rU _ _ _ _ _ _ (ez (aa xs)) (ez (aa ys)) _ hO2.at_ hO1'.at_ (eh _).symm (eh _).symm (by omega) (by omega)).mono ?_;rintro e w3 ⟨rfl, hb3⟩;rw [ck, ck];have s3 := hb3.size;have hb03 := (hb1.trans (hb2.mono s1)).trans (hb3.mono (by omega));by_cases hlt : aa xs < aa ys
   · rw [kI hlt];have Hlt := Lib.hid hlt; clear hlt;go_wp2;go_ret3;have e1 : aa xs / aa ys = 0 := Nat.div_eq_of_lt Hlt.out;have e2 : aa xs % aa ys = aa xs := Nat.mod_eq_of_lt Hlt.out;rw [e1, e2, aN, dj];exact ⟨⟨none, 0, ax, cx, rfl, cJ.nil _ _, (hO2.mono s1).below hb3⟩, hb03⟩
   · have hc : decide (eX (aa xs) (aa ys) < 0) = false := by
      unfold eX; rw [if_neg hlt]; split <;> rfl
     have hge : aa ys <= aa xs := by omega
     have hwle := aH hge;clear hlt hge;generalize hcm : eX (aa xs) (aa ys) = cm at *;have Hcm := Lib.hid hcm; clear hcm;go_wp2_with fail
     have hLg := y9 ax ay (ag (aa xs)) (ag (aa ys)) cx cy (ez (aa xs)) (ez (aa ys)) w3 (hO2.below hb3).at_ (hO1'.below hb3).at_ (eh _).symm (eh _).symm (by omega) i2 hwle (vX HY.out);rw [ck, ck] at hLg;refine hLg.mono ?_;rintro e w4 ⟨⟨aq, cq, ar, cr, rfl, hOq, hOr⟩, hb4⟩;clear hLg;go_wp2;go_ret3;exact ⟨⟨aq, cq, ar, cr, rfl, hOq.mono (by omega), hOr.mono (by omega)⟩, hb03.trans (hb4.mono (by omega))⟩
theorem vV (aoA aoB : Option Addr) (lA lB cA cB : Nat) (xs ys : List Nat) (w : World) (hA : cf w aoA xs) (hB : cf w aoB ys) (hlA : lA = xs.length) (hlB : lB = ys.length) (hmA : lA <= 17592186044415) (hmB : lB <= 17592186044415) (hY : aa ys ≠ 0) (hd : aa xs % aa ys = 0) :
 Calls Try.prog 70 #[.slice aoA lA cA, .slice aoB lB cB] w fun e w' =>
  (∃ aq cq, e = .returned (.tuple #[.slice aq (ag (aa xs / aa ys)) cq, .int .i64 0]) /\ cJ w' w.heap.size aq (ag (aa xs / aa ys)) cq (ez (aa xs / aa ys))) /\ Below w.heap.size w w' := by
 have h := ob aoA aoB lA lB cA cB xs ys w hA hB hlA hlB hmA hmB hY;rw [hd, aN] at h;have Hh := Lib.hid h; clear h hlA hlB hd hY;go_enter Try.func70, Try.ntmps70;go_wp2_with fail
 refine Hh.out.mono ?_;rintro e w1 ⟨⟨aq, cq, ar, cr, rfl, hO1, hO2⟩, hb1⟩;go_wp2;go_ret2;exact ⟨⟨aq, cq, rfl, hO1⟩, hb1⟩
def zi (n : Bool) (m : Nat) : Int := if n then -(m : Int) else (m : Int)
def ak (w : World) (B : Nat) (v : Value) (x : Int) : Prop :=
 ∃ ao cap, v = .agg #[.bool (decide (x < 0)), .slice ao (ag x.natAbs) cap] /\ cJ w B ao (ag x.natAbs) cap (ez x.natAbs)
def aw (w : World) (L : Nat) (v : Value) (x : Int) : Prop :=
 ∃ n ao len cap ws, v = .agg #[.bool n, .slice ao len cap] /\ cf w ao ws /\ len = ws.length /\ len <= L /\ len <= cap /\ x = zi n (aa ws)
theorem zi_of (x : Int) : zi (decide (x < 0)) x.natAbs = x := by
 unfold zi; split <;> rename_i h <;> simp at h <;> omega
theorem tu (n : Bool) (m : Nat) : decide (zi n m < 0) = (n && decide (0 < m)) := by
 unfold zi; cases n <;> simp
theorem fw (n : Bool) (m : Nat) : (zi n m).natAbs = m := by unfold zi; cases n <;> simp
theorem ak.at_ {w : World} {B : Nat} {v : Value} {x : Int} (h : ak w B v x) : aw w (ag x.natAbs) v x := by
 obtain ⟨ao, cap, rfl, hO⟩ := h;exact ⟨_, ao, _, cap, _, rfl, hO.at_, hO.len, Nat.le_refl _, hO.cap.1, by rw [ck, zi_of]⟩
theorem ak.mono {w : World} {B B' : Nat} {v : Value} {x : Int} (h : ak w B v x) (hb : B' <= B) : ak w B' v x := by
 obtain ⟨ao, cap, rfl, hO⟩ := h;exact ⟨ao, cap, rfl, hO.mono hb⟩
theorem aw.below {w w' : World} {L : Nat} {v : Value} {x : Int} (h : aw w L v x) (hb : Below w.heap.size w w') : aw w' L v x := by
 obtain ⟨n, ao, len, cap, ws, rfl, hW, hl, hL, hc, hx⟩ := h;exact ⟨n, ao, len, cap, ws, rfl, hW.below hb, hl, hL, hc, hx⟩
theorem aw.mono {w : World} {L L' : Nat} {v : Value} {x : Int} (h : aw w L v x) (hL : L <= L') : aw w L' v x := by
 obtain ⟨n, ao, len, cap, ws, rfl, hW, hl, hL1, hc, hx⟩ := h;exact ⟨n, ao, len, cap, ws, rfl, hW, hl, by omega, hc, hx⟩
theorem ak.mk {w : World} {B : Nat} {ao : Option Addr} {cap m : Nat} (n : Bool) (h : cJ w B ao (ag m) cap (ez m)) : ak w B (.agg #[.bool (n && decide (0 < ag m)), .slice ao (ag m) cap]) (zi n m) := by
 refine ⟨ao, cap, ?_, by rw [fw]; exact h⟩;rw [fw, tu];congr 5;rcases Nat.eq_zero_or_pos m with h0 | h0
 · subst h0; rw [aN]
 · have : ag m ≠ 0 := fun e => by have := cH.1 e; omega
   simp; omega
set_option maxHeartbeats 1000000 in
theorem kT (n : Bool) (ao : Option Addr) (len cap : Nat) (w : World) :
 Calls Try.prog 34 #[.bool n, .slice ao len cap] w fun e w' => e = .returned (.agg #[.bool (n && decide (0 < len)), .slice ao len cap]) /\ Below w.heap.size w w' := by
 go_enter Try.func34, Try.ntmps34;cases n
 · go_wp2;exact bodyPost_ret (v := .agg #[.bool false, .slice ao len cap]) (by simp [results, Try.results34, go_sem]) rfl ⟨rfl, (Below.refl _ _).alloc (Nat.le_refl _) _⟩
 · go_wp2;exact bodyPost_ret (v := .agg #[.bool (decide (0 < len)), .slice ao len cap]) (by simp [results, Try.results34, go_sem]) rfl ⟨by simp, (Below.refl _ _).alloc (Nat.le_refl _) _⟩
theorem gm (w : World) (c1 c2 : Array Value) (t1 t2 : TypeId) : ah ((w.alloc (.cells c1 t1)).alloc (.cells c2 t2)) w.heap.size t1 c1.toList /\ ah ((w.alloc (.cells c1 t1)).alloc (.cells c2 t2)) (w.heap.size + 1) t2 c2.toList /\
 Below w.heap.size w ((w.alloc (.cells c1 t1)).alloc (.cells c2 t2)) := by
 have e : (w.alloc (.cells c1 t1)).heap.size = w.heap.size + 1 := by simp
 refine ⟨(ah.new w c1 t1).alloc _, ?_, ((Below.refl _ _).alloc (Nat.le_refl _) _).alloc (by omega) _⟩;have := ah.new (w.alloc (.cells c1 t1)) c2 t2
 rwa [e] at this
theorem cJ.fC {w : World} {B : Nat} {ao : Option Addr} {len cap : Nat} {ws : List Nat} (h : cJ w B ao len cap ws) {p : Addr} (hp : p.block < B) (v : Value) : cJ (w.setCell p v) B ao len cap ws := by
 obtain ⟨h1, h2, h3, h4⟩ := h;refine ⟨h1, h2, h3, ?_⟩;rcases h4 with h0 | ⟨g, c, cur, hv, hbb, hg, r⟩
 · exact .inl h0
 · exact .inr ⟨g, c, cur, hv, hbb, by rw [Below.heap_setCell _ _ _ _ (by omega)]; exact hg, r⟩
theorem bJ {fn : Func} {p : Tmp} (h : fn.results = #[.cell p 27]) (tmps : Array Value) (w : World) (g : Nat) (a b : Value) (hp : tmps.getD p undef = .pointer (some ⟨g, 0, none⟩)) (hr : ah w g 27 [a, b]) :
 (results fn tmps).run Try.prog w = .ok (.agg #[a, b]) w :=
 results_cell_row h tmps w g 27 #[a, b] (0, 0) _ hp hr Try.underlying27 rfl (by kernel_rfl)
theorem ah.jy {w : World} {b : Nat} {t : TypeId} {x y : Value} (h : ah w b t [x, y]) (u v : Value) : ah ((w.setCell ⟨b, 0, none⟩ u).setCell ⟨b, 1, none⟩ v) b t [u, v] := by
 have := (h.set 0 u).set 1 v;exact this
set_option maxRecDepth 100000 in
set_option maxHeartbeats 1000000 in
theorem fJ (v : Value) (x : Int) (w : World) (hA : aw w 17592186044415 v x) :
 Calls Try.prog 33 #[v] w fun e w' => (∃ v', e = .returned v' /\ ak w' w.heap.size v' x) /\ Below w.heap.size w w' := by
 obtain ⟨n, ao, len, cap, ws, rfl, hW, hl, hL, hc, hx⟩ := hA;have Hx := Lib.hid hx; clear hx;have Hl := Lib.hid hl; clear hl;go_enter Try.func33, Try.ntmps33;go_wp2;obtain ⟨r1, r2, hb⟩ := gm w #[.bool n, .slice ao len cap] #[.bool false, .slice none 0 0] 27 27;have hW2 := hW.below hb;generalize (w.alloc (.cells #[.bool n, .slice ao len cap] 27)).alloc (.cells #[.bool false, .slice none 0 0] 27) = w2 at *;have e1 : w2.cell? ⟨w.heap.size, 0, none⟩ = some (.bool n) := r1.cell 0;have e2 : w2.cell? ⟨w.heap.size, 1, none⟩ = some (.slice ao len cap) := r1.cell 1;have hb1 := r1.lt;have hb2 := r2.lt;have Hr2 := Lib.hid r2;have HW2 := Lib.hid hW2;clear r1 r2 hW2
 go_region_held3 (fun w' => w'.cell? ⟨w.heap.size, 0, none⟩ = some (.bool n) /\ w'.cell? ⟨w.heap.size, 1, none⟩ = some (.slice ao len cap))
  (first | exact ⟨e1, e2⟩ | exact ⟨(hb3.cell hb1).trans e1, (hb3.cell hb1).trans e2⟩ | exact ⟨(hb5.cell (Nat.lt_succ_self _)).trans e1, (hb5.cell (Nat.lt_succ_self _)).trans e2⟩ | exact ⟨(((hb5.setCell (Nat.le_refl _) _).setCell (Nat.le_refl _) _).cell (Nat.lt_succ_self _)).trans e1, (((hb5.setCell (Nat.le_refl _) _).setCell (Nat.le_refl _) _).cell (Nat.lt_succ_self _)).trans e2⟩)
  (first
   | (go_at_call 45; refine (dU _ _ _ ws _ (by exact HW2.out) Hl.out (by omega)).mono ?_; rintro e w3 ⟨⟨ao', cap', rfl, hO⟩, hb3⟩)
   | (go_at_call 34; refine (kT n _ _ _ _).mono ?_; rintro e w4 ⟨rfl, hb4⟩; have hb5 : Below (w.heap.size + 1) w2.drew w4 := (hb3.trans (hb4.mono hb3.size)).mono (Nat.le_of_lt hb2); have hr4 := (ah.below (w := w2.drew) Hr2.out hb3 hb2).below hb4 (Nat.lt_of_lt_of_le hb2 hb3.size); have hf0 := hr4.free 0; have hf1 := hr4.free 1; have hc0 := hr4.cell 0; have hc1 := hr4.cell 1))
 go_wp2;have hr5 := hr4.jy (.bool (n && decide (0 < ag (aa ws)))) (.slice ao' (ag (aa ws)) cap');have hs2 : w.heap.size <= w2.heap.size := by omega
 have hbf : Below w.heap.size w w4 := (hb.drew.trans (hb3.mono hs2)).trans (hb4.mono (Nat.le_trans hs2 hb3.size));refine bodyPost_ret (bJ (p := 2) (by kernel_rfl) _ _ (w.heap.size + 1) _ _ rfl hr5) rfl ?_;rw [Hx.out];have hO' := (hO.mono (B' := w.heap.size + 2) (by show w.heap.size + 2 <= w2.heap.size; omega)).below hb4;exact ⟨⟨_, rfl, ak.mk n (((hO'.fC (by show w.heap.size + 1 < w.heap.size + 2; omega) _).fC (by show w.heap.size + 1 < w.heap.size + 2; omega) _).mono (by omega))⟩, (hbf.setCell (Nat.le_succ _) _).setCell (Nat.le_succ _) _⟩
def jf (n : Nat) : Prop := ∀ (aoA aoB : Option Addr) (lA cA lB cB : Nat) (xs ys : List Nat) (w : World), cf w aoA xs -> cf w aoB ys -> lA = xs.length -> lB = ys.length -> lA <= cA -> lB <= cB -> lA + lB < n -> lA + lB <= 17592186044416 ->
 Calls Try.prog 60 #[.slice aoA lA cA, .slice aoB lB cB] w fun e w' => ∃ b zs, e = .returned (.slice (some ⟨b, 0, none⟩) (au xs + au ys) (au xs + au ys)) /\ r6 w w' b zs /\ zs.length = au xs + au ys /\ aa zs = aa xs * aa ys
theorem o9 {w w' : World} (h : Below w.heap.size w w') (r : Option Nat) : w.grownBy w' r := ⟨h.os, h.tape, h.output, h.size, fun k hk _ => h.block k hk⟩
theorem ic {cur cur' : List Nat} {o lz cr N : Nat} (hl : cur.length = o + lz) (hl' : cur'.length = o + lz) (hs : ∀ j, j < o ∨ o + lz <= j -> gw cur' j = gw cur j) (he : sv cur' o lz + W ^ lz * cr = sv cur o lz + N) :
 aa cur' + W ^ (o + lz) * cr = aa cur + W ^ o * N := by
 have e1 : aa cur' = sv cur' 0 o + W ^ o * sv cur' o lz := by rw [<- ee, hl', jY, Nat.zero_add]
 have e2 : aa cur = sv cur 0 o + W ^ o * sv cur o lz := by rw [<- ee, hl, jY, Nat.zero_add]
 have e3 : sv cur' 0 o = sv cur 0 o := kW fun i hi => hs _ (by omega);rw [e1, e2, e3, Nat.pow_add, Nat.mul_assoc];have : W ^ o * sv cur' o lz + W ^ o * (W ^ lz * cr) = W ^ o * sv cur o lz + W ^ o * N := by rw [<- Nat.mul_add, he, Nat.mul_add]
 omega
theorem nX {A B n cr : Nat} (h : A + W ^ n * cr = B) (hB : B < W ^ n) : cr = 0 := by
 refine Decidable.byContradiction fun hn => ?_;have h1 : W ^ n * 1 <= W ^ n * cr := Nat.mul_le_mul_left _ (by omega);rw [Nat.mul_one] at h1;omega
theorem kara {a0 a1 b0 b1 M : Nat} : (a0 + M * a1) * (b0 + M * b1) = a0 * b0 + M * ((a0 + a1) * (b0 + b1) - a0 * b0 - a1 * b1) + M * M * (a1 * b1) := by
 have e : (a0 + a1) * (b0 + b1) - a0 * b0 - a1 * b1 = a0 * b1 + a1 * b0 := by
  rw [Nat.add_mul, Nat.mul_add, Nat.mul_add]; omega
 rw [e, Nat.add_mul, Nat.mul_add, Nat.mul_add, Nat.mul_add];have e1 : a0 * (M * b1) = M * (a0 * b1) := Nat.mul_left_comm ..;have e2 : M * a1 * b0 = M * (a1 * b0) := Nat.mul_assoc ..;have e3 : M * a1 * (M * b1) = M * M * (a1 * b1) := by rw [Nat.mul_mul_mul_comm]
 rw [e1, e2, e3]; omega
set_option maxRecDepth 100000 in
set_option maxHeartbeats 2000000 in
theorem vn (n : Nat) (IH : jf n) (aoA aoB : Option Addr) (b lz cz lA cA lB cB : Nat) (xs ys : List Nat) (w : World) (hrow : ah w b 51 ((List.replicate (lA + lB) 0).map wv)) (hA : cf w aoA xs) (hB : cf w aoB ys)
 (hlA : lA = xs.length) (hlB : lB = ys.length) (hcA : cA = lA) (hcB : cB = lB) (hm : lA + lB <= 17592186044416) (hlz : lz = lA + lB) (hcz : cz = lz) (h24 : 24 <= lB) (hBA : lB <= lA) (h2 : lA < 2 * lB) (hn : lA + lB < n + 1)
 (hneA : iT aoA xs b) (hneB : iT aoB ys b) :
 Calls Try.prog 82 #[.slice (some ⟨b, 0, none⟩) lz cz, .slice aoA lA cA, .slice aoB lB cB] w fun e w' => e = .returned (.tuple #[]) /\ ∃ cur', aa cur' = aa xs * aa ys /\ ah w' b 51 (cur'.map wv) /\ Ok cur' /\ cur'.length = lA + lB /\ w.grownBy w' (some b) := by
 subst hlA hlB hcA hcB hlz hcz;obtain ⟨b1, o1, rfl, hb1, _⟩ := hA.pos (by omega);obtain ⟨b2, o2, rfl, hb2, _⟩ := hB.pos (by omega);obtain ⟨m, hh⟩ : ∃ m, m = (xs.length + 1) / 2 := ⟨_, rfl⟩;have g1 : 2 * m <= xs.length + 1 := by omega
 have g2 : xs.length <= 2 * m := by omega
 have hd : ((xs.length : Int) + 1) / 2 = (m : Int) := by omega
 have n1 : ¬ xs.length = m := by omega
 clear hh;have hIH := Lib.hid IH; clear IH;have W1 := Lib.hid (hA.take m);have W2 := Lib.hid (hA.drop m);have W3 := Lib.hid (hB.take m);have hL1 : (xs.take m).length = m := by rw [List.length_take]; omega
 have hL2 : (xs.drop m).length = xs.length - m := List.length_drop;have hL3 : m <= ys.length -> (ys.take m).length = m := fun h => by rw [List.length_take]; omega
 have hL4 : (ys.drop m).length = ys.length - m := List.length_drop;have HL1 := Lib.hid hL1; clear hL1;have HL2 := Lib.hid hL2; clear hL2;have HL3 := Lib.hid (hL3 (by omega)); clear hL3;have HL4 := Lib.hid hL4; clear hL4;have Hrow := Lib.hid hrow; clear hrow;obtain ⟨ad4, W4, hmy, hcase⟩ : ∃ ad4 : Option Addr, Hid (cf w ad4 (ys.drop m)) /\ m <= ys.length /\ Hid ((ys.length = m /\ ad4 = some ⟨b2, o2, none⟩) ∨ (m < ys.length /\ ad4 = some ⟨b2, o2 + m, none⟩)) := by
  by_cases hbm : ys.length = m
  · exact ⟨_, Lib.hid (by rw [List.drop_eq_nil_of_le (by omega)]; exact cf.nil _ _), by omega, Lib.hid (.inl ⟨hbm, rfl⟩)⟩
  · exact ⟨_, Lib.hid (hB.drop m), by omega, Lib.hid (.inr ⟨by omega, rfl⟩)⟩
 go_enter Try.func82, Try.ntmps82;go_wp2
 go_quiet (fail)
 go_upto_region 3 with (fail)
 go_cut [0, 2, 6, 7, 8, 9, 10] (fun s0 _ s6 s7 s8 s9 s10 wc => s0 = .slice (some ⟨b, 0, none⟩) (xs.length + ys.length) (xs.length + ys.length) /\ s6 = .int .i64 (m : Int) /\ s7 = .slice (some ⟨b1, o1, none⟩) m m /\
  s8 = .slice (some ⟨b1, o1 + m, none⟩) (xs.length - m) (xs.length - m) /\ s9 = .slice (some ⟨b2, o2, none⟩) m m /\ s10 = .slice ad4 (ys.length - m) (ys.length - m) /\ w.grownBy wc none)
 case first =>
  rcases hcase.out with ⟨hbm, rfl⟩ | ⟨hbm, rfl⟩
  · go_wp2
    go_quiet (fail)
    go_wp2
    go_meet
    exact ⟨by rw [hbm], rfl, rfl, rfl, rfl, by rw [hbm, Nat.sub_self], dF (dF (World.grownBy.refl _ _) _) _⟩
  · go_wp2
    go_quiet (fail)
    go_wp2
    go_meet
    exact ⟨rfl, rfl, rfl, rfl, rfl, rfl, dF (dF (World.grownBy.refl _ _) _) _⟩
 case rest =>
  obtain ⟨rfl, rfl, rfl, rfl, rfl, rfl, hg0⟩ := hcut;have hb0 : Below w.heap.size w wc := (Below.refl _ _).grown hg0 (Nat.le_refl _) (fun k e => by cases e);go_wp2_with fail
  refine (hIH.out _ _ _ _ _ _ (xs.take m) (ys.take m) _ (W1.out.below hb0) (W3.out.below hb0) HL1.out.symm HL3.out.symm (Nat.le_refl _) (Nat.le_refl _) (by omega) (by omega)).mono ?_;rintro e w3 ⟨b3, z3, rfl, hN3, hl3, hv3⟩;have hb3 : Below w.heap.size w w3 := hb0.trans (hN3.below.mono hb0.size);have Hl3 := Lib.hid hl3; clear hl3;have Hv3 := Lib.hid hv3; clear hv3;go_wp2_with fail
  refine (jI _ _ _ z3 _ (hN3.row.kx hN3.ok) Hl3.out.symm (by have := aD (xs.take m); have := aD (ys.take m); have := HL1.out; have := HL3.out; omega) (Nat.le_refl _)).mono ?_;rintro e w3' ⟨rfl, rfl⟩;go_wp2_with fail
  refine (hIH.out _ _ _ _ _ _ (xs.drop m) (ys.drop m) _ (W2.out.below hb3) (W4.out.below hb3) HL2.out.symm HL4.out.symm (Nat.le_refl _) (Nat.le_refl _) (by omega) (by omega)).mono ?_;rintro e w4 ⟨b4, z4, rfl, hN4, hl4, hv4⟩;have hb4 : Below w.heap.size w w4 := hb3.trans (hN4.below.mono hb3.size);have Hl4 := Lib.hid hl4; clear hl4;have Hv4 := Lib.hid hv4; clear hv4;go_wp2_with fail
  refine (jI _ _ _ z4 _ (hN4.row.kx hN4.ok) Hl4.out.symm (by have := aD (xs.drop m); have := aD (ys.drop m); have := HL2.out; have := HL4.out; omega) (Nat.le_refl _)).mono ?_;rintro e w4' ⟨rfl, rfl⟩;go_wp2_with fail
  refine (xY _ _ _ _ _ _ (xs.take m) (xs.drop m) _ (W1.out.below hb4) (W2.out.below hb4) HL1.out.symm HL2.out.symm (by omega) (by omega)).mono ?_;rintro e w5 ⟨b5, z5, rfl, hN5, hl5, hv5⟩;have hb5 : Below w.heap.size w w5 := hb4.trans (hN5.below.mono hb4.size);have Hl5 := Lib.hid hl5; clear hl5;have Hv5 := Lib.hid hv5; clear hv5;go_wp2_with fail
  refine (xY _ _ _ _ _ _ (ys.take m) (ys.drop m) _ (W3.out.below hb5) (W4.out.below hb5) HL3.out.symm HL4.out.symm (by omega) (by omega)).mono ?_;rintro e w6 ⟨b6, z6, rfl, hN6, hl6, hv6⟩;have hb6 : Below w.heap.size w w6 := hb5.trans (hN6.below.mono hb5.size);have Hl6 := Lib.hid hl6; clear hl6;have Hv6 := Lib.hid hv6; clear hv6;go_wp2_with fail
  refine (hIH.out _ _ _ _ _ _ z5 z6 _ ((hN5.row.kx hN5.ok).below hN6.below) (hN6.row.kx hN6.ok) Hl5.out.symm Hl6.out.symm (Nat.le_refl _) (Nat.le_refl _) (by omega) (by omega)).mono ?_;rintro e w7 ⟨b7, z7, rfl, hN7, hl7, hv7⟩;have hb7 : Below w.heap.size w w7 := hb6.trans (hN7.below.mono hb6.size);have Hl7 := Lib.hid hl7; clear hl7;have Hv7 := Lib.hid hv7; clear hv7;have hTX : (aa (xs.take m) + W ^ m * aa (xs.drop m)) = aa xs := (dP xs m (by omega)).symm;have hTY : (aa (ys.take m) + W ^ m * aa (ys.drop m)) = aa ys := (dP ys m (by omega)).symm;have HT := Lib.hid (And.intro hTX hTY); clear hTX hTY;have k3 : au z3 <= au z7 := by
   rw [<- bD hN3.ok, <- bD hN7.ok];refine aH ?_;rw [Hv3.out, Hv7.out, Hv5.out, Hv6.out, Nat.add_mul, Nat.mul_add]; omega
  have k4 : au z4 <= au z7 := by
   rw [<- bD hN4.ok, <- bD hN7.ok];refine aH ?_;rw [Hv4.out, Hv7.out, Hv5.out, Hv6.out, Nat.add_mul, Nat.mul_add, Nat.mul_add]; omega
  have k7 := aD z7;have k8 := aD z5;have k9 := aD z6;rw [Hl5.out] at k8;rw [Hl6.out] at k9;rw [Hl7.out] at k7;have hW3 : cf w7 (some ⟨b3, 0, none⟩) (z3.take (au z3)) := ((((hN3.row.kx hN3.ok).below hN4.below).below hN5.below).below hN6.below).below hN7.below |>.take _;have hW4 : cf w7 (some ⟨b4, 0, none⟩) (z4.take (au z4)) := (((hN4.row.kx hN4.ok).below hN5.below).below hN6.below).below hN7.below |>.take _;have hl3t : (z3.take (au z3)).length = au z3 := by rw [List.length_take, Nat.min_eq_left (aD _)]
  have hl4t : (z4.take (au z4)).length = au z4 := by rw [List.length_take, Nat.min_eq_left (aD _)]
  have hv3t : aa (z3.take (au z3)) = aa (xs.take m) * aa (ys.take m) := by rw [aY hN3.ok, Hv3.out]
  have hv4t : aa (z4.take (au z4)) = aa (xs.drop m) * aa (ys.drop m) := by rw [aY hN4.ok, Hv4.out]
  have n37 : b3 ≠ b7 := by have := hN7.ge; have := (hN3.row.lt); have := hN4.below.size; have := hN5.below.size; have := hN6.below.size; omega
  have n47 : b4 ≠ b7 := by have := hN7.ge; have := (hN4.row.lt); have := hN5.below.size; have := hN6.below.size; omega
  have HL3t := Lib.hid hl3t; clear hl3t;have HL4t := Lib.hid hl4t; clear hl4t;have HV3t := Lib.hid hv3t; clear hv3t;have HV4t := Lib.hid hv4t; clear hv4t;go_wp2_with fail
  refine (mG _ _ b7 0 _ _ _ _ (z3.take (au z3)) z7 _ hN7.row hN7.ok (.inr rfl) (by have := Hl7.out; omega) hW3 (fun _ a ha => by cases ha; exact n37) HL3t.out.symm (by omega) (by have := Hl7.out; omega)
   (by have := Hl7.out; rw [<- this, ee, HV3t.out, Hv7.out, Hv5.out, Hv6.out, Nat.add_mul, Nat.mul_add]; omega)).mono ?_
  rintro e w8 ⟨rfl, z8, hR8, _, hs8⟩;have hv8 : aa z8 = (aa (xs.take m) + aa (xs.drop m)) * (aa (ys.take m) + aa (ys.drop m)) - aa (xs.take m) * aa (ys.take m) := by
   rw [<- Hl7.out, ee, HV3t.out, Hv7.out, Hv5.out, Hv6.out] at hs8;have := hR8.len;rw [<- this, ee] at hs8;omega
  have Hv8 := Lib.hid hv8; clear hv8;clear hs8;have hW4' := hW4.grown hR8.grown (fun _ a ha => by cases ha; exact n47);go_wp2_with fail
  refine (mG _ _ b7 0 _ _ _ _ (z4.take (au z4)) z8 _ hR8.row hR8.ok (.inr rfl) (by have := Hl7.out; have := hR8.len; omega) hW4' (fun _ a ha => by cases ha; exact n47) HL4t.out.symm (by omega) (by have := Hl7.out; have := hR8.len; omega)
   (by have := Hl7.out; rw [<- this, <- hR8.len, ee, HV4t.out, Hv8.out, Nat.add_mul, Nat.mul_add, Nat.mul_add]; omega)).mono ?_
  rintro e w9 ⟨rfl, z9, hR9, _, hs9⟩;have hv9 : aa z9 = (aa (xs.take m) + aa (xs.drop m)) * (aa (ys.take m) + aa (ys.drop m)) - aa (xs.take m) * aa (ys.take m) - aa (xs.drop m) * aa (ys.drop m) := by
   rw [<- Hl7.out, <- hR8.len, ee, HV4t.out, Hv8.out] at hs9;have := hR9.len;rw [<- this, ee] at hs9;omega
  have Hv9 := Lib.hid hv9; clear hv9;clear hs9;have hb9 : Below w.heap.size w w9 := hR9.below (hR8.below hb7 (by have := hN7.ge; have := hb6.size; omega) hb7.size) (by have := hN7.ge; have := hb6.size; omega) (by have := hb7.size; have := hR8.grown.size; omega);have hr9 : ah w9 b 51 ((List.replicate (xs.length + ys.length) 0).map wv) := Hrow.out.below hb9 Hrow.out.lt;have hBb : b < w.heap.size := Hrow.out.lt;have hW3' : cf w9 (some ⟨b3, 0, none⟩) (z3.take (au z3)) := (hW3.grown hR8.grown (fun _ a ha => by cases ha; exact n37)).grown hR9.grown (fun _ a ha => by cases ha; exact n37);have hW4'' : cf w9 (some ⟨b4, 0, none⟩) (z4.take (au z4)) := hW4'.grown hR9.grown (fun _ a ha => by cases ha; exact n47);have q3 : au z3 <= xs.length + ys.length := by have := aD z3; have := Hl3.out; have := aD (xs.take m); have := aD (ys.take m); have := HL1.out; have := HL3.out; omega
  go_wp2_with (with_reducible show wpList _ _ _ (⟨some 55, _, _, _, _, _⟩ :: _) _ _; refine lH rfl _ _ rfl hW3' HL3t.out.symm hr9 rfl rfl (by simp) ?_; intro w10 hr10 hg10)
  obtain ⟨c10, hc10⟩ : ∃ c10, c10 = splice (List.replicate (xs.length + ys.length) 0) 0 ((z3.take (au z3)).take (xs.length + ys.length)) := ⟨_, rfl⟩;have hl10 : c10.length = xs.length + ys.length := by rw [hc10, length_splice _ _ _ (by simp [List.length_take]; omega)]; simp
  have hok10 : Ok c10 := by rw [hc10]; unfold splice; exact (Ok.replicate _).take _ |>.append (((hN3.ok.take _).take _).append ((Ok.replicate _).drop _))
  have hv10 : aa c10 = aa (xs.take m) * aa (ys.take m) := by
   have e : (z3.take (au z3)).take (xs.length + ys.length) = z3.take (au z3) := List.take_of_length_le (by rw [HL3t.out]; exact q3);rw [hc10, e, <- HV3t.out];simp only [splice, List.take_zero, List.nil_append, Nat.zero_add, List.drop_replicate];exact fi _ _
  rw [<- hc10] at hr10;clear hc10;have Hl10 := Lib.hid hl10; clear hl10;have Hv10 := Lib.hid hv10; clear hv10;have n4b : b4 ≠ b := by have := hN4.ge; have := hb3.size; omega
  have n7b : b7 ≠ b := by have := hN7.ge; have := hb6.size; omega
  have q4 : au z4 <= xs.length + ys.length - 2 * m := by have := aD z4; have := Hl4.out; have := aD (xs.drop m); have := aD (ys.drop m); have := HL2.out; have := HL4.out; omega
  refine (kN _ _ b (2 * m) _ _ _ _ (z4.take (au z4)) c10 _ hr10 hok10 (.inr rfl) (by have := Hl10.out; omega) (hW4''.grown hg10 (fun _ a ha => by cases ha; exact n4b)) (fun _ a ha => by cases ha; exact n4b) HL4t.out.symm q4 (by have := Hl10.out; omega)).mono ?_;rintro e w11 ⟨rfl, c11, cr, hR11, hcr, hs11, he11⟩;have ht11 := ic (o := 2 * m) (lz := xs.length + ys.length - 2 * m) (by have := Hl10.out; omega) (by have := Hl10.out; have := hR11.len; omega) hs11 he11;have Ht11 := Lib.hid ht11; clear ht11 hs11 he11;have hl9 : z9.length = au z5 + au z6 := by rw [hR9.len, hR8.len, Hl7.out]
  have Hl9 := Lib.hid hl9; clear hl9;have hW9 : cf w11 (some ⟨b7, 0, none⟩) z9 := ((hR9.row.kx hR9.ok).grown hg10 (fun _ a ha => by cases ha; exact n7b)).grown hR11.grown (fun _ a ha => by cases ha; exact n7b);have q9 : au z5 + au z6 <= 35184372088832 := by omega
  have hT := Lib.hid ((jI _ _ (au z5 + au z6) z9 w11.drew hW9 Hl9.out.symm q9 (Nat.le_refl _)).mono (fun _ _ h => (And.intro h.1 h.2.symm : _ /\ _ = w11.drew)));have s1 : (m : Int) <= (xs.length : Int) + (ys.length : Int) := by omega
  have s2 : ¬ (xs.length + ys.length = m) := by omega
  go_wp2
  go_still_tail 5, (by kernel_rfl)
  still_call hT.out
  refine wpStill_nil ?_;have hK : aa xs * aa ys = aa (xs.take m) * aa (ys.take m) + W ^ m * aa z9 + W ^ m * W ^ m * (aa (xs.drop m) * aa (ys.drop m)) := by
   rw [<- HT.out.1, <- HT.out.2, Hv9.out]; exact kara
  have hlt : aa xs * aa ys < W ^ (xs.length + ys.length) := by
   rw [Nat.pow_add];have h1 := ct hA.ok;have h2 := ct hB.ok;exact Nat.mul_lt_mul_of_le_of_lt (Nat.le_of_lt h1) h2 (Nat.pow_pos aS)
  have hmid : aa z9 < W ^ (xs.length + ys.length - m) := by
   have e : W ^ m * W ^ (xs.length + ys.length - m) = W ^ (xs.length + ys.length) := by rw [<- Nat.pow_add]; congr 1; omega
   have : W ^ m * aa z9 < W ^ m * W ^ (xs.length + ys.length - m) := by rw [e]; omega
   exact Nat.lt_of_mul_lt_mul_left this
  have q10 : au z9 <= xs.length + ys.length - m := by rw [<- bD hR9.ok]; exact an hmid
  have hl9t : (z9.take (au z9)).length = au z9 := by rw [List.length_take, Nat.min_eq_left (aD _)]
  have HK := Lib.hid hK; clear hK;have Hlt := Lib.hid hlt; clear hlt;have Hl9t := Lib.hid hl9t; clear hl9t;clear hmid;go_wp2_with fail
  refine (kN _ _ b m _ _ _ _ (z9.take (au z9)) c11 _ hR11.row.drew hR11.ok (.inr rfl) (by have := Hl10.out; have := hR11.len; omega) (hW9.take (au z9)) (fun _ a ha => by cases ha; exact n7b) Hl9t.out.symm q10 (by have := Hl10.out; have := hR11.len; omega)).mono ?_;rintro e w12 ⟨rfl, c12, cr2, hR12, hcr2, hs12, he12⟩;have ht12 := ic (o := m) (lz := xs.length + ys.length - m) (by have := Hl10.out; have := hR11.len; omega) (by have := Hl10.out; have := hR11.len; have := hR12.len; omega) hs12 he12;have Ht12 := Lib.hid ht12; clear ht12 hs12 he12;go_wp2
  go_end0
  refine ⟨rfl, c12, ?_, hR12.row, hR12.ok, by rw [hR12.len, hR11.len, Hl10.out], ?_⟩
  · have e1 := Ht11.out;have e2 := Ht12.out;have e3 := HK.out;have e4 := Hlt.out;have n1 : 2 * m + (xs.length + ys.length - 2 * m) = xs.length + ys.length := by omega
    have n2 : m + (xs.length + ys.length - m) = xs.length + ys.length := by omega
    rw [n1, Hv10.out, HV4t.out] at e1;rw [n2, aY hR9.ok] at e2;have n3 : W ^ (2 * m) = W ^ m * W ^ m := by rw [<- Nat.pow_add]; congr 1; omega
    rw [n3] at e1;have c1 : cr = 0 := nX e1 (by omega);rw [c1, Nat.mul_zero] at e1;have c2 : cr2 = 0 := nX e2 (by omega);rw [c2, Nat.mul_zero] at e2;omega
  · exact ie (l8 (ie (ie (o9 hb9 _) hg10) hR11.grown)) hR12.grown
set_option maxRecDepth 100000 in
set_option maxHeartbeats 2000000 in
theorem nD (n : Nat) (IH : jf n) : jf (n + 1) := by
 intro aoA aoB lA cA lB cB xs ys w hA hB hlA hlB hcA hcB hn hm;subst hlA hlB;have hIH := Lib.hid IH; clear IH;have htA := aD xs;have htB := aD ys;have W1 := Lib.hid (hA.take (au xs));have W2 := Lib.hid (hB.take (au ys));have L1 : Hid ((xs.take (au xs)).length = au xs) := by rw [List.length_take, Nat.min_eq_left htA]; exact rfl
 have L2 : Hid ((ys.take (au ys)).length = au ys) := by rw [List.length_take, Nat.min_eq_left htB]; exact rfl
 have V1 : Hid (aa (xs.take (au xs)) = aa xs) := aY hA.ok;have V2 : Hid (aa (ys.take (au ys)) = aa ys) := aY hB.ok;go_enter Try.func60, Try.ntmps60
 go_upto_if 16 with (go_at_call 79; first | ((with_reducible refine (jI aoA _ _ xs _ hA rfl (by omega) hcA).mono ?_); rintro e w' ⟨rfl, rfl⟩) | ((with_reducible refine (jI aoB _ _ ys _ hB rfl (by omega) hcB).mono ?_); rintro e w' ⟨rfl, rfl⟩))
 go_cut [0, 1] (fun s0 s1 wc => ∃ (ao1 ao2 : Option Addr) (as_ bs : List Nat) (l1 l2 : Nat), s0 = .slice ao1 l1 l1 /\ s1 = .slice ao2 l2 l2 /\ cf w ao1 as_ /\ cf w ao2 bs /\ l2 <= l1 /\ Hid (l1 = as_.length) /\ Hid (l2 = bs.length) /\ Hid (l1 + l2 = au xs + au ys) /\ l1 + l2 < n + 1 /\ l1 + l2 <= 17592186044416 /\
  Hid (aa as_ * aa bs = aa xs * aa ys) /\ w = wc)
 case first =>
  by_cases hlt : au xs < au ys
  · have t1 : decide (((au xs : Nat) : Int) < ((au ys : Nat) : Int)) = true := by simp; omega
    go_wp2
    go_meet
    exact ⟨_, _, ys.take (au ys), xs.take (au xs), _, _, rfl, rfl, W2.out, W1.out, by omega, L2.out.symm, L1.out.symm, Lib.hid (by omega), by omega, by omega, Lib.hid (by rw [V1.out, V2.out, Nat.mul_comm]), rfl⟩
  · have t1 : decide (((au xs : Nat) : Int) < ((au ys : Nat) : Int)) = false := by simp; omega
    go_wp2
    go_meet
    exact ⟨_, _, xs.take (au xs), ys.take (au ys), _, _, rfl, rfl, W1.out, W2.out, by omega, L1.out.symm, L2.out.symm, Lib.hid rfl, by omega, by omega, Lib.hid (by rw [V1.out, V2.out]), rfl⟩
 case rest =>
  obtain ⟨ao1, ao2, as_, bs, l1, l2, rfl, rfl, h1, h2, hle, e1, e2, hsum, hn', hm', hprod, rfl⟩ := hcut;by_cases h24 : l2 < 24
  · have t1 : decide (((l2 : Nat) : Int) < 24) = true := by simp; omega
    go_wp2_with (first
     | (at_make; refine dx rfl _ _ rfl (l1 + l2) (l1 + l2) rfl rfl (by omega) (by omega) (Nat.le_refl _) (by omega) ?_; intro b w1 hm1)
     | (go_at_call 80; refine (zb _ _ b _ _ _ _ _ _ as_ bs _ hm1.row (h1.below hm1.below) (h2.below hm1.below) e1.out e2.out (by omega) rfl (h1.apart (Nat.le_of_eq hm1.at_.symm)) (h2.apart (Nat.le_of_eq hm1.at_.symm))).mono ?_; rintro e w2 ⟨rfl, cur', hR, hv⟩; have Hv := Lib.hid hv; clear hv))
    have hge : w.heap.size <= b := Nat.le_of_eq hm1.at_.symm;go_ret;refine ⟨b, cur', ?_, ⟨hR.row, hR.ok, hge, hR.below hm1.below hge hm1.below.size⟩, ?_, ?_⟩
    · rw [<- hsum.out]; rfl
    · rw [hR.len, List.length_replicate, hsum.out]
    · rw [Hv.out, hprod.out]
  · have t1 : decide (((l2 : Nat) : Int) < 24) = false := by simp; omega
    by_cases h2l : l1 < 2 * l2
    · have t2 : decide ((2 : Int) * ((l2 : Nat) : Int) <= ((l1 : Nat) : Int)) = false := by simp; omega
      go_wp2_with (first
       | (at_make; refine dx rfl _ _ rfl (l1 + l2) (l1 + l2) rfl rfl (by omega) (by omega) (Nat.le_refl _) (by omega) ?_; intro b w1 hm1)
       | (go_at_call 82; refine (vn n hIH.out _ _ b _ _ _ _ _ _ as_ bs _ hm1.row (h1.below hm1.below) (h2.below hm1.below) e1.out e2.out rfl rfl (by omega) rfl rfl (by omega) (by omega) (by omega) (by omega) (h1.apart (Nat.le_of_eq hm1.at_.symm)) (h2.apart (Nat.le_of_eq hm1.at_.symm))).mono ?_; rintro e w2 ⟨rfl, cur', hv, hr, hok, hlen, hg⟩; have Hv := Lib.hid hv; clear hv; have Hlen := Lib.hid hlen; clear hlen))
      have hge : w.heap.size <= b := Nat.le_of_eq hm1.at_.symm;go_ret;refine ⟨b, cur', ?_, ⟨hr, hok, hge, hm1.below.grown hg hm1.below.size (fun k e => by cases e; exact hge)⟩, ?_, ?_⟩
      · rw [<- hsum.out]; rfl
      · rw [Hlen.out, hsum.out]
      · rw [Hv.out, hprod.out]
    · have t2 : decide ((2 : Int) * ((l2 : Nat) : Int) <= ((l1 : Nat) : Int)) = true := by simp; omega
      go_wp2_with (first
       | (at_make; refine dx rfl _ _ rfl (l1 + l2) (l1 + l2) rfl rfl (by omega) (by omega) (Nat.le_refl _) (by omega) ?_; intro b w1 hm1))
      have hge : w.heap.size <= b := Nat.le_of_eq hm1.at_.symm;go_loopw [6] (fun i wr => ∃ (k q : Nat) (cu : List Nat), k = q * l2 /\ k < l1 + l2 /\ i = .int .i64 k /\ ah wr b 51 (cu.map wv) /\ Ok cu /\ cu.length = l1 + l2 /\ Below w.heap.size w wr /\ Hid (aa cu = aa (as_.take k) * aa bs)) (fun i _ => l1 + l2 - (intOf i).toNat)
      case atStart => exact ⟨0, 0, _, by omega, by omega, rfl, hm1.row, Ok.replicate _, by simp, hm1.below, Lib.hid (by rw [fe]; simp [aa])⟩
      case round =>
       obtain ⟨k, q, cu, hkq, hk, rfl, hrow, hok, hlen, hb, He⟩ := hrel;have Hkq := Lib.hid hkq; clear hkq;have Hlen := Lib.hid hlen; clear hlen;by_cases hlt : k < l1
       · obtain ⟨b1, o1, rfl, hb1, _⟩ := h1.pos (by have := e1.out; omega);obtain ⟨en, hen⟩ : ∃ en, en = min (k + l2) l1 := ⟨_, rfl⟩;have hmin : min ((k : Int) + (l2 : Int)) (l1 : Int) = (en : Int) := by omega
         have b1' : k < en := by omega
         have b2' : en <= l1 := by omega
         have b3' : en - k <= l2 := by omega
         have b4' : en = k + l2 ∨ en = l1 := by omega
         have Hen := Lib.hid b4'; clear b4' hen;have b5 : ¬ (en = k) := by omega
         have b6 : ¬ (l1 + l2 = k) := by omega
         have b7 : (en : Int) <= (l1 : Int) := by omega
         have b8 : (k : Int) <= (en : Int) := by omega
         have b9 : (k : Int) <= (l1 : Int) + (l2 : Int) := by omega
         have S1 : Hid (cf wr (some ⟨b1, o1 + k, none⟩) ((as_.drop k).take (en - k))) := ((h1.below hb).drop k).take _;have S1l : Hid (((as_.drop k).take (en - k)).length = en - k) := by unfold Hid; rw [List.length_take, List.length_drop]; have := e1.out; omega
         have S2 : Hid (cf wr ao2 bs) := h2.below hb;have t3 := aD ((as_.drop k).take (en - k));rw [S1l.out] at t3;have t4 := aD bs;rw [<- e2.out] at t4;have hbw : b < wr.heap.size := hrow.lt;have Hrow := Lib.hid hrow; clear hrow;go_wp2
         go_region_held3 (fun _ => True) (trivial)
          (first
           | (go_at_call 60; refine (hIH.out _ _ _ _ _ _ ((as_.drop k).take (en - k)) bs _ (by exact S1.out) (by exact S2.out) S1l.out.symm e2.out (Nat.le_refl _) (Nat.le_refl _) (by omega) (by omega)).mono ?_; rintro e w3 ⟨b3, z3, rfl, hN3, hl3, hv3⟩; have Hl3 := Lib.hid hl3; clear hl3; have Hv3 := Lib.hid hv3; clear hv3)
           | (go_at_call 79; refine (jI _ _ _ z3 _ (hN3.row.kx hN3.ok) Hl3.out.symm (by omega) (Nat.le_refl _)).mono ?_; rintro e w4 ⟨rfl, rfl⟩)
           | (go_at_call 81; have hr3 : ah w3 b 51 (cu.map wv) := ah.below (w := wr.drew) Hrow.out hN3.below hbw; have n3b : b3 ≠ b := (by have h : wr.heap.size <= b3 := hN3.ge; omega); have t5 := aD z3; have t6 := Hl3.out; refine (kN _ _ b k _ _ _ _ (z3.take (au z3)) cu _ hr3 hok (.inr rfl) (by have := Hlen.out; omega) ((hN3.row.kx hN3.ok).take _) (fun _ a ha => by cases ha; exact n3b) (by rw [List.length_take]; omega) (by omega) (by have := Hlen.out; omega)).mono ?_; rintro e w5 ⟨rfl, c5, cr, hR5, hcr, hs5, he5⟩; have Hs5 := Lib.hid hs5; clear hs5; have He5 := Lib.hid he5; clear he5))
         go_wp2;go_roundw
         case rel =>
          have hx : sv as_ 0 en = sv as_ 0 k + W ^ k * sv as_ k (en - k) := by
           have := jY as_ 0 k (en - k);rw [Nat.zero_add] at this;rw [<- this]; congr 1; omega
          rw [kL, kL] at hx;have hx2 : aa (as_.take (k + l2)) = aa (as_.take en) := by
           rcases Hen.out with h | h
           · rw [h]
           · rw [List.take_of_length_le (by have := e1.out; omega), List.take_of_length_le (by have := e1.out; omega)]
          have ht := ic (o := k) (lz := l1 + l2 - k) (by have := Hlen.out; omega) (by have := Hlen.out; have := hR5.len; omega) Hs5.out He5.out;have n1 : k + (l1 + l2 - k) = l1 + l2 := by omega
          have hz : aa (z3.take (au z3)) = sv as_ k (en - k) * aa bs := by rw [aY hN3.ok, Hv3.out]; rfl
          have hlt' : aa (as_.take en) * aa bs < W ^ (l1 + l2) := by
           rw [Nat.pow_add];have q1 := ct (h1.ok.take en);have q2 := ct h2.ok;rw [<- e2.out] at q2;refine Nat.mul_lt_mul_of_le_of_lt (Nat.le_trans (Nat.le_of_lt q1) (Nat.pow_le_pow_right aS ?_)) q2 (Nat.pow_pos aS);rw [List.length_take]; omega
          rw [n1, He.out, hz] at ht;have hs : aa (as_.take en) * aa bs = aa (as_.take k) * aa bs + W ^ k * (sv as_ k (en - k) * aa bs) := by rw [hx, Nat.add_mul, Nat.mul_assoc]
          rw [<- hs] at ht;have hc0 := nX ht hlt';rw [hc0, Nat.mul_zero, Nat.add_zero] at ht;have hb5 : Below w.heap.size w w5 := hR5.below (hb.drew.trans (hN3.below.mono hb.size)) hge (by have := hN3.below.size; have h : wr.drew.heap.size = wr.heap.size := rfl; have := hb.size; omega);exact ⟨k + l2, q + 1, c5, by have := Hkq.out; rw [Nat.add_mul, Nat.one_mul]; omega, by omega, by go_num, hR5.row, hR5.ok, by rw [hR5.len, Hlen.out], hb5, Lib.hid (by rw [hx2]; exact ht)⟩
         case measure => simp [intOf]; omega
       · go_wp2;go_ret;refine ⟨b, cu, ?_, ⟨hrow, hok, hge, hb⟩, ?_, ?_⟩
         · rw [<- hsum.out]; rfl
         · rw [Hlen.out, hsum.out]
         · rw [He.out, List.take_of_length_le (by have := e1.out; omega), hprod.out]
theorem qe (n : Nat) : jf n := by
 induction n with
 | zero =>
  intro aoA aoB lA cA lB cB xs ys w hA hB hlA hlB hcA hcB hn hm;omega
 | succ n ih => exact nD n ih
set_option maxHeartbeats 1000000 in
theorem yF (aoA aoB : Option Addr) (lA cA lB cB : Nat) (xs ys : List Nat) (w : World) (hA : cf w aoA xs) (hB : cf w aoB ys) (hlA : lA = xs.length) (hlB : lB = ys.length) (hcA : lA <= cA) (hcB : lB <= cB) (hm : lA + lB <= 17592186044416) :
 Calls Try.prog 35 #[.slice aoA lA cA, .slice aoB lB cB] w fun e w' =>
  (∃ ao' cap', e = .returned (.slice ao' (ag (aa xs * aa ys)) cap') /\ cJ w' w.heap.size ao' (ag (aa xs * aa ys)) cap' (ez (aa xs * aa ys))) /\ Below w.heap.size w w' := by
 subst hlA hlB;have t1 := aD xs;have t2 := aD ys;go_enter Try.func35, Try.ntmps35;go_wp2_with (first
  | (go_at_call 60; refine (qe _ _ _ _ _ _ _ xs ys _ hA hB rfl rfl hcA hcB (Nat.lt_succ_self _) hm).mono ?_; rintro e w1 ⟨b, zs, rfl, hN, hl, hv⟩; have Hl := Lib.hid hl; clear hl; have Hv := Lib.hid hv; clear hv)
  | (go_at_call 45; refine (dU _ _ _ zs _ (hN.row.kx hN.ok) Hl.out.symm (by omega)).mono ?_; rintro e w2 ⟨⟨ao', cap', rfl, h1⟩, h2⟩))
 go_ret;rw [Hv.out] at h1 ⊢;exact ⟨⟨_, _, rfl, h1.mono hN.below.size⟩, hN.below.trans (h2.mono hN.below.size)⟩
end Go.Proofs.Ytjjlmfmoihooiaa
