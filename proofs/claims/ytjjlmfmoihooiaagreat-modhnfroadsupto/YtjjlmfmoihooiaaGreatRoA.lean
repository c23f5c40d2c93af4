/- Part 1 of 8 of the proof that the law ModhnfRoads returns true for every input of bulk at most 1048576 and leaves its arguments as they were. -/
import Derived.WalkKit
import Derived.Test.YtjjlmfmoihooiaaGreatProg
import Derived.Lib.Hide
import Derived.Shelf.Spec.BitsCarry
import Derived.Outline
import Derived.WalkSpells
import Derived.WalkLawsBesides
import Derived.BigQuiet
import Derived.Deep.QuietTactic
import Derived.Deep.DeepCutAuto
import Derived.Laws.CopyOwn
import Derived.Shelf.Small.Bits
import Derived.Shelf.Strconv.Itoa0
import Derived.Shelf.Bits.Mul64
import Derived.Lib.ItoaNum
import Derived.Deep.CutBlock
import Derived.RegionTactic
import Derived.BigRegion
import Derived.WalkMore
import Derived.Deep.RegionHeld3
import Derived.StillTailTactics
set_option linter.all false
set_option maxRecDepth 100000
set_option maxHeartbeats 2000000
namespace Go.Proofs.YtjjlmfmoihooiaaGreat
theorem Cp {p : Prop} (h : p := by omega) : p := h
theorem Cq {p : Prop} (h : p := by simp) : p := h
theorem Cr {p : Prop} (h : p := by decide) : p := h
theorem Cs {a : Type}  (x : a) : ∃ y, x = y := ⟨x, rfl⟩
def Ct := @Nat.le_refl
def Cu := @List.getElem_mem
def Cv := @And.intro
def Cw := @Nat.le_trans
def Cx := @Nat.zero_le
def Cy := @Nat.mul_le_mul_right
def CA := @Nat.mul_add
def CB := @List.mem_cons_of_mem
def CC := @List.mem_cons_self
def CD := @Nat.mul_le_mul_left
def CE := @Nat.mul_comm
def CH := @Int.mul_assoc
def CJ := @List.take_of_length_le
def CK := @Nat.lt_of_lt_of_le
def CL := @List.length_set
def CM := @List.pairwise_singleton
def CN := @Nat.mul_assoc
def CO := @Bool.and_eq_true
def CP := @Int.natAbs_mul
def CQ := @List.length_append
def CR := @Nat.le_of_ble_eq_true
def CS := @Int.mul_zero
def CT := @Nat.lt_of_le_of_lt
def CU := @Nat.pow_le_pow_right
def CX := @List.mem_nil_iff
def CY := @Nat.add_mul
def CZ := @List.length_take
def Da := @Nat.mul_le_mul
def Db := @Nat.zero_add
def Dc := @Int.mul_comm
def Dd := @Nat.pow_succ
def De := @Int.zero_mul
def Df := @Decidable.byContradiction
def Dg := @Nat.le_of_lt
def Dh := @List.getElem_of_mem
def Di := @List.mem_cons
def Dj := @Nat.div_lt_iff_lt_mul
def Dk := @Nat.mod_eq_of_lt
def Dl := @Nat.lt_trichotomy
def Dm := @Nat.mod_lt
def Dn := @Nat.eq_zero_or_pos
def Dp := @List.cons_append
def Dq := @Int.natCast_mul
def Dr := @Int.mul_left_comm
def Ds := @Nat.div_add_mod
def Dt := @List.nil_append
def Du := @Int.neg_mul
def Dv := @Nat.not_lt_zero
def Dw := @Nat.lt_succ_self
def Dx := @List.ext_getElem
def Dy := @Nat.mul_left_comm
def Dz := @Nat.succ_mul
def DA := @Nat.lt_irrefl
def DB := @Int.mul_add
def DC := @Int.eq_of_mul_eq_mul_left
def DD := @Nat.min_eq_left
def DE := @Bool.not_eq_true'
def DF := @Nat.pow_pos
def DG := @Classical.byContradiction
def DH := @Int.mul_ediv_cancel_left
def DI := @Array.getD_eq_getD_getElem?
def DJ := @Nat.le_of_eq
def DK := @Int.natAbs_neg
def DL := @List.getElem_set
def DM := @Int.mul_le_mul_of_nonneg_left
def DN := @List.sublist_append_right
def DO := @Int.emod_nonneg
def DP := @List.perm_middle
def DQ := @List.not_mem_nil
def DR := @Nat.pow_add
def DS := @List.mem_append_right
def DT := @Classical.axiomOfChoice
def DU := @Nat.mul_lt_mul_of_pos_left
def DV := @List.mem_append_left
def DW := @Int.sign_eq_neg_one_of_neg
def DX := @List.set_append_left
def DY := @Int.add_mul
def DZ := @List.append_nil
def D0 := @Nat.div_eq_of_lt
def D1 := @Int.le_of_lt
def D2 := @Nat.lt_of_mul_lt_mul_left
def D5 := @List.eq_nil_of_length_eq_zero
def D8 := @List.set_append_right
def D9 := @List.getElem_append_left
def Ea := @Nat.add_zero
def Eb := @Nat.two_pow_pos
def Ec := @Nat.div_le_self
def Ed := @Int.zero_add
def Ee := @Nat.mul_one
def Ef := @Int.eq_ofNat_of_zero_le
def Eg := @Int.mul_one
def Eh := @Nat.add_assoc
def Ei := @List.take_succ_eq_append_getElem
def Ej := @List.drop_eq_nil_of_le
def Ek := @Int.sign_eq_one_of_pos
def Em := @Int.one_mul
def Eo := @Nat.add_mul_mod_self_left
def Ep := @Nat.le_div_iff_mul_le
def Er := @List.length_cons
def Es := @Nat.add_sub_cancel
def Et := @Int.tmod_eq_emod
def Eu := @List.mem_of_mem_take
def Ev := @Nat.le_succ
def Ew := @Int.mul_neg
def Ex := @Int.toNat_natCast
def Ey := @List.range_succ
def Ez := @Nat.add_comm
def EA := @Nat.mul_lt_mul_of_pos_right
def EB := @List.perm_append_comm_assoc
def EC := @Int.pow_succ
def ED := @List.getElem_map
def EE := @Nat.lt_or_eq_of_le
def EF := @List.mem_or_eq_of_mem_set
def EG := @Int.natAbs_ediv_le_natAbs
def EH := @Bool.or_eq_true
def EI := @Int.mul_ne_zero
def EJ := @List.mem_of_mem_drop
def EK := @Array.all_eq_true
def EL := @List.append_assoc
def EM := @Int.mul_sub
def EN := @Int.mul_ediv_cancel'
def EO := @Nat.div_lt_of_lt_mul
def EP := @List.length_drop
def ER := @Nat.one_mul
def ES := @List.set_cons_succ
def ET := @List.map_set
def EU := @Int.natAbs_natCast
def EV := @Nat.lt_or_gt_of_ne
def EW := @Int.add_zero
def EX := @Nat.ne_of_gt
def EY := @Int.emod_lt_of_pos
def EZ := @Nat.mod_add_div
def E5 := @Nat.min_le_left
def E8 := @List.mem_filter
def E9 := @Nat.add_mul_div_right
def Fa := @List.length_replicate
def Fb := @Int.gcd_dvd_right
def Fc := @Int.lt_trichotomy
def Fe := @List.mem_of_getElem?
def Ff := @Nat.le_of_not_lt
def Fg := @Nat.zero_mul
def Fh := @Nat.mul_zero
def Fi := @Nat.mul_pos
def Fj := @Int.sub_mul
def W : Nat := 18446744073709551616
theorem bw : 0 < W := by unfold W; omega
theorem gG : 2 <= W := by unfold W; omega
def ae : List Nat -> Nat
 | [] => 0
 | x :: r => x + W * ae r
def gw (l : List Nat) (i : Nat) : Nat := l.getD i 0
def Ok (l : List Nat) : Prop := ∀ x ∈ l, x < W
def aw : List Nat -> Nat
 | [] => 0
 | x :: r => if aw r = 0 then (if x = 0 then 0 else 1) else aw r + 1
def fM (n : Nat) : List Nat := if h : n = 0 then [] else (n % W) :: fM (n / W)
termination_by n
decreasing_by exact Nat.div_lt_self Cp (gG)
theorem ea : fM 0 = [] := by unfold fM; simp
theorem iT {n : Nat} (h : n ≠ 0) : fM n = (n % W) :: fM (n / W) := by rw [fM]; simp [h]
def ag (n : Nat) : Nat := (fM n).length
theorem dh (n : Nat) : ae (fM n) = n := by
 induction n using Nat.strongRecOn with
 | _ n ih =>
  by_cases h : n = 0
  . subst h; simp [ea, ae]
  . rw [iT h, ae, ih _ (Nat.div_lt_self Cp gG)];exact EZ n W
theorem tR (n : Nat) : Ok (fM n) := by
 induction n using Nat.strongRecOn with
 | _ n ih =>
  by_cases h : n = 0
  . subst h; simp [ea, Ok]
  . rw [iT h];intro x hx;rcases List.mem_cons.1 hx with rfl | hx
    . exact Dm _ bw
    . exact ih _ (Nat.div_lt_self Cp gG) x hx
theorem Ok.nil : Ok [] := by simp [Ok]
theorem Ok.tail {x : Nat} {r : List Nat} (h : Ok (x :: r)) : Ok r := fun y hy => h y (CB _ hy)
theorem Ok.head {x : Nat} {r : List Nat} (h : Ok (x :: r)) : x < W := h x (CC ..)
theorem Ok.append {a b : List Nat} (ha : Ok a) (hb : Ok b) : Ok (a ++ b) := fun x hx => (List.mem_append.1 hx).elim (ha x) (hb x)
theorem Ok.take {l : List Nat} (h : Ok l) (k : Nat) : Ok (l.take k) := fun x hx => h x (Eu hx)
theorem Ok.drop {l : List Nat} (h : Ok l) (k : Nat) : Ok (l.drop k) := fun x hx => h x (EJ hx)
theorem Ok.set {l : List Nat} (h : Ok l) (k v : Nat) (hv : v < W) : Ok (l.set k v) := fun x hx => (EF hx).elim (h x) (fun e => e ▸ hv)
theorem Ok.get {l : List Nat} (h : Ok l) (k : Nat) : l.getD k 0 < W := by
 rw [List.getD_eq_getElem?_getD];cases hk : l[k]? with
 | none => simpa using bw
 | some v => exact h v (Fe hk)
theorem Ok.replicate (n : Nat) : Ok (List.replicate n 0) := fun x hx => by rw [List.eq_of_mem_replicate hx]; exact bw
theorem Ok.one {x : Nat} (h : x < W) : Ok [x] := by simpa [Ok] using h
theorem jG (a b : List Nat) : ae (a ++ b) = ae a + W ^ a.length * ae b := by
 induction a with
 | nil => simp [ae]
 | cons x r ih => simp only [Dp, ae, ih, Er, Dd, CA]; rw [CE (W ^ r.length) W, CN]; omega
theorem gy (n : Nat) : ae (List.replicate n 0) = 0 := by
 induction n with
 | zero => simp [ae]
 | succ n ih => simp [List.replicate_succ, ae, ih]
theorem dt {l : List Nat} (h : Ok l) : ae l < W ^ l.length := by
 induction l with
 | nil => simp [ae]
 | cons x r ih =>
  have h1 := h.head;have h2 := ih h.tail;simp only [ae, Er, Dd];have : W * (ae r + 1) <= W * W ^ r.length := CD _ h2;rw [CE (W ^ r.length) W];rw [CA] at this;omega
theorem eT (l : List Nat) (k : Nat) (hk : k <= l.length) : ae l = ae (l.take k) + W ^ k * ae (l.drop k) := by
 conv => lhs; rw [<- List.take_append_drop k l]
 rw [jG, CZ, DD hk]
theorem aK (l : List Nat) : aw l <= l.length := by
 induction l with
 | nil => simp [aw]
 | cons x r ih => simp only [aw, Er]; split <;> (try split) <;> omega
theorem kh (l : List Nat) (k : Nat) (hk : ∀ j, k <= j -> l.getD j 0 = 0) : aw l <= k := by
 induction l generalizing k with
 | nil => simp [aw]
 | cons x r ih =>
  simp only [aw];have h1 := ih (k - 1) (fun j hj => by have := hk (j + 1) Cp; simpa using this);split
  . split
    . omega
    . rcases Dn k with rfl | h
      . have := hk 0 Cp; simp at this; omega
      . omega
  . rename_i h0;have : k ≠ 0 := by
     rintro rfl;have h2 := ih 0 (fun j hj => by have := hk (j + 1) Cp; simpa using this);omega
    omega
theorem qB (l : List Nat) (k : Nat) (hk : l.getD k 0 ≠ 0) : k < aw l := by
 induction l generalizing k with
 | nil => simp at hk
 | cons x r ih =>
  simp only [aw];match k with
  | 0 => simp at hk; split <;> simp [hk]
  | k + 1 =>
   have := ih k (by simpa using hk);rw [if_neg Cp]; omega
theorem iN (l : List Nat) (k : Nat) (h : aw l <= k) : l.getD k 0 = 0 := by
 by_cases h0 : l.getD k 0 = 0
 . exact h0
 . have := qB l k h0; omega
theorem sj (l : List Nat) (h : aw l ≠ 0) : l.getD (aw l - 1) 0 ≠ 0 := by
 induction l with
 | nil => simp [aw] at h
 | cons x r ih =>
  simp only [aw] at h |-;by_cases h1 : aw r = 0
  . simp only [h1, if_true] at h |-;by_cases h2 : x = 0
    . simp [h2] at h
    . simp [h2]
  . simp only [h1, if_false] at h |-;have := ih h1;obtain ⟨k, hk⟩ : ∃ k, aw r = k + 1 := ⟨aw r - 1, by omega⟩;rw [hk] at this |-;simpa using this
theorem iz {l : List Nat} (h : Ok l) : fM (ae l) = l.take (aw l) := by
 induction l with
 | nil => simp [ae, ea]
 | cons x r ih =>
  have h1 := h.head;have h2 := ih h.tail;have hm : (x + W * ae r) % W = x := by rw [Eo, Dk h1]
  have hd : (x + W * ae r) / W = ae r := by rw [Nat.add_mul_div_left _ _ bw, D0 h1]; omega
  simp only [ae, aw];by_cases ht : aw r = 0
  . rw [ht] at h2;have hr : ae r = 0 := by have := dh (ae r); rw [h2] at this; simpa [ae] using this.symm
    by_cases hx : x = 0
    . subst hx; simp [ht, hr, ea]
    . have : x + W * ae r ≠ 0 := by omega
      rw [iT this, hm, hd, hr, ea]; simp [ht, hx]
  . have hr : ae r ≠ 0 := by
     intro e;rw [e, ea] at h2;have := congrArg List.length h2;simp [CZ] at this;have := aK r;omega
    have : x + W * ae r ≠ 0 := by have := bw; have := Fi this (Nat.pos_of_ne_zero hr); omega
    rw [iT this, hm, hd, h2]; simp [ht]
theorem bS {l : List Nat} (h : Ok l) : ag (ae l) = aw l := by
 unfold ag; rw [iz h, CZ, DD (aK l)]
theorem bH {l : List Nat} (h : Ok l) : ae (l.take (aw l)) = ae l := by rw [<- iz h, dh]
theorem gd {l : List Nat} (h : Ok l) : aw l = 0 ↔ ae l = 0 := by
 constructor
 . intro e; rw [<- bH h, e]; simp [ae]
 . intro e; rw [<- bS h, e]; simp [ag, ea]
theorem x3 (n : Nat) : aw (fM n) = (fM n).length := by
 have := bS (tR n); rw [dh] at this; exact this.symm
theorem bb : ag 0 = 0 := by simp [ag, ea]
theorem dx {n : Nat} : ag n = 0 ↔ n = 0 := by
 constructor
 . intro h;by_cases h0 : n = 0
   . exact h0
   . simp [ag, iT h0] at h
 . rintro rfl; exact bb
theorem bF (n : Nat) : n < W ^ ag n := by
 have := dt (tR n); rwa [dh] at this
theorem nC {n : Nat} (h : n ≠ 0) : W ^ (ag n - 1) <= n := by
 induction n using Nat.strongRecOn with
 | _ n ih =>
  have e : ag n = ag (n / W) + 1 := by simp [ag, iT h]
  rw [e, Es];by_cases h0 : n / W = 0
  . rw [h0, bb]; simp; omega
  . have := ih (n / W) (Nat.div_lt_self Cp gG) h0;have e2 : ag (n / W) = (ag (n / W) - 1) + 1 := by
     have : ag (n / W) ≠ 0 := fun e => h0 (dx.1 e);omega
    rw [e2, Dd];exact Cw (Cy _ this) (Nat.div_mul_le_self n W)
theorem an {n k : Nat} (h : n < W ^ k) : ag n <= k := by
 by_cases h0 : n = 0
 . subst h0; rw [bb]; omega
 . have h1 := nC h0;have h2 : W ^ (ag n - 1) < W ^ k := CT h1 h;have h3 := (Nat.pow_lt_pow_iff_right (a := W) (by unfold W; omega)).1 h2;omega
theorem aJ {a b : Nat} (h : a <= b) : ag a <= ag b := an (CT h (bF b))
theorem cT (a b : Nat) : ag (a * b) <= ag a + ag b := by
 apply an;rw [DR];have h1 := bF a;have h2 := bF b;exact Nat.mul_lt_mul_of_le_of_lt (Dg h1) h2 (DF bw)
theorem o4 (a b : Nat) : ag (a + b) <= max (ag a) (ag b) + 1 := by
 apply an;rw [Dd];have h1 := CK (bF a) (CU bw (Nat.le_max_left (ag a) (ag b)));have h2 := CK (bF b) (CU bw (Nat.le_max_right (ag a) (ag b)));have h3 : W ^ max (ag a) (ag b) * 2 <= W ^ max (ag a) (ag b) * W := CD _ gG;omega
theorem ec {l : List Nat} (h : Ok l) : ag (ae l) <= l.length := by rw [bS h]; exact aK l
theorem xh (l : List Nat) (k v : Nat) (hk : k < l.length) : ae (l.set k v) + W ^ k * l.getD k 0 = ae l + W ^ k * v := by
 induction l generalizing k with
 | nil => simp at hk
 | cons x r ih =>
  match k with
  | 0 => simp [ae]; omega
  | k + 1 =>
   have := ih k (by simpa using hk);simp only [ES, ae, List.getD_cons_succ, Dd];have e : W * (ae (r.set k v) + W ^ k * r.getD k 0) = W * (ae r + W ^ k * v) := by rw [this]
   rw [CA, CA, <- CN, <- CN] at e;rw [CE (W ^ k) W];omega
theorem ob (l : List Nat) (k : Nat) (hk : k < l.length) : l.take (k + 1) = l.take k ++ [l.getD k 0] := by
 rw [Ei hk]; simp [List.getD_eq_getElem?_getD, List.getElem?_eq_getElem hk]
theorem oe (l : List Nat) (k : Nat) (hk : k < l.length) : ae (l.take (k + 1)) = ae (l.take k) + W ^ k * l.getD k 0 := by
 rw [ob l k hk, jG, CZ, DD Cp]; simp [ae]
theorem mM (l : List Nat) (k : Nat) : ae (l.take (k + 1)) = ae (l.take k) + W ^ k * l.getD k 0 := by
 by_cases hk : k < l.length
 . exact oe l k hk
 . rw [CJ Cp, CJ Cp];simp [List.getD_eq_getElem?_getD, List.getElem?_eq_none (by omega : l.length <= k)]
theorem gS (l : List Nat) (k : Nat) : ae (l ++ List.replicate k 0) = ae l := by rw [jG, gy]; simp
theorem Ok.gw {l : List Nat} (h : Ok l) (k : Nat) : gw l k < W := h.get k
theorem aG (l : List Nat) (k : Nat) : ae (l.take (k + 1)) = ae (l.take k) + W ^ k * gw l k := mM l k
theorem jb {l : List Nat} (h : Ok l) (k : Nat) : ae (l.take k) < W ^ k :=
 CK (dt (h.take k)) (CU bw (by rw [CZ]; exact E5 ..))
theorem ke {a b : List Nat} (ha : Ok a) (_hb : Ok b) (k : Nat) (h : ∀ j, k < j -> gw a j = gw b j) (hk : gw a k < gw b k) : ae a < ae b := by
 have key : ∀ d, ae (a.take (k + 1 + d)) < ae (b.take (k + 1 + d)) := by
  intro d;induction d with
  | zero =>
   rw [Ea, aG, aG];have h1 := jb ha k;have h2 : W ^ k * (gw a k + 1) <= W ^ k * gw b k := CD _ hk;rw [CA] at h2;omega
  | succ d ih =>
   rw [<- Eh, aG, aG, h _ Cp];omega
 have := key (a.length + b.length)
 rwa [CJ Cp, CJ Cp] at this
theorem kg {a b : List Nat} (h : ∀ j, gw a j = gw b j) : ae a = ae b := by
 have key : ∀ d, ae (a.take d) = ae (b.take d) := by
  intro d;induction d with
  | zero => rfl
  | succ d ih => rw [aG, aG, h, ih]
 have := key (a.length + b.length)
 rwa [CJ Cp, CJ Cp] at this
theorem ja {l : List Nat} {j : Nat} (h : aw l <= j) : gw l j = 0 := iN l j h
theorem jg {a b : List Nat} (ha : Ok a) (hb : Ok b) (h : aw a < aw b) : ae a < ae b := by
 rw [<- bS ha, <- bS hb] at h;refine Df fun hn => ?_;have := aJ (Ff hn);omega
theorem Au (l : List Nat) (n j : Nat) : gw (l.take n) j = if j < n then gw l j else 0 := by
 simp only [gw, List.getD_eq_getElem?_getD, List.getElem?_take];split <;> simp
theorem gV {l : List Nat} {n : Nat} (h : aw l <= n) : ae (l.take n) = ae l :=
 kg fun j => by
  rw [Au]; split
  . rfl
  . rw [ja Cp]
theorem jD {l : List Nat} {k : Nat} (hk : k < l.length) (v : Nat) : gw (l.set k v) k = v := by
 simp [gw, List.getD_eq_getElem?_getD, List.getElem?_set, hk]
theorem bK {l : List Nat} {k j : Nat} (h : k ≠ j) (v : Nat) : gw (l.set k v) j = gw l j := by
 simp [gw, List.getD_eq_getElem?_getD, List.getElem?_set, h]
theorem ks (l : List Nat) (k v : Nat) : (l.set k v).take k = l.take k := by
 apply List.ext_getElem?;intro j;simp only [List.getElem?_take, List.getElem?_set];by_cases h : j < k
 . have : ¬ k = j := by omega
   simp [h, this]
 . simp [h]
theorem dJ {l : List Nat} {k : Nat} (hk : k < l.length) (v : Nat) : ae ((l.set k v).take (k + 1)) = ae (l.take k) + W ^ k * v := by
 rw [aG, ks, jD hk]
def bA (x y c : Nat) : Nat := (x + y + c) % W
def aY (x y c : Nat) : Nat := (x + y + c) / W
def ee (x y c : Nat) : Nat := (x + W - y - c) % W
def bI (x y : Nat) : Nat := x * y / W
def aM (x y : Nat) : Nat := x * y % W
theorem add_eq (x y c : Nat) : bA x y c + W * aY x y c = x + y + c := EZ _ _
theorem mul_eq (x y : Nat) : aM x y + W * bI x y = x * y := EZ _ _
theorem eX (x y c : Nat) : bA x y c < W := Dm _ bw
theorem iw (x y c : Nat) : ee x y c < W := Dm _ bw
theorem jI (x y : Nat) : aM x y < W := Dm _ bw
theorem ri {ls : List Nat} {k c x y A B : Nat} (hk : k < ls.length) (h : ae (ls.take k) + W ^ k * c = A + B) :
 ae ((ls.set k (bA x y c)).take (k + 1)) + W ^ (k + 1) * aY x y c = (A + W ^ k * x) + (B + W ^ k * y) := by
 unfold bA aY;rw [dJ hk, Dd, CN];have e : W ^ k * ((x + y + c) % W) + W ^ k * (W * ((x + y + c) / W)) = W ^ k * (x + y + c) := by rw [<- CA, EZ]
 rw [CA, CA] at e;omega
theorem jJ {x y c : Nat} (hx : x < W) (hy : y < W) (hc : c <= 1) : aY x y c <= 1 := by
 unfold aY;have : (x + y + c) / W < 2 := (Dj bw).2 Cp;omega
def ur (x y c : Nat) : Nat := if x < y + c then 1 else 0
theorem mh (x y c : Nat) : ur x y c <= 1 := by unfold ur; split <;> omega
theorem ru {ls : List Nat} {k c x y A B : Nat} (hk : k < ls.length) (h : ae (ls.take k) + B = A + W ^ k * c) (hx : x < W) (hy : y < W) (hc : c <= 1) :
 ae ((ls.set k (ee x y c)).take (k + 1)) + (B + W ^ k * y) = (A + W ^ k * x) + W ^ (k + 1) * ur x y c := by
 unfold ur ee;rw [dJ hk, Dd];split
 . have e : (x + W - y - c) % W = x + W - y - c := Dk Cp;have e2 : W ^ k * (x + W - y - c) + W ^ k * y + W ^ k * c = W ^ k * x + W ^ k * W := by
    rw [<- CA, <- CA, <- CA]; congr 1; omega
   rw [e]; omega
 . have e : (x + W - y - c) % W = x - y - c := by
    have : x + W - y - c = (x - y - c) + W := by omega
    rw [this, Nat.add_mod_right, Dk Cp]
   have e2 : W ^ k * (x - y - c) + W ^ k * y + W ^ k * c = W ^ k * x := by
    rw [<- CA, <- CA]; congr 1; omega
   rw [e]; omega
theorem jw (n : Nat) : n % W < W := Dm _ bw
theorem yn : W = 2 ^ 64 := rfl
theorem jT {s : Nat} (h : s <= 64) : W = 2 ^ (64 - s) * 2 ^ s := by rw [yn, <- DR]; congr 1; omega
theorem sA {l : List Nat} (h : Ok l) (k : Nat) : ae l % W ^ k = ae (l.take k) := by
 by_cases hk : k <= l.length
 . rw [eT l k hk, Eo, Dk (jb h k)]
 . rw [CJ Cp, Dk];exact CK (dt h) (CU bw Cp)
theorem sP {l : List Nat} (h : Ok l) (k : Nat) : ae l / W ^ k = gw l k + W * (ae l / W ^ (k + 1)) := by
 have e1 := sA h k;have e2 := sA h (k + 1);rw [aG, <- e1] at e2;have hp : 0 < W ^ k := DF bw;have h1 := Ds (ae l) (W ^ k);have h2 := Ds (ae l) (W ^ (k + 1));rw [e2, Dd, CN] at h2;have h3 : W ^ k * (ae l / W ^ k) = W ^ k * (gw l k + W * (ae l / W ^ (k + 1))) := by rw [CA, Dd]; omega
 exact Nat.eq_of_mul_eq_mul_left hp h3
theorem ka (n k : Nat) : n % W ^ (k + 1) = n % W ^ k + W ^ k * (n / W ^ k % W) := by
 rw [Dd, Nat.mod_mul]
theorem rS {l : List Nat} (h : Ok l) {s : Nat} (hs : s < 64) (k : Nat) :
 gw l k / 2 ^ s + gw l (k + 1) * 2 ^ (64 - s) % W = ae l / 2 ^ s / W ^ k % W := by
 have e0 : ae l / 2 ^ s / W ^ k = ae l / W ^ k / 2 ^ s := by rw [Nat.div_div_eq_div_mul, Nat.div_div_eq_div_mul, CE]
 have e1 := sP h k;have e2 := sP h (k + 1);have hW := jT (Dg hs);have hp : 0 < 2 ^ s := Eb s;generalize hM : ae l / W ^ (k + 1 + 1) = M at *;have e3 : ae l / 2 ^ s / W ^ k = gw l k / 2 ^ s + 2 ^ (64 - s) * (gw l (k + 1) + W * M) := by
  rw [e0, e1, e2];have : W * (gw l (k + 1) + W * M) = 2 ^ s * (2 ^ (64 - s) * (gw l (k + 1) + W * M)) := by
   rw [<- CN, CE (2 ^ s), <- hW]
  rw [this, Nat.add_mul_div_left _ _ hp]
 have hlt : gw l k / 2 ^ s < 2 ^ (64 - s) := by
  rw [Dj hp, <- hW]; exact h.gw k
 have e4 : gw l (k + 1) * 2 ^ (64 - s) % W = 2 ^ (64 - s) * (gw l (k + 1) % 2 ^ s) := by
  rw [CE]; conv => lhs; rhs; rw [hW]
  exact Nat.mul_mod_mul_left ..
 have hlt2 : gw l (k + 1) % 2 ^ s < 2 ^ s := Dm _ hp;have hlt3 : gw l k / 2 ^ s + 2 ^ (64 - s) * (gw l (k + 1) % 2 ^ s) < W := by
  have : 2 ^ (64 - s) * (gw l (k + 1) % 2 ^ s + 1) <= 2 ^ (64 - s) * 2 ^ s := CD _ hlt2;rw [<- hW, CA] at this;omega
 rw [e4, e3, CA, <- Eh, <- CN, CE (2 ^ (64 - s)) W, CN, Eo];have e5 := EZ (gw l (k + 1)) (2 ^ s);have e6 : gw l k / 2 ^ s + 2 ^ (64 - s) * gw l (k + 1) = (gw l k / 2 ^ s + 2 ^ (64 - s) * (gw l (k + 1) % 2 ^ s)) + W * (gw l (k + 1) / 2 ^ s) := by
  conv => lhs; rw [<- e5]
  rw [CA, <- CN, <- hW]; omega
 rw [e6, Eo, Dk hlt3]
theorem pP {a b n : Nat} (h : a < 2 ^ n) : a ||| (2 ^ n * b) = a + 2 ^ n * b := by
 have := Nat.two_pow_add_eq_or_of_lt h b;rw [Nat.or_comm, <- this, Ez]
theorem y3 {l : List Nat} (h : Ok l) {s : Nat} (hs : s < 64) (k : Nat) :
 gw l k / 2 ^ s ||| gw l (k + 1) * 2 ^ (64 - s) % W = ae l / 2 ^ s / W ^ k % W := by
 rw [<- rS h hs];have hW := jT (Dg hs);have hp : 0 < 2 ^ s := Eb s;have hlt : gw l k / 2 ^ s < 2 ^ (64 - s) := by
  rw [Dj hp, <- hW]; exact h.gw k
 have e4 : gw l (k + 1) * 2 ^ (64 - s) % W = 2 ^ (64 - s) * (gw l (k + 1) % 2 ^ s) := by
  rw [CE]; conv => lhs; rhs; rw [hW]
  exact Nat.mul_mod_mul_left ..
 rw [e4, pP hlt]
def sv (l : List Nat) (o n : Nat) : Nat := ae ((l.drop o).take n)
theorem uR (l : List Nat) (o j : Nat) : gw (l.drop o) j = gw l (o + j) := by simp [gw, List.getD_eq_getElem?_getD, List.getElem?_drop]
theorem j1 (l : List Nat) (o : Nat) : sv l o 0 = 0 := by simp [sv, ae]
theorem cP (l : List Nat) (o n : Nat) : sv l o (n + 1) = sv l o n + W ^ n * gw l (o + n) := by
 unfold sv; rw [aG, uR]
theorem nE {l l' : List Nat} {o n : Nat} (h : ∀ i, i < n -> gw l (o + i) = gw l' (o + i)) : sv l o n = sv l' o n := by
 induction n with
 | zero => simp [j1]
 | succ n ih => rw [cP, cP, ih (fun i hi => h i Cp), h n Cp]
theorem lU (l : List Nat) (o m n : Nat) : sv l o (m + n) = sv l o m + W ^ m * sv l (o + m) n := by
 induction n with
 | zero => simp [j1]
 | succ n ih =>
  rw [<- Eh, cP, ih, cP, CA, <- CN, <- DR, Eh, Eh o m n]
theorem fw (l : List Nat) : sv l 0 l.length = ae l := by simp [sv]
theorem mY (l : List Nat) (n : Nat) : sv l 0 n = ae (l.take n) := by simp [sv]
theorem Ak (l : List Nat) (o : Nat) : sv l o (l.length - o) = ae (l.drop o) := by
 unfold sv; rw [CJ (by rw [EP]; exact Ct _)]
theorem n9 {l : List Nat} (h : Ok l) (o n : Nat) : sv l o n < W ^ n := jb (h.drop o) n
theorem ue {l : List Nat} {o n j v : Nat} (h : j < o \/ o + n <= j) : sv (l.set j v) o n = sv l o n :=
 nE fun i hi => bK Cp v
theorem gU {l : List Nat} {o n v : Nat} (h : o + n < l.length) : sv (l.set (o + n) v) o (n + 1) = sv l o n + W ^ n * v := by
 rw [cP, ue Cp, jD h]
theorem oU {l l' : List Nat} {o i n X Y : Nat} (hin : i <= n) (h : sv l' o i + X = sv l o i + Y) (hs : ∀ j, o + i <= j -> gw l' j = gw l j) : sv l' o n + X = sv l o n + Y := by
 obtain ⟨d, rfl⟩ : ∃ d, n = i + d := ⟨n - i, by omega⟩;rw [lU, lU, nE (l := l') (l' := l) (o := o + i) (n := d) (fun k _ => hs _ Cp)];omega
theorem j6 {cu cur ws : List Nat} {o k cr y N M : Nat} (hlt : o + k < cu.length) (he : sv cu o k + W ^ k * cr = sv cur o k + N) (hg : gw cu (o + k) = gw cur (o + k)) (hM : M = N + W ^ k * y) :
 sv (cu.set (o + k) (bA (gw cu (o + k)) y cr)) o (k + 1) + W ^ (k + 1) * aY (gw cu (o + k)) y cr = sv cur o (k + 1) + M := by
 rw [gU hlt, cP cur, <- hg, hM, Dd, CN];have e := add_eq (gw cu (o + k)) y cr;have e2 : W ^ k * bA (gw cu (o + k)) y cr + W ^ k * (W * aY (gw cu (o + k)) y cr) = W ^ k * (gw cu (o + k) + y + cr) := by rw [<- CA, e]
 rw [CA, CA] at e2;omega
theorem sub_eq {x y c : Nat} (hx : x < W) (hy : y < W) (hc : c <= 1) : ee x y c + y + c = x + W * ur x y c := by
 unfold ee ur;split
 . rw [Dk Cp]; omega
 . have : x + W - y - c = (x - y - c) + W := by omega
   rw [this, Nat.add_mod_right, Dk Cp]; omega
theorem lh {cu cur : List Nat} {o k cr y N M : Nat} (hlt : o + k < cu.length) (he : sv cu o k + N = sv cur o k + W ^ k * cr) (hg : gw cu (o + k) = gw cur (o + k)) (hM : M = N + W ^ k * y)
 (hx : gw cu (o + k) < W) (hy : y < W) (hc : cr <= 1) :
 sv (cu.set (o + k) (ee (gw cu (o + k)) y cr)) o (k + 1) + M = sv cur o (k + 1) + W ^ (k + 1) * ur (gw cu (o + k)) y cr := by
 rw [gU hlt, cP cur, <- hg, hM, Dd, CN];have e := sub_eq hx hy hc;have e2 : W ^ k * (ee (gw cu (o + k)) y cr + y + cr) = W ^ k * (gw cu (o + k) + W * ur (gw cu (o + k)) y cr) := by rw [e]
 rw [CA, CA, CA] at e2;omega
theorem mC {l : List Nat} {k v : Nat} (hk : k < l.length) : ae (l.set k v) + W ^ k * gw l k = ae l + W ^ k * v := xh l k v hk
theorem kx {g x y c : Nat} (hg : g < W) (hx : x < W) (hy : y < W) (hc : c < W) :
 bI x y + aY (aM x y) c 0 < W /\ bI x y + aY (aM x y) c 0 + aY g (bA (aM x y) c 0) 0 < W /\
 bA g (bA (aM x y) c 0) 0 + W * (bI x y + aY (aM x y) c 0 + aY g (bA (aM x y) c 0) 0) = g + x * y + c := by
 have e1 := mul_eq x y;have e2 := add_eq (aM x y) c 0;have e3 := add_eq g (bA (aM x y) c 0) 0;have h1 : x * y <= (W - 1) * (W - 1) := Da Cp Cp;have h2 : (W - 1) * (W - 1) + 2 * (W - 1) + 1 = W * W := by
  obtain ⟨v, hv⟩ : ∃ v, W = v + 1 := ⟨W - 1, by have := bw; omega⟩;rw [hv, Es, CY, CA]; omega
 have e4 : bA g (bA (aM x y) c 0) 0 + W * (bI x y + aY (aM x y) c 0 + aY g (bA (aM x y) c 0) 0) = g + x * y + c := by
  rw [CA, CA]; omega
 have h3 : W * (bI x y + aY (aM x y) c 0 + aY g (bA (aM x y) c 0) 0) < W * W := by omega
 have h4 := D2 h3;exact ⟨by omega, h4, e4⟩
theorem wk {cu ys : List Nat} {k j c x A : Nat} (hlt : k + j < cu.length) (he : ae cu + W ^ (k + j) * c = A + W ^ k * (x * ae (ys.take j))) (hg : gw cu (k + j) < W) (hx : x < W) (hy : gw ys j < W) (hc : c < W) :
 ae (cu.set (k + j) (bA (gw cu (k + j)) (bA (aM x (gw ys j)) c 0) 0)) + W ^ (k + (j + 1)) * (bI x (gw ys j) + aY (aM x (gw ys j)) c 0 + aY (gw cu (k + j)) (bA (aM x (gw ys j)) c 0) 0) =
  A + W ^ k * (x * ae (ys.take (j + 1))) := by
 obtain ⟨_, _, e⟩ := kx hg hx hy hc;have e1 := mC (v := bA (gw cu (k + j)) (bA (aM x (gw ys j)) c 0) 0) hlt;rw [aG, <- Eh, Dd, CN];have e2 : W ^ (k + j) * (bA (gw cu (k + j)) (bA (aM x (gw ys j)) c 0) 0) + W ^ (k + j) * (W * (bI x (gw ys j) + aY (aM x (gw ys j)) c 0 + aY (gw cu (k + j)) (bA (aM x (gw ys j)) c 0) 0)) = W ^ (k + j) * gw cu (k + j) + W ^ (k + j) * (x * gw ys j) + W ^ (k + j) * c := by
  rw [<- CA, e, CA, CA]
 have e3 : W ^ k * (x * (ae (ys.take j) + W ^ j * gw ys j)) = W ^ k * (x * ae (ys.take j)) + W ^ (k + j) * (x * gw ys j) := by
  rw [CA, CA, DR]; congr 1;rw [Dy x, CN]
 rw [e3];omega
def gN (m n : Nat) : Int := if m < n then -1 else if n < m then 1 else 0
theorem n6 {m n : Nat} (h : m < n) : gN m n = -1 := by simp [gN, h]
theorem vi {m n : Nat} (h : n < m) : gN m n = 1 := by simp [gN, h]; omega
theorem zh {m n : Nat} (h : m = n) : gN m n = 0 := by simp [gN, h]
end Go.Proofs.YtjjlmfmoihooiaaGreat
namespace Go.Proofs.YtjjlmfmoihooiaaGreat
open Go.RowKit
def aa (w : World) (b : Nat) (t : TypeId) (cs : List Value) : Prop := w.heap[b]? = some (.cells cs.toArray t (0, 0))
theorem aa.lt {w : World} {b : Nat} {t : TypeId} {cs : List Value} (h : aa w b t cs) : b < w.heap.size := (Array.getElem?_eq_some_iff.1 h).1
theorem aa.cell {w : World} {b : Nat} {t : TypeId} {cs : List Value} (h : aa w b t cs) (i : Nat) : w.cell? ⟨b, i, none⟩ = cs[i]? := by
 have := cell_of_row w b i cs.toArray t (0, 0) h; simpa using this
theorem aa.free {w : World} {b : Nat} {t : TypeId} {cs : List Value} (h : aa w b t cs) (i : Nat) : w.frozen? ⟨b, i, none⟩ = false := frozen_of_row w b i cs.toArray t h
theorem aa.set {w : World} {b : Nat} {t : TypeId} {cs : List Value} (h : aa w b t cs) (i : Nat) (v : Value) : aa (w.setCell ⟨b, i, none⟩ v) b t (cs.set i v) := by
 have := heap_setCell_same w b i cs.toArray t v h; unfold aa; rw [this]; simp
theorem aa.other {w : World} {b : Nat} {t : TypeId} {cs : List Value} (h : aa w b t cs) {p : Addr} (hp : b ≠ p.block) (v : Value) : aa (w.setCell p v) b t cs := by
 unfold aa; rw [Below.heap_setCell _ _ _ _ hp]; exact h
theorem aa.below {w w' : World} {b B : Nat} {t : TypeId} {cs : List Value} (h : aa w b t cs) (hb : Below B w w') (hB : b < B) : aa w' b t cs := by
 unfold aa; rw [hb.block b hB]; exact h
theorem aa.alloc {w : World} {b : Nat} {t : TypeId} {cs : List Value} (h : aa w b t cs) (o : Obj) : aa (w.alloc o) b t cs := by
 unfold aa; rw [Below.heap_alloc _ _ _ h.lt]; exact h
theorem aa.new (w : World) (cs : Array Value) (t : TypeId) : aa (w.alloc (.cells cs t)) w.heap.size t cs.toList := by
 unfold aa; rw [heap_alloc_new]
def wv (n : Nat) : Value := .int .u64 (n : Int)
def cX (w : World) (ao : Option Addr) (ws : List Nat) : Prop :=
 Ok ws /\ (0 < ws.length -> ∃ b o, ao = some ⟨b, o, none⟩ /\ b < w.heap.size /\ ∀ i, i < ws.length -> w.cell? ⟨b, o + i, none⟩ = some (.int .u64 ((gw ws i : Nat) : Int)))
theorem cX.ok {w : World} {ao : Option Addr} {ws : List Nat} (h : cX w ao ws) : Ok ws := h.1
theorem cX.pos {w : World} {ao : Option Addr} {ws : List Nat} (h : cX w ao ws) (hl : 0 < ws.length) :
 ∃ b o, ao = some ⟨b, o, none⟩ /\ b < w.heap.size /\ ∀ i, i < ws.length -> w.cell? ⟨b, o + i, none⟩ = some (.int .u64 ((gw ws i : Nat) : Int)) := h.2 hl
theorem cX.below {w w' : World} {ao : Option Addr} {ws : List Nat} (h : cX w ao ws) (hb : Below w.heap.size w w') : cX w' ao ws :=
 ⟨h.1, fun hl => by
  obtain ⟨b, o, rfl, hlt, hc⟩ := h.2 hl;exact ⟨b, o, rfl, CK hlt hb.size, fun i hi => (hb.cell (p := ⟨b, o + i, none⟩) hlt).trans (hc i hi)⟩⟩
theorem cX.nil (w : World) (ao : Option Addr) : cX w ao [] := ⟨Ok.nil, fun h => by simp at h⟩
theorem cX.drop {w : World} {b o : Nat} {ws : List Nat} (h : cX w (some ⟨b, o, none⟩) ws) (k : Nat) : cX w (some ⟨b, o + k, none⟩) (ws.drop k) :=
 ⟨h.1.drop k, fun hl => by
  rw [EP] at hl;obtain ⟨b', o', he, hlt, hc⟩ := h.2 Cp;cases he;refine ⟨b, o + k, rfl, hlt, fun i hi => ?_⟩;rw [EP] at hi;have := hc (k + i) Cp;rw [Eh];rw [this, uR]⟩
theorem cX.take {w : World} {ao : Option Addr} {ws : List Nat} (h : cX w ao ws) (k : Nat) : cX w ao (ws.take k) :=
 ⟨h.1.take k, fun hl => by
  have hl' : 0 < ws.length := by simp [CZ] at hl; omega
  obtain ⟨b, o, rfl, hlt, hc⟩ := h.2 hl';refine ⟨b, o, rfl, hlt, fun i hi => ?_⟩;rw [CZ] at hi;rw [hc i Cp];simp only [gw, List.getD_eq_getElem?_getD, List.getElem?_take];rw [if_pos Cp]⟩
def db (w : World) (B : Nat) (ao : Option Addr) (len cap : Nat) (ws : List Nat) : Prop :=
 Ok ws /\ len = ws.length /\ w.ownsRow B 60 1 (.slice ao len cap) len (ws.map wv)
theorem db.len {w : World} {B : Nat} {ao : Option Addr} {len cap : Nat} {ws : List Nat} (h : db w B ao len cap ws) : len = ws.length := h.2.1
theorem db.at_ {w : World} {B : Nat} {ao : Option Addr} {len cap : Nat} {ws : List Nat} (h : db w B ao len cap ws) : cX w ao ws := by
 obtain ⟨h1, h2, h3, h4⟩ := h;refine ⟨h1, fun hl => ?_⟩;rcases h4 with ⟨_, h0⟩ | ⟨g, c, cur, hv, hb, hg, hn, hm, hs, ht⟩
 . omega
 . cases hv;refine ⟨g, 0, rfl, (Array.getElem?_eq_some_iff.1 hg).1, fun i hi => ?_⟩;have hcell := cell_of_row w g i cur _ (0, 0) hg;rw [Db, hcell];have : (ws.map wv)[i]? = some (wv (gw ws i)) := by
    rw [List.getElem?_map, List.getElem?_eq_getElem hi]; simp [gw, List.getD_eq_getElem?_getD, List.getElem?_eq_getElem hi]
   rw [<- ht, List.getElem?_take, if_pos Cp] at this;simpa [wv] using this
theorem db.cap {w : World} {B : Nat} {ao : Option Addr} {len cap : Nat} {ws : List Nat} (h : db w B ao len cap ws) : len <= cap /\ cap <= maxLen := by
 obtain ⟨h1, h2, h3, h4⟩ := h;rcases h4 with ⟨hv, h0⟩ | ⟨g, c, cur, hv, hb, hg, hn, hm, hs, ht⟩
 . cases hv; simp
 . cases hv; exact ⟨hn, hm⟩
theorem db.below {w w' : World} {B : Nat} {ao : Option Addr} {len cap : Nat} {ws : List Nat} (h : db w B ao len cap ws) (hb : Below w.heap.size w w') : db w' B ao len cap ws := by
 obtain ⟨h1, h2, h3, h4⟩ := h;refine ⟨h1, h2, h3, ?_⟩;rcases h4 with h0 | ⟨g, c, cur, hv, hbb, hg, r⟩
 . exact .inl h0
 . refine .inr ⟨g, c, cur, hv, hbb, ?_, r⟩;rw [hb.block g (Array.getElem?_eq_some_iff.1 hg).1]; exact hg
theorem db.mono {w : World} {B B' : Nat} {ao : Option Addr} {len cap : Nat} {ws : List Nat} (h : db w B ao len cap ws) (hb : B' <= B) : db w B' ao len cap ws := by
 obtain ⟨h1, h2, h3, h4⟩ := h;refine ⟨h1, h2, h3, ?_⟩;rcases h4 with h0 | ⟨g, c, cur, hv, hbb, r⟩
 . exact .inl h0
 . exact .inr ⟨g, c, cur, hv, by omega, r⟩
theorem db.nil (w : World) (B : Nat) : db w B none 0 0 [] := ⟨Ok.nil, rfl, by simpa using World.ownsRow_nil w B _ 1⟩
theorem aa.own {w : World} {b B n : Nat} {ws : List Nat} {cap : Nat} (h : aa w b 60 (ws.map wv)) (hok : Ok ws) (hB : B <= b) (hn : n <= ws.length) (hc : cap = ws.length) (hm : cap <= maxLen) :
 db w B (some ⟨b, 0, none⟩) n cap (ws.take n) :=
 ⟨hok.take n, by simp; omega, by simp [CZ]; omega, .inr ⟨b, cap, _, rfl, hB, h, by omega, hm, by simp [hc], by simp [List.map_take]⟩⟩
structure Made (w w' : World) (b : Nat) (t : TypeId) (cs : List Value) : Prop where
 at_ : b = w.heap.size
 size : w'.heap.size = w.heap.size + 1
 row : aa w' b t cs
 below : Below w.heap.size w w'
theorem eB {P : Program} {w : World} {ops : Array Oper} {rest : List Oper} {o : Oper} {a : Act} {Q : Exit -> Act -> World -> Prop}
 (hg : o.guard = none) (l c : Operand) (t : TypeId) (hop : o.op = Op.makeSlice t l c) (e : TypeId) (z : Value) (size bytes : Nat)
 (h1 : P.underlying t = some (.slice e)) (h2 : (P.info? e).map (fun i => (i.zero, i.size, i.bytes)) = some (some z, size, bytes))
 {kl kc : IntKind} {L C : Int} (n m : Nat) (hl : a.eval l = .int kl L) (hc : a.eval c = .int kc C) (hL : L = (n : Int)) (hC : C = (m : Int)) (hnm : n <= m) (b2 : bytes * m <= 281474976710656) (b3 : m <= maxLen)
 (hK : ∀ b w', Made w w' b e (madeCells z.cells (m * size)).toList -> wpList P ops Q rest (a.put o.dst (.slice (some ⟨b, 0, none⟩) n m)) w') :
 wpList P ops Q (o :: rest) a w := by
 refine wpList_plain hg fun K hK' => ?_;obtain ⟨i, hi, hz, hs, hb⟩ := info_parts h2;subst hL hC hs hb;have h63 : (m : Int) <= 9223372036854775807 := by have h := b3; unfold maxLen at h; omega
 have hb' : (i.bytes : Int) * (m : Int) <= 281474976710656 := by
  have h : ((i.bytes * m : Nat) : Int) <= 281474976710656 := by omega
  rwa [Dq] at h
 have hr := run_make (P := P) w t e i z h1 hi hz kl kc n m Cp Cp hb' h63;simp only [Ex] at hr;unfold Oper.wp;simp [execOp, hop, hl, hc, hr, Result.andThen];exact hK' _ _ (hK _ _ ⟨rfl, by simp, aa.new _ _ _, (Below.refl _ _).alloc (Ct _) _⟩)
theorem fB (z : Value) (h : z.cells = #[z]) (n : Nat) : (madeCells z.cells (n * 1)).toList = List.replicate n z := by
 rw [h, Ee, toList_madeCells_one]
theorem uo (n : Nat) : (madeCells (Value.int .u64 0).cells (n * 1)).toList = (List.replicate n 0).map wv := by
 rw [fB _ rfl]; simp [wv]
theorem rJ (ws : List Nat) (i : Nat) (h : i < ws.length) : (ws.map wv)[i]? = some (.int .u64 ((gw ws i : Nat) : Int)) := by
 rw [List.getElem?_map, List.getElem?_eq_getElem h]; simp [wv, gw, List.getD_eq_getElem?_getD, List.getElem?_eq_getElem h]
theorem uh (ws : List Nat) (i v : Nat) : (ws.map wv).set i (.int .u64 (v : Int)) = (ws.set i v).map wv := by
 rw [ET]; rfl
theorem aa.word {w : World} {b : Nat} {t : TypeId} {ws : List Nat} (h : aa w b t (ws.map wv)) {i : Nat} (hi : i < ws.length) : w.cell? ⟨b, i, none⟩ = some (.int .u64 ((gw ws i : Nat) : Int)) :=
 (h.cell i).trans (rJ ws i hi)
theorem aa.da {w : World} {b : Nat} {t : TypeId} {ws : List Nat} (h : aa w b t (ws.map wv)) (i v : Nat) : aa (w.setCell ⟨b, i, none⟩ (.int .u64 (v : Int))) b t ((ws.set i v).map wv) := by
 rw [<- uh]; exact h.set i _
theorem xS : (Tryz.prog.info? 60).map (fun i => (i.zero, i.size, i.bytes)) = some (some (.int .u64 0), 1, 8) := by kernel_rfl
theorem ez {w : World} {ops : Array Oper} {rest : List Oper} {o : Oper} {a : Act} {Q : Exit -> Act -> World -> Prop}
 (hg : o.guard = none) (l c : Operand) (hop : o.op = Op.makeSlice 35 l c)
 {kl kc : IntKind} {L C : Int} (n m : Nat) (hl : a.eval l = .int kl L) (hc : a.eval c = .int kc C) (hL : L = (n : Int)) (hC : C = (m : Int)) (hnm : n <= m) (b2 : m <= 35184372088832)
 (hK : ∀ b w', Made w w' b 60 ((List.replicate m 0).map wv) -> wpList Tryz.prog ops Q rest (a.put o.dst (.slice (some ⟨b, 0, none⟩) n m)) w') :
 wpList Tryz.prog ops Q (o :: rest) a w :=
 eB hg l c 35 hop 60 (.int .u64 0) 1 8 Tryz.underlying35 xS n m hl hc hL hC hnm Cp (by unfold maxLen; omega)
  (fun b w' h => hK b w' (by rw [uo] at h; exact h))
theorem oj {w : World} {ops : Array Oper} {rest : List Oper} {o : Oper} {a : Act} {Q : Exit -> Act -> World -> Prop} (hgd : o.guard = none) (d s : Operand)
 (ho : o.op = .call { callee := .builtin .copy, args := #[d, s], argTypes := #[35, 35] })
 {ao : Option Addr} {len cap b off dl dc : Nat} {ws cur : List Nat} (hA : cX w ao ws) (hl : len = ws.length) (hrow : aa w b 60 (cur.map wv))
 (hd : a.eval d = .slice (some ⟨b, off, none⟩) dl dc) (hs : a.eval s = .slice ao len cap) (hfit : off + dl <= cur.length)
 (h : ∀ w', aa w' b 60 ((splice cur off (ws.take dl)).map wv) -> w.grownBy w' (some b) -> wpList Tryz.prog ops Q rest (a.put o.dst (goInt (Nat.min ws.length dl : Nat))) w') :
 wpList Tryz.prog ops Q (o :: rest) a w := by
 have e : ((ws.take dl).map wv).length = Nat.min ws.length dl := by simp [CZ, Nat.min_comm]
 have es : ((cur.map wv).take off ++ ((ws.take dl).map wv ++ (cur.map wv).drop (off + ((ws.take dl).map wv).length))) = (splice cur off (ws.take dl)).map wv := by
  simp [splice, List.map_take, List.map_drop]
 by_cases h0 : ((ws.take dl).map wv).length = 0
 . have h1 : (ws.take dl) = [] := D5 (by simpa using h0);refine wpList_copy_nothing hgd d s 35 35 ho 60 Tryz.underlying35 (by kernel_rfl) (some ⟨b, off, none⟩) ao dl dc len cap hd hs (by rw [hl, <- e]; exact h0) ?_;have := h w (by rw [h1]; simpa [splice] using hrow) ⟨rfl, rfl, rfl, Ct _, fun _ _ _ => rfl⟩;rw [<- e, h0] at this;exact this
 . have hp : 0 < ((ws.take dl).map wv).length := by omega
   rw [e] at hp;obtain ⟨b', o', rfl, hlt, hc⟩ := hA.pos (CK hp (E5 ..));refine wpList_copy_own hgd d s 35 35 ho 60 Tryz.underlying35 (by kernel_rfl) b off dl dc ⟨b', o', none⟩ len cap hd hs (cur.map wv).toArray 60 hrow ((ws.take dl).map wv)
    (by rw [e, hl]) ?_ ?_ ?_ ?_
   . intro j v hj;rw [List.getElem?_map, List.getElem?_take] at hj;split at hj
     . obtain ⟨x, hx, rfl⟩ := Option.map_eq_some_iff.1 hj;have hjl : j < ws.length := (List.getElem?_eq_some_iff.1 hx).1;have := hc j hjl;rw [Addr.add_lit];rw [this];simp [wv, gw, List.getD_eq_getElem?_getD, hx]
     . simp at hj
   . rw [e];have : Nat.min ws.length dl <= dl := Nat.min_le_right ..;simp;omega
   . intro v hv;obtain ⟨x, _, rfl⟩ := List.mem_map.1 hv;rfl
   . rw [e];refine h _ ?_ ⟨rfl, rfl, rfl, by simp, fun k _ hk => setRow_other w b k _ (fun e => hk (by rw [e]))⟩;unfold aa;rw [setRow_heap w b (cur.map wv).toArray _ 60 (0, 0) hrow];rw [<- es, e]
theorem qC (x y c : Nat) (hc : c <= 1) (w : World) : (callFunc 108 #[.int .u64 (x : Int), .int .u64 (y : Int), .int .u64 (c : Int)]).run Tryz.prog w =
 .ok (.value (.tuple #[.int .u64 ((bA x y c : Nat) : Int), .int .u64 ((aY x y c : Nat) : Int)])) w := by
 rw [run_callFunc_extern Tryz.func108 (by kernel_rfl) (by kernel_rfl) (by kernel_rfl) (e := add64Entry) (by kernel_rfl), run_add64 x y c Cp Cp Cp Cp];simp only [Result.andThen, W, bA, aY];congr 5 <;> omega
theorem A8 (x y c : Nat) (hc : c <= 1) (w : World) : (callFunc 109 #[.int .u64 (x : Int), .int .u64 (y : Int), .int .u64 (c : Int)]).run Tryz.prog w =
 .ok (.value (.tuple #[.int .u64 ((ee x y c : Nat) : Int), .int .u64 ((ur x y c : Nat) : Int)])) w := by
 unfold ur ee;rw [run_callFunc_extern Tryz.func109 (by kernel_rfl) (by kernel_rfl) (by kernel_rfl) (e := sub64Entry) (by kernel_rfl), run_sub64 x y c hc];rfl
theorem nn {o : Oper} {a : Act} {f : FuncId} {p q r : Operand} {tys : Array TypeId} (ho : o.op = .call { callee := .value (.func f), args := #[p, q, r], argTypes := tys }) :
 execOp a.eval o = callFunc f #[a.eval p, a.eval q, a.eval r] := by
 obtain ⟨dst, op, type, pos, after, guard⟩ := o;simp only at ho; subst ho;show callFunc f (#[] ++ (#[p, q, r].map a.eval) ++ #[]) = _;simp
theorem cI {w : World} {ops : Array Oper} {rest : List Oper} {o : Oper} {a : Act} {Q : Exit -> Act -> World -> Prop} (hg : o.guard = none) (p q r : Operand) (tys : Array TypeId)
 (ho : o.op = .call { callee := .value (.func 108), args := #[p, q, r], argTypes := tys }) {X Y C : Int} (x y c : Nat) (hc : c <= 1)
 (hp : a.eval p = .int .u64 X) (hq : a.eval q = .int .u64 Y) (hr : a.eval r = .int .u64 C) (hX : X = (x : Int)) (hY : Y = (y : Int)) (hC : C = (c : Int))
 (h : wpList Tryz.prog ops Q rest (a.put o.dst (.tuple #[.int .u64 ((bA x y c : Nat) : Int), .int .u64 ((aY x y c : Nat) : Int)])) w) : wpList Tryz.prog ops Q (o :: rest) a w := by
 subst hX hY hC;refine wpList_plain hg fun K hK => ?_;unfold Oper.wp;rw [nn ho, hp, hq, hr, qC x y c hc w];exact hK _ _ h
theorem iC {w : World} {ops : Array Oper} {rest : List Oper} {o : Oper} {a : Act} {Q : Exit -> Act -> World -> Prop} (hg : o.guard = none) (p q r : Operand) (tys : Array TypeId)
 (ho : o.op = .call { callee := .value (.func 109), args := #[p, q, r], argTypes := tys }) {X Y C : Int} (x y c : Nat) (hc : c <= 1)
 (hp : a.eval p = .int .u64 X) (hq : a.eval q = .int .u64 Y) (hr : a.eval r = .int .u64 C) (hX : X = (x : Int)) (hY : Y = (y : Int)) (hC : C = (c : Int))
 (h : wpList Tryz.prog ops Q rest (a.put o.dst (.tuple #[.int .u64 ((ee x y c : Nat) : Int), .int .u64 ((ur x y c : Nat) : Int)])) w) : wpList Tryz.prog ops Q (o :: rest) a w := by
 subst hX hY hC;refine wpList_plain hg fun K hK => ?_;unfold Oper.wp;rw [nn ho, hp, hq, hr, A8 x y c hc w];exact hK _ _ h
theorem aa.mJ {w : World} {b : Nat} {t : TypeId} {ws : List Nat} (h : aa w b t (ws.map wv)) (hok : Ok ws) : cX w (some ⟨b, 0, none⟩) ws :=
 ⟨hok, fun _ => ⟨b, 0, rfl, h.lt, fun i hi => by rw [Db]; exact h.word hi⟩⟩
theorem lQ {w : World} {b B n m : Nat} {ws : List Nat} (h : aa w b 60 (ws.map wv)) (hok : Ok ws) (hB : B <= b) (hm : ws.length = m) (hmm : m <= 35184372088832) (hn : ae ws = n) :
 aw ws = ag n /\ db w B (some ⟨b, 0, none⟩) (ag n) m (fM n) := by
 have h1 := bS hok;rw [hn] at h1;refine ⟨h1.symm, ?_⟩;have := h.own (B := B) (n := aw ws) (cap := m) hok hB (aK ws) hm.symm (by unfold maxLen; omega);rw [h1, <- hn, iz hok]; exact this
theorem xM (x n : Nat) : IntKind.u64.wrap ((x : Int) * 2 ^ n) = ((x * 2 ^ n % W : Nat) : Int) := by
 rw [IntKind.wrap_u64, Int.natCast_emod, Dq, Int.natCast_pow]; rfl
theorem sL (x n : Nat) : (x : Int) / 2 ^ n = ((x / 2 ^ n : Nat) : Int) := by
 rw [Int.natCast_ediv, Int.natCast_pow]; rfl
theorem or_cast (x y : Nat) (hx : x < W) (hy : y < W) : bits BinOp.or .u64 (x : Int) (y : Int) = ((x ||| y : Nat) : Int) := bits_or_u64_nat x y hx hy
theorem and_cast (x y : Nat) (hx : x < W) (hy : y < W) : bits BinOp.and .u64 (x : Int) (y : Int) = ((x &&& y : Nat) : Int) := bits_and_u64_nat x y hx hy
theorem aa.drew {w : World} {b : Nat} {t : TypeId} {cs : List Value} (h : aa w b t cs) : aa w.drew b t cs := h
def kj (ao : Option Addr) (ws : List Nat) (b : Nat) : Prop := 0 < ws.length -> ∀ a, ao = some a -> a.block ≠ b
theorem cX.apart {w : World} {b : Nat} {ao : Option Addr} {ws : List Nat} (h : cX w ao ws) (hb : w.heap.size <= b) : kj ao ws b := fun hl a ha => by
 obtain ⟨b', o', rfl, hlt, _⟩ := h.2 hl;cases ha;exact Nat.ne_of_lt (CK hlt hb)
theorem cX.grown {w w' : World} {b : Nat} {ao : Option Addr} {ws : List Nat} (h : cX w ao ws) (hg : w.grownBy w' (some b)) (hne : kj ao ws b) : cX w' ao ws :=
 ⟨h.1, fun hl => by
  obtain ⟨b', o', rfl, hlt, hc⟩ := h.2 hl;exact ⟨b', o', rfl, CK hlt hg.size, fun i hi => hg.cell (hc i hi) (fun e => hne hl _ rfl (Option.some.inj e))⟩⟩
theorem aa.grown {w w' : World} {b b' : Nat} {t : TypeId} {cs : List Value} (h : aa w b t cs) (hg : w.grownBy w' (some b')) (hne : b ≠ b') : aa w' b t cs := by
 unfold aa; rw [hg.block b h.lt (fun e => hne (Option.some.inj e))]; exact h
theorem oB {a w : World} {b : Nat} (h : a.grownBy w (some b)) (i : Nat) (v : Value) : a.grownBy (w.setCell ⟨b, i, none⟩ v) (some b) :=
 ⟨h.os, h.tape, h.output, by simpa using h.size, fun k hk hne => by rw [Below.heap_setCell _ _ _ _ (fun e => hne (by rw [e]))]; exact h.block k hk hne⟩
theorem eI {a w : World} {r : Option Nat} (h : a.grownBy w r) (n : Nat) : a.grownBy (w.drewN n) r := ⟨h.os, h.tape, h.output, h.size, h.block⟩
theorem nJ {a w : World} {r : Option Nat} (h : a.grownBy w r) : a.grownBy w.drew r := ⟨h.os, h.tape, h.output, h.size, h.block⟩
theorem jx {a w u : World} {r : Option Nat} (h : a.grownBy w r) (k : w.grownBy u r) : a.grownBy u r :=
 ⟨k.os.trans h.os, k.tape.trans h.tape, k.output.trans h.output, Cw h.size k.size, fun i hi hne => (k.block i (CK hi h.size) hne).trans (h.block i hi hne)⟩
theorem aa.drewN {w : World} {b : Nat} {t : TypeId} {cs : List Value} (h : aa w b t cs) (n : Nat) : aa (w.drewN n) b t cs := h
structure tW (w w' : World) (b : Nat) (zs : List Nat) : Prop where
 row : aa w' b 60 (zs.map wv)
 ok : Ok zs
 ge : w.heap.size <= b
 below : Below w.heap.size w w'
theorem tW.own {w w' : World} {b n : Nat} {zs : List Nat} (h : tW w w' b zs) (hn : n = zs.length) (hm : n <= maxLen) : db w' w.heap.size (some ⟨b, 0, none⟩) n n zs := by
 have := h.row.own (B := w.heap.size) (n := n) (cap := n) h.ok h.ge Cp hn hm
 rwa [CJ Cp] at this
theorem gT {k : IntKind} {a b : Int} (h : a = b) : Ending.returned (.int k a) = .returned (.int k b) := by rw [h]
def dS (x s : Nat) : Nat := x * 2 ^ s % W
def ik (x s : Nat) : Nat := x / 2 ^ s
def vw (x y : Nat) : Nat := x ||| y
def oA (x y : Nat) : Nat := x &&& y
def mH (x y : Nat) : Nat := x / y
section
variable {w : World} {ops : Array Oper} {rest : List Oper} {o : Oper} {a : Act} {Q : Exit -> Act -> World -> Prop}
theorem eL (hg : o.guard = none) {v : Value} (hr : (execOp a.eval o).run Tryz.prog w = .ok (.value v) w) (h : wpList Tryz.prog ops Q rest (a.put o.dst v) w) : wpList Tryz.prog ops Q (o :: rest) a w := by
 refine wpList_plain hg fun K hK => ?_;unfold Oper.wp;rw [hr];exact hK _ _ h
theorem zB (ρ : Operand -> Value) (o : Oper) (p q : Operand) (ho : o.op = .binOp .mul 60 p q 60) (x y : Nat)  (hp : ρ p = .int .u64 (x : Int)) (hq : ρ q = .int .u64 (y : Int)) :
 (execOp ρ o).run Tryz.prog w = .ok (.value (.int .u64 ((aM x y : Nat) : Int))) w := by
 obtain ⟨dst, op, type, pos, after, guard⟩ := o;simp only at ho; subst ho;simp [go_sem, hp, hq, IntKind.wrap_u64, aM, W]
theorem kB (hg : o.guard = none) (p q : Operand) (ho : o.op = .binOp .mul 60 p q 60) {X Y : Int} (x y : Nat) 
 (hp : a.eval p = .int .u64 X) (hq : a.eval q = .int .u64 Y) (hX : X = (x : Int)) (hY : Y = (y : Int))
 (h : wpList Tryz.prog ops Q rest (a.put o.dst (.int .u64 ((aM x y : Nat) : Int))) w) : wpList Tryz.prog ops Q (o :: rest) a w := by
 subst hX hY;exact eL hg (zB _ _ p q ho x y  hp hq) h
theorem zw (ρ : Operand -> Value) (o : Oper) (p q : Operand) (ho : o.op = .binOp .add 60 p q 60) (x y : Nat)  (hp : ρ p = .int .u64 (x : Int)) (hq : ρ q = .int .u64 (y : Int)) :
 (execOp ρ o).run Tryz.prog w = .ok (.value (.int .u64 ((bA x y 0 : Nat) : Int))) w := by
 obtain ⟨dst, op, type, pos, after, guard⟩ := o;simp only at ho; subst ho;simp [go_sem, hp, hq, IntKind.wrap_u64, bA, W]
theorem qT (hg : o.guard = none) (p q : Operand) (ho : o.op = .binOp .add 60 p q 60) {X Y : Int} (x y : Nat) 
 (hp : a.eval p = .int .u64 X) (hq : a.eval q = .int .u64 Y) (hX : X = (x : Int)) (hY : Y = (y : Int))
 (h : wpList Tryz.prog ops Q rest (a.put o.dst (.int .u64 ((bA x y 0 : Nat) : Int))) w) : wpList Tryz.prog ops Q (o :: rest) a w := by
 subst hX hY;exact eL hg (zw _ _ p q ho x y  hp hq) h
theorem A0 (ρ : Operand -> Value) (o : Oper) (p q : Operand) (ho : o.op = .binOp .sub 60 p q 60) (x y : Nat) (hy : y < W) (hp : ρ p = .int .u64 (x : Int)) (hq : ρ q = .int .u64 (y : Int)) :
 (execOp ρ o).run Tryz.prog w = .ok (.value (.int .u64 ((ee x y 0 : Nat) : Int))) w := by
 obtain ⟨dst, op, type, pos, after, guard⟩ := o;simp only at ho; subst ho;simp [go_sem, hp, hq, IntKind.wrap_u64, ee];unfold W at *;omega
theorem tM (hg : o.guard = none) (p q : Operand) (ho : o.op = .binOp .sub 60 p q 60) {X Y : Int} (x y : Nat) (hy : y < W)
 (hp : a.eval p = .int .u64 X) (hq : a.eval q = .int .u64 Y) (hX : X = (x : Int)) (hY : Y = (y : Int))
 (h : wpList Tryz.prog ops Q rest (a.put o.dst (.int .u64 ((ee x y 0 : Nat) : Int))) w) : wpList Tryz.prog ops Q (o :: rest) a w := by
 subst hX hY;exact eL hg (A0 _ _ p q ho x y hy hp hq) h
theorem oP (hg : o.guard = none) (p q : Operand) (ho : o.op = .binOp .sub 60 p q 60) {X Y : Int} (x y z : Nat) (hy : y < W) (hz : ee x y 0 = z)
 (hp : a.eval p = .int .u64 X) (hq : a.eval q = .int .u64 Y) (hX : X = (x : Int)) (hY : Y = (y : Int))
 (h : wpList Tryz.prog ops Q rest (a.put o.dst (.int .u64 ((z : Nat) : Int))) w) : wpList Tryz.prog ops Q (o :: rest) a w := by
 subst hz;exact tM hg p q ho x y hy hp hq hX hY h
theorem zC (ρ : Operand -> Value) (o : Oper) (p q : Operand) (ho : o.op = .binOp .quo 60 p q 60) (x y : Nat) (hx : x < W) (hy : y ≠ 0) (hp : ρ p = .int .u64 (x : Int)) (hq : ρ q = .int .u64 (y : Int)) :
 (execOp ρ o).run Tryz.prog w = .ok (.value (.int .u64 ((mH x y : Nat) : Int))) w := by
 obtain ⟨dst, op, type, pos, after, guard⟩ := o;simp only at ho; subst ho;simp [go_sem, hp, hq, IntKind.wrap_u64, mH, hy];have h1 := Ec x y;unfold W at hx;rw [<- Int.natCast_ediv];generalize x / y = z at *;omega
theorem y8 (hg : o.guard = none) (p q : Operand) (ho : o.op = .binOp .quo 60 p q 60) {X Y : Int} (x y : Nat) (hx : x < W) (hy : y ≠ 0)
 (hp : a.eval p = .int .u64 X) (hq : a.eval q = .int .u64 Y) (hX : X = (x : Int)) (hY : Y = (y : Int))
 (h : wpList Tryz.prog ops Q rest (a.put o.dst (.int .u64 ((mH x y : Nat) : Int))) w) : wpList Tryz.prog ops Q (o :: rest) a w := by
 subst hX hY;exact eL hg (zC _ _ p q ho x y hx hy hp hq) h
theorem ze (ρ : Operand -> Value) (o : Oper) (p q : Operand) (ho : o.op = .binOp .shl 60 p q 127) (x y : Nat) (hy : y <= 64) (hp : ρ p = .int .u64 (x : Int)) (hq : ρ q = .int .u64 (y : Int)) :
 (execOp ρ o).run Tryz.prog w = .ok (.value (.int .u64 ((dS x y : Nat) : Int))) w := by
 obtain ⟨dst, op, type, pos, after, guard⟩ := o;simp only at ho; subst ho;simp [go_sem, hp, hq, IntKind.wrap_u64, dS, hy];rfl
theorem o5 (hg : o.guard = none) (p q : Operand) (ho : o.op = .binOp .shl 60 p q 127) {X Y : Int} (x y : Nat) (hy : y <= 64)
 (hp : a.eval p = .int .u64 X) (hq : a.eval q = .int .u64 Y) (hX : X = (x : Int)) (hY : Y = (y : Int))
 (h : wpList Tryz.prog ops Q rest (a.put o.dst (.int .u64 ((dS x y : Nat) : Int))) w) : wpList Tryz.prog ops Q (o :: rest) a w := by
 subst hX hY;exact eL hg (ze _ _ p q ho x y hy hp hq) h
theorem zz (ρ : Operand -> Value) (o : Oper) (p q : Operand) (ho : o.op = .binOp .shr 60 p q 127) (x y : Nat) (hx : x < W) (hy : y <= 64) (hp : ρ p = .int .u64 (x : Int)) (hq : ρ q = .int .u64 (y : Int)) :
 (execOp ρ o).run Tryz.prog w = .ok (.value (.int .u64 ((ik x y : Nat) : Int))) w := by
 obtain ⟨dst, op, type, pos, after, guard⟩ := o;simp only at ho; subst ho;simp [go_sem, hp, hq, IntKind.wrap_u64, ik, hy]
theorem ng (hg : o.guard = none) (p q : Operand) (ho : o.op = .binOp .shr 60 p q 127) {X Y : Int} (x y : Nat) (hx : x < W) (hy : y <= 64)
 (hp : a.eval p = .int .u64 X) (hq : a.eval q = .int .u64 Y) (hX : X = (x : Int)) (hY : Y = (y : Int))
 (h : wpList Tryz.prog ops Q rest (a.put o.dst (.int .u64 ((ik x y : Nat) : Int))) w) : wpList Tryz.prog ops Q (o :: rest) a w := by
 subst hX hY;exact eL hg (zz _ _ p q ho x y hx hy hp hq) h
theorem Cn (ρ : Operand -> Value) (o : Oper) (p q : Operand) (ho : o.op = .binOp .or 60 p q 60) (x y : Nat) (hx : x < W) (hy : y < W) (hp : ρ p = .int .u64 (x : Int)) (hq : ρ q = .int .u64 (y : Int)) :
 (execOp ρ o).run Tryz.prog w = .ok (.value (.int .u64 ((vw x y : Nat) : Int))) w := by
 obtain ⟨dst, op, type, pos, after, guard⟩ := o;simp only at ho; subst ho;simp [go_sem, hp, hq, IntKind.wrap_u64, vw, or_cast x y hx hy]
theorem rV (hg : o.guard = none) (p q : Operand) (ho : o.op = .binOp .or 60 p q 60) {X Y : Int} (x y : Nat) (hx : x < W) (hy : y < W)
 (hp : a.eval p = .int .u64 X) (hq : a.eval q = .int .u64 Y) (hX : X = (x : Int)) (hY : Y = (y : Int))
 (h : wpList Tryz.prog ops Q rest (a.put o.dst (.int .u64 ((vw x y : Nat) : Int))) w) : wpList Tryz.prog ops Q (o :: rest) a w := by
 subst hX hY;exact eL hg (Cn _ _ p q ho x y hx hy hp hq) h
theorem Al (ρ : Operand -> Value) (o : Oper) (p q : Operand) (ho : o.op = .binOp .and 60 p q 60) (x y : Nat) (hx : x < W) (hy : y < W) (hp : ρ p = .int .u64 (x : Int)) (hq : ρ q = .int .u64 (y : Int)) :
 (execOp ρ o).run Tryz.prog w = .ok (.value (.int .u64 ((oA x y : Nat) : Int))) w := by
 obtain ⟨dst, op, type, pos, after, guard⟩ := o;simp only at ho; subst ho;simp [go_sem, hp, hq, IntKind.wrap_u64, oA, and_cast x y hx hy]
theorem y6 (hg : o.guard = none) (p q : Operand) (ho : o.op = .binOp .and 60 p q 60) {X Y : Int} (x y : Nat) (hx : x < W) (hy : y < W)
 (hp : a.eval p = .int .u64 X) (hq : a.eval q = .int .u64 Y) (hX : X = (x : Int)) (hY : Y = (y : Int))
 (h : wpList Tryz.prog ops Q rest (a.put o.dst (.int .u64 ((oA x y : Nat) : Int))) w) : wpList Tryz.prog ops Q (o :: rest) a w := by
 subst hX hY;exact eL hg (Al _ _ p q ho x y hx hy hp hq) h
end
end Go.Proofs.YtjjlmfmoihooiaaGreat
namespace Go.Proofs.YtjjlmfmoihooiaaGreat
def HB : Nat := 4294967296
theorem wY : HB = 4294967296 := rfl
theorem uQ : HB * HB = W := rfl
theorem ir {u y w y1 y0 : Nat} (hy : y = y1 * HB + y0) (h1 : 2147483648 <= y1) (hu : u < y) (hw : w < HB) (h0 : y0 < HB) :
 (u * HB + w) / y < HB /\ (u * HB + w) / y <= u / y1 /\ u / y1 <= HB + 1 := by
 have hyp : 0 < y := by unfold HB at hy; omega
 have hy1 : 0 < y1 := by omega
 refine ⟨?_, ?_, ?_⟩
 . rw [Dj hyp];have : (u + 1) * HB <= y * HB := Cy _ hu;rw [CY, ER] at this;rw [CE HB y]; omega
 . rw [Ep hy1];have h2 := Nat.div_mul_le_self (u * HB + w) y;generalize (u * HB + w) / y = q at *;have h3 : q * y1 * HB <= q * y := by rw [CN]; exact CD _ Cp
   have h4 : q * y1 * HB < (u + 1) * HB := by rw [CY, ER]; omega
   have h5 := Nat.lt_of_mul_lt_mul_right h4;omega
 . have : u / y1 < HB + 2 := by
    rw [Dj hy1, CY];have : HB * y1 = y1 * HB := CE ..;unfold HB at *;omega
   omega
theorem jP {u y w y1 y0 q q1 rh : Nat} (hy : y = y1 * HB + y0) (hq : q = (u * HB + w) / y) (hyp : 0 < y) (he : q1 * y1 + rh = u) (hc : HB <= q1 \/ HB * rh + w < q1 * y0) (hqB : q < HB) : q < q1 := by
 rcases hc with h | h
 . omega
 . refine Df fun hn => ?_;have h1 : q1 * y <= q * y := Cy _ Cp;have h2 := Nat.div_mul_le_self (u * HB + w) y;rw [<- hq] at h2;have h3 : q1 * y = q1 * y1 * HB + q1 * y0 := by rw [hy, CA, CN]
   have h4 : u * HB = q1 * y1 * HB + rh * HB := by rw [<- he, CY]
   rw [CE HB rh] at h;omega
theorem pT {u y w y1 y0 q q1 rh : Nat} (hy : y = y1 * HB + y0) (hq : q = (u * HB + w) / y) (hyp : 0 < y) (he : q1 * y1 + rh = u) (hc : q1 * y0 <= HB * rh + w) (hle : q <= q1) : q1 = q := by
 have h3 : q1 * y = q1 * y1 * HB + q1 * y0 := by rw [hy, CA, CN]
 have h4 : u * HB = q1 * y1 * HB + rh * HB := by rw [<- he, CY]
 have h5 : q1 * y <= u * HB + w := by rw [CE HB rh] at hc; omega
 have h6 : q1 <= q := by rw [hq]; exact (Ep hyp).2 h5
 omega
theorem u9 {w y0 q1 rh : Nat} (h0 : y0 < HB) (hq1 : q1 <= HB) (hrh : HB <= rh) : q1 * y0 <= HB * rh + w := by
 have h1 : q1 * y0 <= HB * HB := Da hq1 Cp;have h2 : HB * HB <= HB * rh := CD _ hrh;omega
theorem ph {u y w q : Nat} (hq : q = (u * HB + w) / y) (hyp : 0 < y) (hyW : y < W) :
 ee (bA (aM u HB) w 0) (aM q y) 0 = (u * HB + w) % y := by
 have h1 := Ds (u * HB + w) y;have h2 := Dm (u * HB + w) hyp;rw [<- hq, CE] at h1;unfold ee bA aM;generalize (u * HB + w) % y = r at *;generalize u * HB = A at *;generalize q * y = C at *;unfold W at *;omega
def kA (h l y : Nat) : Nat := (h * W + l) / y
def mG (h l y : Nat) : Nat := (h * W + l) % y
theorem wV {h l s y : Nat} (hl : l < W) (hs : s < 64) (hh : h < y) (hy : y * 2 ^ s < W) :
 vw (dS h s) (ik l (64 - s)) * W + dS l s = (h * W + l) * 2 ^ s /\ vw (dS h s) (ik l (64 - s)) < y * 2 ^ s /\ dS h s < W /\ ik l (64 - s) < W := by
 unfold vw dS ik;have hp : 0 < 2 ^ s := Eb s;have hW := jT (Dg hs);have h1 : (h + 1) * 2 ^ s <= y * 2 ^ s := Cy _ hh;rw [CY, ER] at h1;have e1 : h * 2 ^ s % W = h * 2 ^ s := Dk Cp;have hq : 0 < 2 ^ (64 - s) := Eb _;have h2 : l / 2 ^ (64 - s) < 2 ^ s := by rw [Dj hq, CE, <- hW]; exact hl
 have e2 : h * 2 ^ s ||| l / 2 ^ (64 - s) = h * 2 ^ s + l / 2 ^ (64 - s) := by
  rw [CE h, <- Nat.two_pow_add_eq_or_of_lt h2]
 have e3 : l * 2 ^ s = l / 2 ^ (64 - s) * W + l * 2 ^ s % W := by
  have h3 := Ds (l * 2 ^ s) W;have h4 : l * 2 ^ s / W = l / 2 ^ (64 - s) := by
   rw [hW]; exact Nat.mul_div_mul_right _ _ hp
  rw [h4, CE W] at h3;omega
 rw [e1, e2];refine ⟨?_, by omega, by omega, CT (Ec ..) hl⟩;have e4 : h * 2 ^ s * W = h * W * 2 ^ s := Nat.mul_right_comm ..;have e5 : (h * W + l) * 2 ^ s = h * W * 2 ^ s + l * 2 ^ s := CY ..;have e6 : (h * 2 ^ s + l / 2 ^ (64 - s)) * W = h * 2 ^ s * W + l / 2 ^ (64 - s) * W := CY ..;omega
theorem yC {h l s y u v q1 q0 r1 : Nat} (hs : u * W + v = (h * W + l) * 2 ^ s) (hy : 0 < y) (hq1 : q1 = (u * HB + v / HB) / (y * 2 ^ s)) (hr1 : r1 = (u * HB + v / HB) % (y * 2 ^ s)) (hq0 : q0 = (r1 * HB + v % HB) / (y * 2 ^ s))
 (hb1 : q1 < HB) (hb0 : q0 < HB) : bA (aM q1 HB) q0 0 = kA h l y /\ ik ((r1 * HB + v % HB) % (y * 2 ^ s)) s = mG h l y := by
 have hp : 0 < 2 ^ s := Eb s;have hyp : 0 < y * 2 ^ s := Fi hy hp;have e1 := Ds (u * HB + v / HB) (y * 2 ^ s);have e0 := Ds (r1 * HB + v % HB) (y * 2 ^ s);rw [<- hq1, <- hr1] at e1;rw [<- hq0] at e0;have hlt := Dm (r1 * HB + v % HB) hyp;have ev := Ds v HB;generalize (r1 * HB + v % HB) % (y * 2 ^ s) = r0 at *;have tot : (h * W + l) * 2 ^ s = (q1 * HB + q0) * (y * 2 ^ s) + r0 := by
  rw [<- hs, <- uQ, <- CN];have : (u * HB + v / HB) * HB = (y * 2 ^ s * q1 + r1) * HB := by rw [e1]
  rw [CY, CY] at this;rw [CE HB] at ev;have e3 : (q1 * HB + q0) * (y * 2 ^ s) = y * 2 ^ s * q1 * HB + y * 2 ^ s * q0 := by
   rw [CY, CE q0, CE (q1 * HB), <- CN]
  rw [e3]; omega
 have hq : bA (aM q1 HB) q0 0 = q1 * HB + q0 := by
  unfold bA aM;have : q1 * HB + HB <= HB * HB := by rw [<- Dz]; exact Cy _ hb1
  rw [uQ] at this;rw [Dk (by omega : q1 * HB < W), Ea, Dk Cp]
 have hN : h * W + l = (q1 * HB + q0) * y + r0 / 2 ^ s := by
  have h3 : (h * W + l) * 2 ^ s / 2 ^ s = ((q1 * HB + q0) * (y * 2 ^ s) + r0) / 2 ^ s := by rw [tot]
  have e9 : (q1 * HB + q0) * (y * 2 ^ s) = 2 ^ s * ((q1 * HB + q0) * y) := by rw [<- CN, CE]
  rw [Nat.mul_div_cancel _ hp, e9, Nat.mul_add_div hp] at h3;exact h3
 have hr0 : r0 / 2 ^ s < y := by rw [Dj hp]; exact hlt
 refine ⟨?_, ?_⟩
 . rw [hq]; unfold kA; rw [hN, Ez ((q1 * HB + q0) * y), E9 _ _ hy, D0 hr0, Db]
 . unfold mG ik; rw [hN, Ez ((q1 * HB + q0) * y), Nat.add_mul_mod_self_right, Dk hr0]
theorem rv {u y : Nat} (hu : u < W) : ee u (aM (mH u y) y) 0 = u % y := by
 have h1 := Ds u y;rw [CE] at h1;unfold ee aM mH;generalize u % y = r at *;generalize u / y * y = c at *;unfold W at *;omega
structure du (u y w y1 y0 q1 rh : Nat) : Prop where
 le : (u * HB + w) / y <= q1
 eq : q1 * y1 + rh = u
 rh : rh < HB
 top : q1 <= HB + 1
theorem du.start {u y w y1 y0 : Nat} (hy : y = y1 * HB + y0) (h1 : 2147483648 <= y1) (hu : u < y) (hw : w < HB) (h0 : y0 < HB) (hyW : y < W) : du u y w y1 y0 (mH u y1) (ee u (aM (mH u y1) y1) 0) := by
 obtain ⟨a, b, c⟩ := ir hy h1 hu hw h0;have e := rv (u := u) (y := y1) Cp;have hy1 : y1 < HB := by
  refine Df fun hn => ?_;have : HB * HB <= y1 * HB := Cy _ Cp;rw [uQ] at this;omega
 have hm := Dm u (by omega : y1 > 0);refine ⟨b, ?_, by rw [e]; omega, c⟩;rw [e]; unfold mH; rw [CE]; exact Ds u y1
theorem du.step {u y w y1 y0 q1 rh : Nat} (hi : du u y w y1 y0 q1 rh) (hgt : (u * HB + w) / y < q1) : (q1 - 1) * y1 + (rh + y1) = u := by
 obtain ⟨p, rfl⟩ : ∃ p, q1 = p + 1 := ⟨q1 - 1, by have := CT (Cx _) hgt; omega⟩;have := hi.eq;rw [CY] at this;rw [Es]; omega
theorem du.stop {u y w y1 y0 q1 rh : Nat} (hi : du u y w y1 y0 q1 rh) (hy : y = y1 * HB + y0) (hyp : 0 < y) (h0 : y0 < HB) (hgt : (u * HB + w) / y < q1) (hbr : HB <= rh + y1) : q1 - 1 = (u * HB + w) / y :=
 pT hy rfl hyp (hi.step hgt) (u9 h0 (by have := hi.top; omega) hbr) (Nat.le_sub_one_of_lt hgt)
theorem du.next {u y w y1 y0 q1 rh : Nat} (hi : du u y w y1 y0 q1 rh) (hgt : (u * HB + w) / y < q1) (hbr : rh + y1 < HB) : du u y w y1 y0 (q1 - 1) (rh + y1) :=
 ⟨Nat.le_sub_one_of_lt hgt, hi.step hgt, hbr, by have := hi.top; omega⟩
theorem du.done {u y w y1 y0 q1 rh : Nat} (hi : du u y w y1 y0 q1 rh) (hy : y = y1 * HB + y0) (hyp : 0 < y) (hc : q1 * y0 <= HB * rh + w) : q1 = (u * HB + w) / y :=
 pT hy rfl hyp hi.eq hc hi.le
theorem kT (x : Nat) : oA x 4294967295 = x % HB := by
 unfold oA; exact Nat.and_two_pow_sub_one_eq_mod x 32
theorem jE (x : Nat) : ik x 32 = x / HB := rfl
end Go.Proofs.YtjjlmfmoihooiaaGreat
namespace Go.Proofs
open Go.Shelf
def Tryz.rA : Go.Shelf.Ren := ⟨fun | 134 => 124 | 129 => 82 | n => n, fun | 53 => 60 | 3 => 3 | 4 => 4 | 46 => 127 | 5 => 5 | 9 => 9 | n => n, fun | n => n⟩
theorem Tryz.AK : Go.Proofs.Lays.n134 Tryz.prog Tryz.rA := {
 mixed := by kernel_rfl
 f129 := Tryz.func82.trans (congrArg some (by kernel_rfl))
 f134 := Tryz.func124.trans (congrArg some (by kernel_rfl))
 t3 := Tryz.underlying3
 a3 := Tryz.isAgg3
 z3 := Tryz.sizeOf3
 v3 := Tryz.zeroValue3
 t4 := Tryz.underlying4
 a4 := Tryz.isAgg4
 z4 := Tryz.sizeOf4
 v4 := Tryz.zeroValue4
 t5 := Tryz.underlying5
 a5 := Tryz.isAgg5
 z5 := Tryz.sizeOf5
 v5 := Tryz.zeroValue5
 t9 := Tryz.underlying9
 a9 := Tryz.isAgg9
 z9 := Tryz.sizeOf9
 v9 := Tryz.zeroValue9
 t46 := Tryz.underlying127
 a46 := Tryz.isAgg127
 z46 := Tryz.sizeOf127
 v46 := Tryz.zeroValue127
 t53 := Tryz.underlying60
 a53 := Tryz.isAgg60
 z53 := Tryz.sizeOf60
 v53 := Tryz.zeroValue60 }
theorem Tryz.bits_LeadingZeros64 (x : Int) (w : World) (h0 : 0 <= x) (h1 : x <= 18446744073709551615) :
 Calls Tryz.prog 124 #[.int .u64 x] w fun e w' => e = .returned (.int .i64 (64 - (Lib.bitLen x.toNat : Int))) /\ w' = w := Any.bits_LeadingZeros64 Tryz.AK x w h0 h1
def Tryz.sE : Go.Shelf.Ren := ⟨fun | 129 => 82 | n => n, fun | 53 => 60 | 3 => 3 | 4 => 4 | 46 => 127 | 5 => 5 | 9 => 9 | n => n, fun | n => n⟩
theorem Tryz.yV : Go.Proofs.Lays.n129 Tryz.prog Tryz.sE := {
 mixed := by kernel_rfl
 f129 := Tryz.func82.trans (congrArg some (by kernel_rfl))
 t3 := Tryz.underlying3
 a3 := Tryz.isAgg3
 z3 := Tryz.sizeOf3
 v3 := Tryz.zeroValue3
 t4 := Tryz.underlying4
 a4 := Tryz.isAgg4
 z4 := Tryz.sizeOf4
 v4 := Tryz.zeroValue4
 t5 := Tryz.underlying5
 a5 := Tryz.isAgg5
 z5 := Tryz.sizeOf5
 v5 := Tryz.zeroValue5
 t9 := Tryz.underlying9
 a9 := Tryz.isAgg9
 z9 := Tryz.sizeOf9
 v9 := Tryz.zeroValue9
 t46 := Tryz.underlying127
 a46 := Tryz.isAgg127
 z46 := Tryz.sizeOf127
 v46 := Tryz.zeroValue127
 t53 := Tryz.underlying60
 a53 := Tryz.isAgg60
 z53 := Tryz.sizeOf60
 v53 := Tryz.zeroValue60 }
theorem Tryz.bits_Len64 (x : Int) (w : World) (h0 : 0 <= x) (h1 : x <= 18446744073709551615) :
 Calls Tryz.prog 82 #[.int .u64 x] w fun e w' => e = .returned (.int .i64 (Lib.bitLen x.toNat)) /\ w' = w := Any.bits_Len64 Tryz.yV x w h0 h1
def Tryz.tf : Go.Shelf.Ren := ⟨fun | 264 => 120 | n => n, fun | 53 => 60 | 46 => 127 | n => n, fun | n => n⟩
theorem Tryz.A5 : Go.Proofs.Lays.n264 Tryz.prog Tryz.tf := {
 mixed := by kernel_rfl
 f264 := Tryz.func120.trans (congrArg some (by kernel_rfl))
 t46 := Tryz.underlying127
 a46 := Tryz.isAgg127
 z46 := Tryz.sizeOf127
 v46 := Tryz.zeroValue127
 t53 := Tryz.underlying60
 a53 := Tryz.isAgg60
 z53 := Tryz.sizeOf60
 v53 := Tryz.zeroValue60 }
open Go.RowKit Go.Lib in
theorem Tryz.bits_Mul64 (x y : Nat) (hx : x < 18446744073709551616) (hy : y < 18446744073709551616) (w : World) :
 Calls Tryz.prog 120 #[.int .u64 x, .int .u64 y] w fun e w' => e = .returned (.tuple #[.int .u64 ((x * y / 18446744073709551616 : Nat) : Int), .int .u64 ((x * y % 18446744073709551616 : Nat) : Int)]) /\ w' = w := Any.bits_Mul64 Tryz.A5 x y hx hy w
end Go.Proofs
namespace Go.Proofs.YtjjlmfmoihooiaaGreat
open Go.RowKit
theorem H5 {p : Prop} (h : p) : Go.RowKit.Hid p := Go.Lib.hid h
theorem dN (ao : Option Addr) (len cap : Nat) (ws : List Nat) (w : World) (hA : cX w ao ws) (hl : len = ws.length) (hm : len <= maxLen) :
 Calls Tryz.prog 81 #[.slice ao len cap] w fun e w' => e = .returned (.int .i64 (aw ws : Nat)) /\ w = w' := by
 unfold maxLen at hm;subst hl;have htl := aK ws;go_enter Tryz.func81, Tryz.ntmps81;go_wp2
 go_loop [3] (fun i => ∃ k : Nat, k <= ws.length /\ aw ws <= k /\ i = .int .i64 k) (fun i => (intOf i).toNat)
 case atStart => exact ⟨ws.length, by omega, by omega, rfl⟩
 case round =>
  obtain ⟨k, hk, ht, rfl⟩ := hrel;by_cases h0 : 0 < k
  . obtain ⟨b, o, rfl, hb, hc⟩ := hA.pos Cp;have hcell := hc (k - 1) Cp;by_cases hz : gw ws (k - 1) = 0
    . have hzb : (((gw ws (k - 1) : Nat) : Int) == 0) = true := by rw [hz]; rfl
      have Hz := H5 hz; clear hz hc;go_wp2
      go_round
      case rel => exact ⟨k - 1, by omega, kh ws (k - 1) (fun j hj => by
       by_cases hj' : j = k - 1
       . rw [hj']; exact Hz.out
       . exact iN ws j Cp), by go_num⟩
      case measure => simp [intOf]; omega
    . have hzb : (((gw ws (k - 1) : Nat) : Int) == 0) = false := by rw [beq_eq_false_iff_ne]; omega
      have h1 := qB ws (k - 1) hz;clear hc hz;go_wp2;go_ret;exact ⟨gT Cp, rfl⟩
  . go_wp2;go_ret;exact ⟨gT Cp, rfl⟩
theorem own_s (ao : Option Addr) (len cap : Nat) (ws : List Nat) (w : World) (hA : cX w ao ws) (hl : len = ws.length) (hm : len <= 17592186044416) :
 Calls Tryz.prog 83 #[.slice ao len cap] w fun e w' => ∃ b, e = .returned (.slice (some ⟨b, 0, none⟩) (ag (ae ws)) (ag (ae ws))) /\ tW w w' b (fM (ae ws)) := by
 subst hl;have htl := aK ws;have hm' : ws.length <= maxLen := by unfold maxLen; omega
 have Hm := H5 hm'; clear hm';go_enter Tryz.func83, Tryz.ntmps83;go_wp2_with (first
  | (go_at_call 81; refine (dN _ _ _ ws _ hA rfl Hm.out).mono ?_; rintro e w' ⟨rfl, rfl⟩)
  | (at_make; refine ez rfl _ _ rfl (aw ws) (aw ws) rfl rfl rfl rfl (Ct _) Cp ?_; intro b w1 hm1)
  | (with_reducible show wpList _ _ _ (⟨some 11, _, _, _, _, _⟩ :: _) _ _; refine oj rfl _ _ rfl (hA.below hm1.below) rfl hm1.row rfl rfl Cq ?_; intro w2 hr2 hg2; have hb2 := hm1.below.grown hg2 hm1.below.size (fun k e => by cases e; exact DJ hm1.at_.symm)))
 go_ret;have e : splice (List.replicate (aw ws) 0) 0 (ws.take (aw ws)) = ws.take (aw ws) := by simp [splice, CZ, DD htl]
 rw [e] at hr2;rw [bS hA.ok, iz hA.ok];have hl : (ws.take (aw ws)).length = aw ws := by simp [CZ, DD htl]
 exact ⟨b, rfl, hr2, hA.ok.take _, DJ hm1.at_.symm, hb2⟩
theorem v8 (ao : Option Addr) (len cap : Nat) (ws : List Nat) (w : World) (hA : cX w ao ws) (hl : len = ws.length) (hm : len <= 17592186044416) :
 Calls Tryz.prog 51 #[.slice ao len cap] w fun e w' => ∃ b, e = .returned (.slice (some ⟨b, 0, none⟩) (ag (ae ws)) (ag (ae ws))) /\ tW w w' b (fM (ae ws)) := by
 subst hl;go_enter Tryz.func51, Tryz.ntmps51;go_wp2_with (go_at_call 83; refine (own_s _ _ _ ws _ hA rfl hm).mono ?_; rintro e w' ⟨b, rfl, h1⟩)
 go_ret;exact ⟨_, rfl, h1⟩
theorem fa (ao : Option Addr) (len cap : Nat) (ws : List Nat) (w : World) (hA : cX w ao ws) (hl : len = ws.length) (hm : len <= 17592186044416) :
 Calls Tryz.prog 51 #[.slice ao len cap] w fun e w' => (∃ ao' cap', e = .returned (.slice ao' (ag (ae ws)) cap') /\ db w' w.heap.size ao' (ag (ae ws)) cap' (fM (ae ws))) /\ Below w.heap.size w w' :=
 (v8 ao len cap ws w hA hl hm).mono fun _ _ ⟨b, he, hN⟩ => ⟨⟨_, _, he, hN.own rfl (by have := ec hA.ok; unfold maxLen; omega)⟩, hN.below⟩
theorem uS (aoA aoB : Option Addr) (lA cA lB cB : Nat) (xs ys : List Nat) (w : World) (hA : cX w aoA xs) (hB : cX w aoB ys) (hlA : lA = xs.length) (hlB : lB = ys.length) (hmA : lA <= 17592186044416) (hmB : lB <= 17592186044416) :
 Calls Tryz.prog 49 #[.slice aoA lA cA, .slice aoB lB cB] w fun e w' => e = .returned (.int .i64 (gN (ae xs) (ae ys))) /\ Below w.heap.size w w' := by
 subst hlA hlB;have htA := aK xs;have htB := aK ys;have hmA' : xs.length <= maxLen := by unfold maxLen; omega
 have hmB' : ys.length <= maxLen := by unfold maxLen; omega
 have HA := H5 hmA'; clear hmA';have HB := H5 hmB'; clear hmB';by_cases hs : aw xs = aw ys
 . have hb : (((aw xs : Nat) : Int) != ((aw ys : Nat) : Int)) = false := by rw [hs]; simp
   have Hs := H5 hs; clear hs;go_enter Tryz.func49, Tryz.ntmps49;go_wp2_with fail
   refine (dN _ _ _ xs _ hA rfl HA.out).mono ?_;rintro e w' ⟨rfl, rfl⟩;go_wp2_with fail
   refine (dN _ _ _ ys _ hB rfl HB.out).mono ?_;rintro e w' ⟨rfl, rfl⟩;go_wp2;go_loopw [7] (fun i wr => ∃ k : Nat, k <= aw xs /\ i = .int .i64 ((k : Int) - 1) /\ Hid (∀ j, k <= j -> gw xs j = gw ys j) /\ Below w.heap.size w wr) (fun i _ => (intOf i + 1).toNat)
   case atStart => exact ⟨aw xs, Ct _, rfl, H5 (fun j hj => by rw [ja hj, ja (by have := Hs.out; omega)]), Below.refl _ _⟩
   case round =>
    obtain ⟨k, hk, rfl, hag, hbl⟩ := hrel;by_cases h0 : 0 < k
    . have hk2 : k <= aw ys := by have := Hs.out; omega
      obtain ⟨b1, o1, rfl, hb1, hc1⟩ := (hA.below hbl).pos Cp;obtain ⟨b2, o2, rfl, hb2, hc2⟩ := (hB.below hbl).pos Cp;have e1 := hc1 (k - 1) Cp;have e2 := hc2 (k - 1) Cp;clear hc1 hc2;have i1 : (k : Int) - 1 < (xs.length : Int) := by omega
      have i2 : (k : Int) - 1 < (ys.length : Int) := by omega
      have i3 : (0 : Int) <= (k : Int) - 1 := by omega
      by_cases hlt : gw xs (k - 1) < gw ys (k - 1)
      . have t1 : decide (((gw xs (k - 1) : Nat) : Int) < ((gw ys (k - 1) : Nat) : Int)) = true := by simp; omega
        go_wp2
        go_quiet (fail)
        go_wp2;go_ret;exact ⟨gT (n6 (ke hA.ok hB.ok (k - 1) (fun j hj => hag.out j Cp) hlt)).symm, below_drewN hbl _⟩
      . have t1 : decide (((gw xs (k - 1) : Nat) : Int) < ((gw ys (k - 1) : Nat) : Int)) = false := by simp; omega
        by_cases hgt : gw ys (k - 1) < gw xs (k - 1)
        . have t2 : decide (((gw ys (k - 1) : Nat) : Int) < ((gw xs (k - 1) : Nat) : Int)) = true := by simp; omega
          go_wp2
          go_quiet (fail)
          go_wp2
          go_quiet (fail)
          go_wp2;go_ret;exact ⟨gT (vi (ke hB.ok hA.ok (k - 1) (fun j hj => (hag.out j Cp).symm) hgt)).symm, below_drewN (below_drewN hbl _) _⟩
        . have t2 : decide (((gw ys (k - 1) : Nat) : Int) < ((gw xs (k - 1) : Nat) : Int)) = false := by simp; omega
          go_wp2
          go_quiet (fail)
          go_wp2
          go_quiet (fail)
          go_wp2;go_roundw
          case rel => exact ⟨k - 1, by omega, by go_num, H5 (fun j hj => by
           by_cases e : j = k - 1
           . subst e; omega
           . exact hag.out j Cp), below_drewN hbl _⟩
          case measure => simp [intOf]; omega
    . go_wp2;go_ret;refine ⟨gT (zh (kg fun j => hag.out j Cp)).symm, hbl⟩
 . have hb : (((aw xs : Nat) : Int) != ((aw ys : Nat) : Int)) = true := by rw [bne_iff_ne]; omega
   by_cases hlt : aw xs < aw ys;all_goals
    go_enter Tryz.func49, Tryz.ntmps49;go_wp2_with fail
    refine (dN _ _ _ xs _ hA rfl HA.out).mono ?_;rintro e w' ⟨rfl, rfl⟩;go_wp2_with fail
    refine (dN _ _ _ ys _ hB rfl HB.out).mono ?_;rintro e w' ⟨rfl, rfl⟩;go_wp2;go_ret
   . exact ⟨gT (n6 (jg hA.ok hB.ok hlt)).symm, Below.refl _ _⟩
   . exact ⟨gT (vi (jg hB.ok hA.ok Cp)).symm, Below.refl _ _⟩
theorem Add_c (aoA aoB : Option Addr) (lA cA lB cB : Nat) (xs ys : List Nat) (w : World) (hA : cX w aoA xs) (hB : cX w aoB ys) (hlA : lA = xs.length) (hlB : lB = ys.length) (hmA : lA <= 17592186044416) (hmB : lB <= 17592186044416) :
 Calls Tryz.prog 86 #[.slice aoA lA cA, .slice aoB lB cB] w fun e w' =>
  (∃ ao' cap', e = .returned (.slice ao' (ag (ae xs + ae ys)) cap') /\ db w' w.heap.size ao' (ag (ae xs + ae ys)) cap' (fM (ae xs + ae ys))) /\ Below w.heap.size w w' := by
 subst hlA hlB;have htA := aK xs;have htB := aK ys;have hmA' : xs.length <= maxLen := by unfold maxLen; omega
 have hmB' : ys.length <= maxLen := by unfold maxLen; omega
 have HA := H5 hmA'; clear hmA';have HB := H5 hmB'; clear hmB';go_enter Tryz.func86, Tryz.ntmps86
 go_upto_if 15 with (go_at_call 81; first | ((with_reducible refine (dN aoA _ _ xs _ hA rfl HA.out).mono ?_); rintro e w' ⟨rfl, rfl⟩) | ((with_reducible refine (dN aoB _ _ ys _ hB rfl HB.out).mono ?_); rintro e w' ⟨rfl, rfl⟩))
 go_cut [0, 1] (fun s0 s1 wc => ∃ (ao1 ao2 : Option Addr) (c1 c2 : Nat) (as_ bs : List Nat), s0 = .slice ao1 as_.length c1 /\ s1 = .slice ao2 bs.length c2 /\ cX w ao1 as_ /\ cX w ao2 bs /\ aw bs <= aw as_ /\ as_.length <= 17592186044416 /\ bs.length <= 17592186044416 /\
  Hid (ae as_ + ae bs = ae xs + ae ys) /\ w = wc)
 case first =>
  by_cases hlt : aw xs < aw ys
  . have t1 : decide (((aw xs : Nat) : Int) < ((aw ys : Nat) : Int)) = true := by simp; omega
    go_wp2
    go_meet
    exact ⟨_, _, _, _, ys, xs, rfl, rfl, hB, hA, by omega, hmB, hmA, H5 Cp, rfl⟩
  . have t1 : decide (((aw xs : Nat) : Int) < ((aw ys : Nat) : Int)) = false := by simp; omega
    go_wp2
    go_meet
    exact ⟨_, _, _, _, xs, ys, rfl, rfl, hA, hB, by omega, hmA, hmB, H5 rfl, rfl⟩
 case rest =>
  obtain ⟨ao1, ao2, c1, c2, as_, bs, rfl, rfl, h1, h2, hle, hm1, hm2, hsum, rfl⟩ := hcut;have k1 : as_.length <= maxLen := by unfold maxLen; omega
  have k2 : bs.length <= maxLen := by unfold maxLen; omega
  have K1 := H5 k1; clear k1;have K2 := H5 k2; clear k2;have l1 := aK as_;go_wp2_with (first
   | (go_at_call 81; first | ((with_reducible refine (dN ao1 _ _ as_ _ h1 rfl K1.out).mono ?_); rintro e w' ⟨rfl, rfl⟩) | ((with_reducible refine (dN ao2 _ _ bs _ h2 rfl K2.out).mono ?_); rintro e w' ⟨rfl, rfl⟩))
   | (at_make; refine ez rfl _ _ rfl (aw as_ + 1) (aw as_ + 1) rfl rfl Cp Cp (Ct _) Cp ?_; intro b w1 hm1))
  go_loopw [8, 26] (fun c i wr => ∃ (k cr : Nat) (ls : List Nat), k <= aw as_ /\ i = .int .i64 k /\ c = .int .u64 cr /\ cr <= 1 /\ ls.length = aw as_ + 1 /\ Ok ls /\ aa wr b 60 (ls.map wv) /\ Below w.heap.size w wr /\
   ae (ls.take k) + W ^ k * cr = ae (as_.take k) + ae (bs.take k)) (fun _ i _ => aw as_ - (intOf i).toNat)
  case atStart => exact ⟨0, 0, _, Cx _, rfl, rfl, by omega, by simp, Ok.replicate _, hm1.row, hm1.below, by simp [ae]⟩
  case round =>
   obtain ⟨k, cr, ls, hk, rfl, rfl, hcr, hll, hok, hrow, hbl, heq⟩ := hrel;have Hll := H5 hll; clear hll;have Heq := H5 heq; clear heq;by_cases hlt : k < aw as_
   . obtain ⟨b1, o1, rfl, hb1, hc1⟩ := (h1.below hbl).pos Cp;have e1 := hc1 k Cp;clear hc1;have hcell := hrow.word (i := k) (by have := Hll.out; omega);have hfree := hrow.free k;by_cases hlt2 : k < aw bs
     . have l2 := aK bs;obtain ⟨b2, o2, rfl, hb2, hc2⟩ := (h2.below hbl).pos Cp;have e2 := hc2 k Cp;clear hc2;go_wp2_with (with_reducible show wpList _ _ _ (⟨some 45, _, _, _, _, _⟩ :: _) _ _; refine cI rfl _ _ _ _ rfl (gw as_ k) (gw bs k) cr hcr rfl rfl rfl rfl rfl rfl ?_)
       go_roundw
       case rel => exact ⟨k + 1, _, _, by omega, by go_num, rfl, jJ (h1.ok.gw k) (h2.ok.gw k) hcr, by rw [CL]; exact Hll.out, hok.set _ _ (eX _ _ _), hrow.da _ _, hbl.setCell (by exact DJ hm1.at_.symm) _, by
        rw [aG as_, aG bs]; exact ri (by have := Hll.out; omega) Heq.out⟩
       case measure => simp [intOf]; omega
     . have hz : gw bs k = 0 := ja Cp;have Hz := H5 hz; clear hz;go_wp2_with (with_reducible show wpList _ _ _ (⟨some 45, _, _, _, _, _⟩ :: _) _ _; refine cI rfl _ _ _ _ rfl (gw as_ k) 0 cr hcr rfl rfl rfl rfl rfl rfl ?_)
       go_roundw
       case rel => exact ⟨k + 1, _, _, by omega, by go_num, rfl, jJ (h1.ok.gw k) bw hcr, by rw [CL]; exact Hll.out, hok.set _ _ (eX _ _ _), hrow.da _ _, hbl.setCell (by exact DJ hm1.at_.symm) _, by
        rw [aG as_, aG bs, Hz.out]; exact ri (x := gw as_ k) (y := 0) (by have := Hll.out; omega) Heq.out⟩
       case measure => simp [intOf]; omega
   . have ek : k = aw as_ := by omega
     subst ek;have hcell := hrow.word (i := aw as_) (by have := Hll.out; omega);have hfree := hrow.free (aw as_);have hrow2 := hrow.da (aw as_) cr;have hbl2 := hbl.setCell (p := ⟨b, aw as_, none⟩) (by exact DJ hm1.at_.symm) (.int .u64 (cr : Int));have hl2 : (ls.set (aw as_) cr).length = aw as_ + 1 := by rw [CL]; exact Hll.out
     have hok2 := hok.set (aw as_) cr (by have := gG; omega);have hv : ae (ls.set (aw as_) cr) = ae xs + ae ys := by
      have e1 := dJ (l := ls) (k := aw as_) (by have := Hll.out; omega) cr;rw [CJ (by rw [hl2]; exact Ct _)] at e1;have e2 : ae (bs.take (aw as_)) = ae bs := gV hle;rw [e1, Heq.out, bH h1.ok, e2, hsum.out]
     have Hfin := H5 (lQ hrow2 hok2 (B := w.heap.size) (DJ hm1.at_.symm) hl2 Cp hv);have Hs1 := H5 (hrow2.mJ hok2);have Hl2 := H5 hl2;have hmx : aw as_ + 1 <= maxLen := by unfold maxLen; omega
     have Hmx := H5 hmx;clear hmx hl2 hv hok2 hrow2;have l3 := aK (ls.set (aw as_) cr);rw [Hl2.out] at l3;go_wp2_with (go_at_call 81; (with_reducible refine (dN _ _ _ (ls.set (aw as_) cr) _ Hs1.out Hl2.out.symm Hmx.out).mono ?_); rintro e w' ⟨rfl, rfl⟩)
     go_ret;obtain ⟨q1, q2⟩ := Hfin.out;refine ⟨⟨_, _, ?_, q2⟩, hbl2⟩;rw [<- q1]; rfl
theorem AY (aoA aoB : Option Addr) (lA cA lB cB : Nat) (xs ys : List Nat) (w : World) (hA : cX w aoA xs) (hB : cX w aoB ys) (hlA : lA = xs.length) (hlB : lB = ys.length) (hmA : lA <= 17592186044416) (hmB : lB <= 17592186044416)
 (hle : ae ys <= ae xs) :
 Calls Tryz.prog 87 #[.slice aoA lA cA, .slice aoB lB cB] w fun e w' =>
  (∃ ao' cap', e = .returned (.tuple #[.slice ao' (ag (ae xs - ae ys)) cap', .int .i64 0]) /\ db w' w.heap.size ao' (ag (ae xs - ae ys)) cap' (fM (ae xs - ae ys))) /\ Below w.heap.size w w' := by
 subst hlA hlB;have htA := aK xs;have htB := aK ys;have htl : aw ys <= aw xs := by rw [<- bS hA.ok, <- bS hB.ok]; exact aJ hle
 have hmA' : xs.length <= maxLen := by unfold maxLen; omega
 have hmB' : ys.length <= maxLen := by unfold maxLen; omega
 have HA := H5 hmA'; clear hmA';have HB := H5 hmB'; clear hmB';have hcn : decide (gN (ae xs) (ae ys) < 0) = false := by unfold gN; simp; split <;> (try split) <;> omega
 have Hle := H5 hle; clear hle;go_enter Tryz.func87, Tryz.ntmps87;go_wp2_with (first
  | (go_at_call 49; refine (uS aoA aoB _ _ _ _ xs ys _ hA hB rfl rfl hmA hmB).mono ?_; rintro e w0 ⟨rfl, hb0⟩; have hA0 := hA.below hb0; have hB0 := hB.below hb0)
  | (go_at_call 81; first | ((with_reducible refine (dN aoA _ _ xs _ hA0 rfl HA.out).mono ?_); rintro e w' ⟨rfl, rfl⟩) | ((with_reducible refine (dN aoB _ _ ys _ hB0 rfl HB.out).mono ?_); rintro e w' ⟨rfl, rfl⟩))
  | (at_make; refine ez rfl _ _ rfl (aw xs) (aw xs) rfl rfl rfl rfl (Ct _) Cp ?_; intro b w1 hm1))
 have hb1 : Below w.heap.size w w1 := hb0.trans (hm1.below.mono hb0.size);have hB1 : w.heap.size <= b := by have := hm1.at_; have := hb0.size; omega
 go_loopw [9, 23] (fun c i wr => ∃ (k cr : Nat) (ls : List Nat), k <= aw xs /\ i = .int .i64 k /\ c = .int .u64 cr /\ cr <= 1 /\ ls.length = aw xs /\ Ok ls /\ aa wr b 60 (ls.map wv) /\ Below w.heap.size w wr /\
  ae (ls.take k) + ae (ys.take k) = ae (xs.take k) + W ^ k * cr) (fun _ i _ => aw xs - (intOf i).toNat)
 case atStart => exact ⟨0, 0, _, Cx _, rfl, rfl, by omega, by simp, Ok.replicate _, hm1.row, hb1, by simp [ae]⟩
 case round =>
  obtain ⟨k, cr, ls, hk, rfl, rfl, hcr, hll, hok, hrow, hbl, heq⟩ := hrel;have Hll := H5 hll; clear hll;have Heq := H5 heq; clear heq;by_cases hlt : k < aw xs
  . obtain ⟨b1, o1, rfl, hb1, hc1⟩ := (hA.below hbl).pos Cp;have e1 := hc1 k Cp;clear hc1;have hcell := hrow.word (i := k) (by have := Hll.out; omega);have hfree := hrow.free k;by_cases hlt2 : k < aw ys
    . obtain ⟨b2, o2, rfl, hb2, hc2⟩ := (hB.below hbl).pos Cp;have e2 := hc2 k Cp;clear hc2;go_wp2_with (with_reducible show wpList _ _ _ (⟨some 42, _, _, _, _, _⟩ :: _) _ _; refine iC rfl _ _ _ _ rfl (gw xs k) (gw ys k) cr hcr rfl rfl rfl rfl rfl rfl ?_)
      go_roundw
      case rel => exact ⟨k + 1, _, _, by omega, by go_num, rfl, mh _ _ _, by rw [CL]; exact Hll.out, hok.set _ _ (iw _ _ _), hrow.da _ _, hbl.setCell hB1 _, by
       rw [aG xs, aG ys]; exact ru (by have := Hll.out; omega) Heq.out (hA.ok.gw k) (hB.ok.gw k) hcr⟩
      case measure => simp [intOf]; omega
    . have hz : gw ys k = 0 := ja Cp;have Hz := H5 hz; clear hz;go_wp2_with (with_reducible show wpList _ _ _ (⟨some 42, _, _, _, _, _⟩ :: _) _ _; refine iC rfl _ _ _ _ rfl (gw xs k) 0 cr hcr rfl rfl rfl rfl rfl rfl ?_)
      go_roundw
      case rel => exact ⟨k + 1, _, _, by omega, by go_num, rfl, mh _ _ _, by rw [CL]; exact Hll.out, hok.set _ _ (iw _ _ _), hrow.da _ _, hbl.setCell hB1 _, by
       rw [aG xs, aG ys, Hz.out]; exact ru (x := gw xs k) (y := 0) (by have := Hll.out; omega) Heq.out (hA.ok.gw k) bw hcr⟩
      case measure => simp [intOf]; omega
  . have ek : k = aw xs := by omega
    subst ek;have hv : ae ls = ae xs - ae ys := by
     have e1 := Heq.out;rw [CJ (by have := Hll.out; omega), bH hA.ok, gV htl] at e1;have e2 : cr = 0 := by
      refine Df fun hne => ?_;have e3 : cr = 1 := by omega
      subst e3;have := dt hok;rw [Hll.out] at this;have := Hle.out;omega
     subst e2;omega
    have Hfin := H5 (lQ hrow hok (B := w.heap.size) hB1 Hll.out Cp hv);have Hs1 := H5 (hrow.mJ hok);have hmx : aw xs <= maxLen := by unfold maxLen; omega
    have Hmx := H5 hmx;clear hmx hv;have l3 := aK ls;rw [Hll.out] at l3;go_wp2_with (go_at_call 81; (with_reducible refine (dN _ _ _ ls _ Hs1.out Hll.out.symm Hmx.out).mono ?_); rintro e w' ⟨rfl, rfl⟩)
    go_ret2;obtain ⟨q1, q2⟩ := Hfin.out;refine ⟨⟨_, _, ?_, q2⟩, hbl⟩;rw [<- q1]; rfl
theorem oa {x : Nat} (h0 : x ≠ 0) (h : x < W) : 1 <= Lib.bitLen x /\ Lib.bitLen x <= 64 := by
 have h1 := Lib.bitLenAux_bounds 64 x (by unfold W at h; omega) h0;refine ⟨h1.1, ?_⟩;refine Df fun hn => ?_;have h2 : 2 ^ 64 <= 2 ^ (Lib.bitLenAux 64 x - 1) := CU Cp (by unfold Lib.bitLen at hn; omega);unfold W at h;omega
theorem xQ (ao : Option Addr) (len cap : Nat) (ws : List Nat) (w : World) (hA : cX w ao ws) (hl : len = ws.length) (hm : len <= 17592186044416) :
 Calls Tryz.prog 48 #[.slice ao len cap] w fun e w' => (∃ n : Nat, e = .returned (.int .i64 (n : Int)) /\ (n = 0 ↔ ae ws = 0)) /\ w = w' := by
 subst hl;have htA := aK ws;have hmA' : ws.length <= maxLen := by unfold maxLen; omega
 have HA := H5 hmA'; clear hmA';by_cases h0 : aw ws = 0
 . have hb : (((aw ws : Nat) : Int) == 0) = true := by rw [h0]; rfl
   have H0 := H5 h0; clear h0;go_enter Tryz.func48, Tryz.ntmps48;go_wp2_with (go_at_call 81; refine (dN _ _ _ ws _ hA rfl HA.out).mono ?_; rintro e w' ⟨rfl, rfl⟩)
   go_ret;exact ⟨⟨0, rfl, by simp [(gd hA.ok).1 H0.out]⟩, rfl⟩
 . have hb : (((aw ws : Nat) : Int) == 0) = false := by rw [beq_eq_false_iff_ne]; omega
   obtain ⟨b1, o1, rfl, hb1, hc1⟩ := hA.pos Cp;have e1 := hc1 (aw ws - 1) Cp;have hne : gw ws (aw ws - 1) ≠ 0 := sj ws h0;have hw := hA.ok.gw (aw ws - 1);have hbl := oa hne hw;have hx : ((gw ws (aw ws - 1) : Nat) : Int) <= 18446744073709551615 := by unfold W at hw; omega
   have Hx := H5 hx;have H0 := H5 h0;have i1 : 1 <= aw ws := by omega
   clear hc1 hne hw hx h0;go_enter Tryz.func48, Tryz.ntmps48;go_wp2_with (first
    | (go_at_call 81; refine (dN _ _ _ ws _ hA rfl HA.out).mono ?_; rintro e w' ⟨rfl, rfl⟩)
    | (go_at_call 82; refine (Tryz.bits_Len64 _ _ Cp Hx.out).mono ?_; rintro e w' ⟨rfl, rfl⟩; simp only [Ex]))
   go_ret;refine ⟨⟨64 * (aw ws - 1) + Lib.bitLen (gw ws (aw ws - 1)), gT Cp, ?_⟩, rfl⟩;rw [<- gd hA.ok];omega
theorem nB {y : Nat} (h0 : y ≠ 0) (h : y < W) : ∃ s : Nat, s < 64 /\ (64 - (Lib.bitLen y : Int)) = (s : Int) /\ 9223372036854775808 <= y * 2 ^ s /\ y * 2 ^ s < W := by
 have h1 := Lib.bitLenAux_bounds 64 y (by unfold W at h; omega) h0;have h2 := oa h0 h;refine ⟨64 - Lib.bitLen y, by omega, by omega, ?_, ?_⟩
 . have h3 : 2 ^ (Lib.bitLen y - 1) <= y := h1.2.1;have h4 : 2 ^ (Lib.bitLen y - 1) * 2 ^ (64 - Lib.bitLen y) <= y * 2 ^ (64 - Lib.bitLen y) := Cy _ h3;rw [<- DR] at h4;have h5 : Lib.bitLen y - 1 + (64 - Lib.bitLen y) = 63 := by omega
   rw [h5] at h4;exact h4
 . have h3 : y < 2 ^ Lib.bitLen y := h1.2.2;have h4 : y * 2 ^ (64 - Lib.bitLen y) < 2 ^ Lib.bitLen y * 2 ^ (64 - Lib.bitLen y) := EA h3 (Eb _);rw [<- DR] at h4;have h5 : Lib.bitLen y + (64 - Lib.bitLen y) = 64 := by omega
   rw [h5] at h4;exact h4
theorem vA (h l y : Nat) (w : World) (hh : h < y) (hl : l < W) (hy : y < W) :
 Calls Tryz.prog 123 #[.int .u64 (h : Int), .int .u64 (l : Int), .int .u64 (y : Int)] w fun e w' =>
  e = .returned (.tuple #[.int .u64 ((kA h l y : Nat) : Int), .int .u64 ((mG h l y : Nat) : Int)]) /\ ∃ m, w' = w.drewN m := by
 have y0 : (((y : Nat) : Int) == 0) = false := by rw [beq_eq_false_iff_ne]; omega
 have y1 : decide ((y : Int) <= (h : Int)) = false := by simp; omega
 by_cases h0 : h = 0
 . subst h0;have y2 : ¬ (y = 0) := by omega
   go_enter Tryz.func123, Tryz.ntmps123;go_wp2
   go_quiet (fail)
   go_wp2;go_ret2;have d1 : kA 0 l y = l / y := by unfold kA; rw [Fg, Db]
   have d2 : mG 0 l y = l % y := by unfold mG; rw [Fg, Db]
   rw [d1, d2];refine ⟨?_, _, rfl⟩;have hw : IntKind.u64.wrap ((l : Int) / (y : Int)) = ((l / y : Nat) : Int) := by
    rw [<- Int.natCast_ediv, IntKind.wrap_u64];have h1 := Ec l y;unfold W at hl;generalize l / y = z at *;omega
   show Ending.returned (.tuple #[.int .u64 (IntKind.u64.wrap ((l : Int) / (y : Int))), .int .u64 ((l : Int) % (y : Int))]) = _;rw [hw, Int.natCast_emod]
 . have h1 : (((h : Nat) : Int) == 0) = false := by rw [beq_eq_false_iff_ne]; omega
   obtain ⟨s, hs, hsl, hy1, hy2⟩ := nB (by omega : y ≠ 0) hy;have Hsl := H5 hsl; clear hsl;obtain ⟨p1, p2, p3, p4⟩ := wV hl hs hh hy2;have e1 : dS y s = y * 2 ^ s := Dk hy2;have H := H5 (Cv p1 (Cv p2 (Cv p3 (Cv p4 (Cv hy1 (Cv hy2 e1)))))); clear p1 p2 p3 p4 hy1 hy2 e1;have hyb : (y : Int) <= 18446744073709551615 := by unfold W at hy; omega
   have Hyb := H5 hyb; clear hyb;have hylt : dS y s < W := jw _;have hllt : dS l s < W := jw _;have hY := H5 (show dS y s = ik (dS y s) 32 * HB + oA (dS y s) 4294967295 by rw [jE, kT, CE]; exact (Ds _ _).symm);have hY0 : oA (dS y s) 4294967295 < HB := by rw [kT]; exact Dm _ (by unfold HB; omega)
   have hYb : 9223372036854775808 <= dS y s := by rw [H.out.2.2.2.2.2.2]; exact H.out.2.2.2.2.1
   have hY1 : 2147483648 <= ik (dS y s) 32 := by rw [jE]; unfold HB; omega
   have hY1u : ik (dS y s) 32 < 4294967296 := by rw [jE, Dj (by unfold HB; omega)]; exact hylt
   have hU1 : ik (dS l s) 32 < HB := by rw [jE, Dj (by unfold HB; omega), uQ]; exact hllt
   have hU0 : oA (dS l s) 4294967295 < HB := by rw [kT]; exact Dm _ (by unfold HB; omega)
   have hUY : vw (dS h s) (ik l (64 - s)) < dS y s := by rw [H.out.2.2.2.2.2.2]; exact H.out.2.1
   generalize hYg : dS y s = Y at *;generalize hVg : dS l s = V at *;generalize hY1g : ik Y 32 = Y1 at *;generalize hY0g : oA Y 4294967295 = Y0 at *;generalize hU1g : ik V 32 = U1 at *;generalize hU0g : oA V 4294967295 = U0 at *;generalize hUg : vw (dS h s) (ik l (64 - s)) = U at *;have G7 := H5 hUg; clear hUg;have G1 := H5 hYg; clear hYg;have G2 := H5 hVg; clear hVg;have G3 := H5 hY1g; clear hY1g;have G4 := H5 hY0g; clear hY0g;have G5 := H5 hU1g; clear hU1g;have G6 := H5 hU0g; clear hU0g;go_enter Tryz.func123, Tryz.ntmps123
   go_upto_block 0 with (first
    | (go_at_call 124; refine (Tryz.bits_LeadingZeros64 _ _ Cp Hyb.out).mono ?_; rintro e w' ⟨rfl, hw'⟩; obtain rfl := hw'.symm; simp only [Ex]; rw [Hsl.out])
    | (with_reducible show wpList _ _ _ (⟨some 39, _, _, _, _, _⟩ :: _) _ _; refine o5 rfl _ _ rfl y s Cp rfl rfl rfl rfl ?_; rw [G1.out])
    | (with_reducible show wpList _ _ _ (⟨some 41, _, _, _, _, _⟩ :: _) _ _; refine ng rfl _ _ rfl Y 32 hylt Cp rfl rfl rfl rfl ?_; rw [G3.out])
    | (with_reducible show wpList _ _ _ (⟨some 43, _, _, _, _, _⟩ :: _) _ _; refine y6 rfl _ _ rfl Y 4294967295 hylt (by unfold W; omega) rfl rfl rfl rfl ?_; rw [G4.out])
    | (with_reducible show wpList _ _ _ (⟨some 46, _, _, _, _, _⟩ :: _) _ _; refine o5 rfl _ _ rfl h s Cp rfl rfl rfl rfl ?_)
    | (with_reducible show wpList _ _ _ (⟨some 50, _, _, _, _, _⟩ :: _) _ _; refine ng rfl _ _ rfl l (64 - s) hl Cp rfl rfl rfl Cp ?_)
    | (with_reducible show wpList _ _ _ (⟨some 51, _, _, _, _, _⟩ :: _) _ _; refine rV rfl _ _ rfl (dS h s) (ik l (64 - s)) H.out.2.2.1 H.out.2.2.2.1 rfl rfl rfl rfl ?_; rw [G7.out])
    | (with_reducible show wpList _ _ _ (⟨some 54, _, _, _, _, _⟩ :: _) _ _; refine o5 rfl _ _ rfl l s Cp rfl rfl rfl rfl ?_; rw [G2.out])
    | (with_reducible show wpList _ _ _ (⟨some 56, _, _, _, _, _⟩ :: _) _ _; refine ng rfl _ _ rfl V 32 hllt Cp rfl rfl rfl rfl ?_; rw [G5.out])
    | (with_reducible show wpList _ _ _ (⟨some 58, _, _, _, _, _⟩ :: _) _ _; refine y6 rfl _ _ rfl V 4294967295 hllt (by unfold W; omega) rfl rfl rfl rfl ?_; rw [G6.out])
    | (with_reducible show wpList _ _ _ (⟨some 61, _, _, _, _, _⟩ :: _) _ _; refine y8 rfl _ _ rfl U Y1 Cp Cp rfl rfl rfl rfl ?_)
    | (with_reducible show wpList _ _ _ (⟨some 65, _, _, _, _, _⟩ :: _) _ _; refine kB rfl _ _ rfl (mH U Y1) Y1 rfl rfl rfl rfl ?_)
    | (with_reducible show wpList _ _ _ (⟨some 66, _, _, _, _, _⟩ :: _) _ _; refine tM rfl _ _ rfl U (aM (mH U Y1) Y1) (jI _ _) rfl rfl rfl rfl ?_))
   go_cut [15, 16] (fun q r wc => q = .int .u64 (((U * HB + U1) / Y : Nat) : Int) /\ (∃ rh : Nat, r = .int .u64 (rh : Int)) /\ w = wc)
   case first =>
    go_wp2
    go_loop [15, 16] (fun q r => ∃ q1 rh : Nat, q = .int .u64 (q1 : Int) /\ r = .int .u64 (rh : Int) /\ du U Y U1 Y1 Y0 q1 rh) (fun q _ => (intOf q).toNat)
    case atStart => exact ⟨_, _, rfl, rfl, du.start hY.out hY1 hUY hU1 hY0 hylt⟩
    case round =>
     obtain ⟨q1, rh, rfl, rfl, hi⟩ := hrel;have hrh := hi.rh;have htop := hi.top;have hqB := (ir hY.out hY1 hUY hU1 hY0).1;have Hq := H5 hqB; clear hqB;have HU1 := H5 hU1; have HY0 := H5 hY0; have HYb := H5 hYb; have Hyl := H5 hylt;have hYp : 0 < Y := by omega
     unfold HB at hrh htop hU1 hY0;clear hYb hylt hllt hy hl;by_cases hA : 4294967296 <= q1
     . have t1 : decide ((4294967296 : Int) <= (q1 : Int)) = true := by simp; omega
       have hgt := jP hY.out rfl hYp hi.eq (.inl (by unfold HB; exact hA)) Hq.out;have Hgt := H5 hgt;have hq1 : 1 <= q1 := CT (Cx _) hgt;clear hgt;by_cases hbr : 4294967296 <= rh + Y1
       . have t2 : decide ((4294967296 : Int) <= (rh : Int) + (Y1 : Int)) = true := by simp; omega
         go_wp2
         go_meet
         exact ⟨by rw [<- hi.stop hY.out hYp HY0.out Hgt.out (by unfold HB; exact hbr)]; go_num, ⟨_, rfl⟩, rfl⟩
       . have t2 : decide ((4294967296 : Int) <= (rh : Int) + (Y1 : Int)) = false := by simp; omega
         go_wp2
         go_round
         case rel => exact ⟨q1 - 1, rh + Y1, by go_num, by go_num, hi.next Hgt.out (by unfold HB; omega)⟩
         case measure => simp [intOf]; omega
     . have t1 : decide ((4294967296 : Int) <= (q1 : Int)) = false := by simp; omega
       have hmul : q1 * Y0 <= 4294967295 * 4294967295 := Da Cp Cp;have f1 : (q1 : Int) * (Y0 : Int) <= 18446744073709551615 := by rw [<- Dq]; omega
       have f0 : 0 <= (q1 : Int) * (Y0 : Int) := by rw [<- Dq]; omega
       clear hmul;by_cases hB : 4294967296 * rh + U1 < q1 * Y0
       . have t3 : decide ((4294967296 : Int) * (rh : Int) + (U1 : Int) < (q1 : Int) * (Y0 : Int)) = true := by rw [<- Dq]; simp; omega
         have hgt := jP hY.out rfl hYp hi.eq (.inr (by unfold HB; exact hB)) Hq.out;have Hgt := H5 hgt;have hq1 : 1 <= q1 := CT (Cx _) hgt;clear hgt hB;by_cases hbr : 4294967296 <= rh + Y1
         . have t2 : decide ((4294967296 : Int) <= (rh : Int) + (Y1 : Int)) = true := by simp; omega
           go_wp2
           go_meet
           exact ⟨by rw [<- hi.stop hY.out hYp HY0.out Hgt.out (by unfold HB; exact hbr)]; go_num, ⟨_, rfl⟩, rfl⟩
         . have t2 : decide ((4294967296 : Int) <= (rh : Int) + (Y1 : Int)) = false := by simp; omega
           go_wp2
           go_round
           case rel => exact ⟨q1 - 1, rh + Y1, by go_num, by go_num, hi.next Hgt.out (by unfold HB; omega)⟩
           case measure => simp [intOf]; omega
       . have t3 : decide ((4294967296 : Int) * (rh : Int) + (U1 : Int) < (q1 : Int) * (Y0 : Int)) = false := by rw [<- Dq]; simp; omega
         have hd := hi.done hY.out hYp (by unfold HB; omega);have Hd := H5 hd; clear hd hB;go_wp2
         go_meet
         exact ⟨by rw [Hd.out], ⟨_, rfl⟩, rfl⟩
   case rest =>
    obtain ⟨rfl, ⟨rh0, rfl⟩, rfl⟩ := hcut;have hYp : 0 < Y := by omega
    have hR := ph (u := U) (w := U1) rfl hYp hylt;have hRlt := Dm (U * HB + U1) hYp;have hQlt := (ir hY.out hY1 hUY hU1 hY0).1;generalize hQg : (U * HB + U1) / Y = Q at *;generalize hRg : (U * HB + U1) % Y = R at *;have HQ := H5 hQg; clear hQg;have HR := H5 hRg; clear hRg;rw [wY] at hR;have HRest := H5 hR; clear hR;have HQlt := H5 hQlt; clear hQlt;have Hslt := H5 hs;have hRW : R < W := by omega
    go_upto_block 2 with (first
     | (with_reducible show wpList _ _ _ (⟨some 87, _, _, _, _, _⟩ :: _) _ _; refine kB rfl _ _ rfl U 4294967296 rfl rfl rfl rfl ?_)
     | (with_reducible show wpList _ _ _ (⟨some 89, _, _, _, _, _⟩ :: _) _ _; refine qT rfl _ _ rfl (aM U 4294967296) U1 rfl rfl rfl rfl ?_)
     | (with_reducible show wpList _ _ _ (⟨some 92, _, _, _, _, _⟩ :: _) _ _; refine kB rfl _ _ rfl Q Y rfl rfl rfl rfl ?_)
     | (with_reducible show wpList _ _ _ (⟨some 93, _, _, _, _, _⟩ :: _) _ _; refine oP rfl _ _ rfl (bA (aM U 4294967296) U1 0) (aM Q Y) R (jI _ _) (by exact HRest.out) rfl rfl rfl rfl ?_)
     | (with_reducible show wpList _ _ _ (⟨some 96, _, _, _, _, _⟩ :: _) _ _; refine y8 rfl _ _ rfl R Y1 hRW Cp rfl rfl rfl rfl ?_)
     | (with_reducible show wpList _ _ _ (⟨some 100, _, _, _, _, _⟩ :: _) _ _; refine kB rfl _ _ rfl (mH R Y1) Y1 rfl rfl rfl rfl ?_)
     | (with_reducible show wpList _ _ _ (⟨some 101, _, _, _, _, _⟩ :: _) _ _; refine tM rfl _ _ rfl R (aM (mH R Y1) Y1) (jI _ _) rfl rfl rfl rfl ?_))
    go_cut [18, 16] (fun q r wc => q = .int .u64 (((R * HB + U0) / Y : Nat) : Int) /\ (∃ rh : Nat, r = .int .u64 (rh : Int)) /\ w = wc)
    case first =>
     go_wp2
     go_loop [18, 16] (fun q r => ∃ q1 rh : Nat, q = .int .u64 (q1 : Int) /\ r = .int .u64 (rh : Int) /\ du R Y U0 Y1 Y0 q1 rh) (fun q _ => (intOf q).toNat)
     case atStart => exact ⟨_, _, rfl, rfl, du.start hY.out hY1 hRlt hU0 hY0 hylt⟩
     case round =>
      obtain ⟨q1, rh, rfl, rfl, hi⟩ := hrel;have hrh := hi.rh;have htop := hi.top;have hqB := (ir hY.out hY1 hRlt hU0 hY0).1;have HqR := H5 hqB; clear hqB;have HU1 := H5 hU1; have HU0 := H5 hU0; have HY0 := H5 hY0; have HYb := H5 hYb; have Hyl := H5 hylt;unfold HB at hrh htop hU0 hY0;clear hU1 hYb hylt hllt hy hl hRW;by_cases hA : 4294967296 <= q1
      . have t1 : decide ((4294967296 : Int) <= (q1 : Int)) = true := by simp; omega
        have hgt := jP hY.out rfl hYp hi.eq (.inl (by unfold HB; exact hA)) HqR.out;have Hgt := H5 hgt;have hq1 : 1 <= q1 := CT (Cx _) hgt;clear hgt;by_cases hbr : 4294967296 <= rh + Y1
        . have t2 : decide ((4294967296 : Int) <= (rh : Int) + (Y1 : Int)) = true := by simp; omega
          go_wp2
          go_meet
          exact ⟨by rw [<- hi.stop hY.out hYp HY0.out Hgt.out (by unfold HB; exact hbr)]; go_num, ⟨_, rfl⟩, rfl⟩
        . have t2 : decide ((4294967296 : Int) <= (rh : Int) + (Y1 : Int)) = false := by simp; omega
          go_wp2
          go_round
          case rel => exact ⟨q1 - 1, rh + Y1, by go_num, by go_num, hi.next Hgt.out (by unfold HB; omega)⟩
          case measure => simp [intOf]; omega
      . have t1 : decide ((4294967296 : Int) <= (q1 : Int)) = false := by simp; omega
        have hmul : q1 * Y0 <= 4294967295 * 4294967295 := Da Cp Cp;have f1 : (q1 : Int) * (Y0 : Int) <= 18446744073709551615 := by rw [<- Dq]; omega
        have f0 : 0 <= (q1 : Int) * (Y0 : Int) := by rw [<- Dq]; omega
        clear hmul;by_cases hB : 4294967296 * rh + U0 < q1 * Y0
        . have t3 : decide ((4294967296 : Int) * (rh : Int) + (U0 : Int) < (q1 : Int) * (Y0 : Int)) = true := by rw [<- Dq]; simp; omega
          have hgt := jP hY.out rfl hYp hi.eq (.inr (by unfold HB; exact hB)) HqR.out;have Hgt := H5 hgt;have hq1 : 1 <= q1 := CT (Cx _) hgt;clear hgt hB;by_cases hbr : 4294967296 <= rh + Y1
          . have t2 : decide ((4294967296 : Int) <= (rh : Int) + (Y1 : Int)) = true := by simp; omega
            go_wp2
            go_meet
            exact ⟨by rw [<- hi.stop hY.out hYp HY0.out Hgt.out (by unfold HB; exact hbr)]; go_num, ⟨_, rfl⟩, rfl⟩
          . have t2 : decide ((4294967296 : Int) <= (rh : Int) + (Y1 : Int)) = false := by simp; omega
            go_wp2
            go_round
            case rel => exact ⟨q1 - 1, rh + Y1, by go_num, by go_num, hi.next Hgt.out (by unfold HB; omega)⟩
            case measure => simp [intOf]; omega
        . have t3 : decide ((4294967296 : Int) * (rh : Int) + (U0 : Int) < (q1 : Int) * (Y0 : Int)) = false := by rw [<- Dq]; simp; omega
          have hd := hi.done hY.out hYp (by unfold HB; omega);have Hd := H5 hd; clear hd hB;go_wp2
          go_meet
          exact ⟨by rw [Hd.out], ⟨_, rfl⟩, rfl⟩
    case rest =>
     obtain ⟨rfl, ⟨rh1, rfl⟩, rfl⟩ := hcut;have hQ0lt := (ir hY.out hY1 hRlt hU0 hY0).1;have hYe : Y = y * 2 ^ s := H.out.2.2.2.2.2.2;have e5 : V / HB = U1 := by rw [<- jE]; exact G5.out
     have e6 : V % HB = U0 := by rw [<- kT]; exact G6.out
     have hj := yC (h := h) (l := l) (s := s) (y := y) (u := U) (v := V) (q1 := Q) (q0 := (R * HB + U0) / Y) (r1 := R) H.out.1 Cp
      (by rw [e5, <- hYe]; exact HQ.out.symm) (by rw [e5, <- hYe]; exact HR.out.symm) (by rw [e6, <- hYe]) HQlt.out hQ0lt
     rw [e6, <- hYe] at hj;have HYe := H5 hYe; clear hYe e5 e6;have hR2 := ph (u := R) (w := U0) rfl hYp hylt;have hR2lt := Dm (R * HB + U0) hYp;generalize hQ0g : (R * HB + U0) / Y = Q0 at *;generalize hR0g : (R * HB + U0) % Y = R0 at *;have HQ0 := H5 hQ0g; clear hQ0g;have HR0 := H5 hR0g; clear hR0g;rw [wY] at hR2;have HR2 := H5 hR2; clear hR2;rw [wY] at hj;have Hj := H5 hj; clear hj;have hR0W : R0 < W := by omega
     clear hY0 hU0 hU1;go_wp2_with (first
      | (with_reducible show wpList _ _ _ (⟨some 122, _, _, _, _, _⟩ :: _) _ _; refine kB rfl _ _ rfl Q 4294967296 rfl rfl rfl rfl ?_)
      | (with_reducible show wpList _ _ _ (⟨some 124, _, _, _, _, _⟩ :: _) _ _; refine qT rfl _ _ rfl (aM Q 4294967296) Q0 rfl rfl rfl rfl ?_)
      | (with_reducible show wpList _ _ _ (⟨some 126, _, _, _, _, _⟩ :: _) _ _; refine kB rfl _ _ rfl R 4294967296 rfl rfl rfl rfl ?_)
      | (with_reducible show wpList _ _ _ (⟨some 128, _, _, _, _, _⟩ :: _) _ _; refine qT rfl _ _ rfl (aM R 4294967296) U0 rfl rfl rfl rfl ?_)
      | (with_reducible show wpList _ _ _ (⟨some 131, _, _, _, _, _⟩ :: _) _ _; refine kB rfl _ _ rfl Q0 Y rfl rfl rfl rfl ?_)
      | (with_reducible show wpList _ _ _ (⟨some 132, _, _, _, _, _⟩ :: _) _ _; refine oP rfl _ _ rfl (bA (aM R 4294967296) U0 0) (aM Q0 Y) R0 (jI _ _) (by exact HR2.out) rfl rfl rfl rfl ?_)
      | (with_reducible show wpList _ _ _ (⟨some 134, _, _, _, _, _⟩ :: _) _ _; refine ng rfl _ _ rfl R0 s hR0W Cp rfl rfl rfl rfl ?_))
     go_ret2;rw [<- Hj.out.1, <- Hj.out.2];exact ⟨rfl, 0, rfl⟩
theorem yW (h l y : Nat) (w : World) (hh : h < y) (hl : l < W) (hy : y < W) :
 Calls Tryz.prog 123 #[.int .u64 (h : Int), .int .u64 (l : Int), .int .u64 (y : Int)] w fun e w' =>
  e = .returned (.tuple #[.int .u64 ((kA h l y : Nat) : Int), .int .u64 ((mG h l y : Nat) : Int)]) /\ w.grownBy w' none :=
 (vA h l y w hh hl hy).mono fun _ _ ⟨a, m, b⟩ => ⟨a, by rw [b]; exact eI (World.grownBy.refl _ _) m⟩
theorem lJ (ao : Option Addr) (len cap : Nat) (ws : List Nat) (w : World) (hA : cX w ao ws) (hl : len = ws.length) (hm : len <= 35184372088832) (hcap : len <= cap) :
 Calls Tryz.prog 102 #[.slice ao len cap] w fun e w' => e = .returned (.slice ao (aw ws) (aw ws)) /\ w = w' := by
 subst hl;have htl := aK ws;go_enter Tryz.func102, Tryz.ntmps102;go_wp2
 go_loop [3] (fun i => ∃ k : Nat, k <= ws.length /\ aw ws <= k /\ i = .int .i64 k) (fun i => (intOf i).toNat)
 case atStart => exact ⟨ws.length, by omega, by omega, rfl⟩
 case round =>
  obtain ⟨k, hk, ht, rfl⟩ := hrel;by_cases h0 : 0 < k
  . obtain ⟨b, o, rfl, hb, hc⟩ := hA.pos Cp;have hcell := hc (k - 1) Cp;by_cases hz : gw ws (k - 1) = 0
    . have hzb : (((gw ws (k - 1) : Nat) : Int) == 0) = true := by rw [hz]; rfl
      have Hz := H5 hz; clear hz hc;go_wp2
      go_round
      case rel => exact ⟨k - 1, by omega, kh ws (k - 1) (fun j hj => by
       by_cases hj' : j = k - 1
       . rw [hj']; exact Hz.out
       . exact iN ws j Cp), by go_num⟩
      case measure => simp [intOf]; omega
    . have hzb : (((gw ws (k - 1) : Nat) : Int) == 0) = false := by rw [beq_eq_false_iff_ne]; omega
      have h1 := qB ws (k - 1) hz;have hk1 : k = aw ws := by omega
      subst hk1;clear hc hz;go_wp2;go_ret;exact ⟨rfl, rfl⟩
  . have hk1 : k = aw ws := by omega
    subst hk1;go_wp2;go_ret;exact ⟨rfl, rfl⟩
structure eP (w w' : World) (b : Nat) (cur cur' : List Nat) : Prop where
 row : aa w' b 60 (cur'.map wv)
 ok : Ok cur'
 len : cur'.length = cur.length
 grown : w.grownBy w' (some b)
theorem eP.set {w w' : World} {b : Nat} {cur cur' : List Nat} (h : eP w w' b cur cur') (i v : Nat) (hv : v < W) : eP w (w'.setCell ⟨b, i, none⟩ (.int .u64 (v : Int))) b cur (cur'.set i v) :=
 ⟨h.row.da i v, h.ok.set i v hv, by rw [CL]; exact h.len, oB h.grown i _⟩
theorem eP.drew {w w' : World} {b : Nat} {cur cur' : List Nat} (h : eP w w' b cur cur') : eP w w'.drew b cur cur' := ⟨h.row, h.ok, h.len, nJ h.grown⟩
theorem n8 (zo ao : Option Addr) (b o lz cz len cap : Nat) (ws cur : List Nat) (w : World) (hrow : aa w b 60 (cur.map wv)) (hok : Ok cur) (hz : lz = 0 \/ zo = some ⟨b, o, none⟩) (hfit : o + lz <= cur.length)
 (hA : cX w ao ws) (hne : kj ao ws b) (hl : len = ws.length) (hle : len <= lz) (hm : cur.length <= 35184372088832) :
 Calls Tryz.prog 104 #[.slice zo lz cz, .slice ao len cap] w fun e w' => e = .returned (.tuple #[]) /\ ∃ (cur' : List Nat) (cr : Nat), eP w w' b cur cur' /\ cr <= 1 /\
  (∀ j, j < o \/ o + lz <= j -> gw cur' j = gw cur j) /\ sv cur' o lz + W ^ lz * cr = sv cur o lz + ae ws := by
 subst hl;go_enter Tryz.func104, Tryz.ntmps104;go_wp2;go_loopw [4, 9] (fun c i wr => ∃ (k cr : Nat) (cu : List Nat), k <= ws.length /\ i = .int .i64 k /\ c = .int .u64 cr /\ cr <= 1 /\ eP w wr b cur cu /\ Hid (∀ j, j < o \/ o + k <= j -> gw cu j = gw cur j) /\
  Hid (sv cu o k + W ^ k * cr = sv cur o k + ae (ws.take k))) (fun _ i _ => ws.length - (intOf i).toNat)
 case atStart => exact ⟨0, 0, cur, Cx _, rfl, rfl, by omega, ⟨hrow, hok, rfl, World.grownBy.refl _ _⟩, H5 (fun _ _ => rfl), H5 (by simp [j1, ae])⟩
 case round =>
  obtain ⟨k, cr, cu, hk, rfl, rfl, hcr, hR, Hs, He⟩ := hrel;by_cases hlt : k < ws.length
  . obtain ⟨b1, o1, rfl, hb1, hc1⟩ := (hA.grown hR.grown hne).pos Cp;have e1 := hc1 k hlt;clear hc1;obtain rfl : zo = some ⟨b, o, none⟩ := by
     rcases hz with h | h
     . omega
     . exact h
    have hlen := hR.len;have hcell := hR.row.word (i := o + k) Cp;have hfree := hR.row.free (o + k);have Hlen := H5 hlen; clear hlen;have hadd := qC (gw cu (o + k)) (gw ws k) cr hcr;have i1 : (k : Int) < (lz : Int) := by omega
    have i2 : (k : Int) < (ws.length : Int) := by omega
    go_wp2
    go_region
    go_wp2;go_roundw
    case rel =>
     exact ⟨k + 1, _, _, by omega, by go_num, rfl, jJ (hR.ok.gw _) (hA.ok.gw k) hcr, (hR.set (o + k) _ (eX _ _ _)).drew,
      H5 (fun j hj => by rw [bK Cp]; exact Hs.out j Cp),
      H5 (j6 (ws := ws) (by have := Hlen.out; omega) He.out (Hs.out _ Cp) (aG ws k))⟩
    case measure => simp [intOf]; omega
  . have hk1 : k = ws.length := by omega
    subst hk1;go_wp2;go_loopw [4, 6] (fun c i wr => ∃ (k cr : Nat) (cu : List Nat), ws.length <= k /\ k <= lz /\ i = .int .i64 k /\ c = .int .u64 cr /\ cr <= 1 /\ eP w wr b cur cu /\ Hid (∀ j, j < o \/ o + k <= j -> gw cu j = gw cur j) /\
     Hid (sv cu o k + W ^ k * cr = sv cur o k + ae ws)) (fun _ i _ => lz - (intOf i).toNat)
    case atStart => exact ⟨ws.length, cr, cu, Ct _, hle, rfl, rfl, hcr, hR, Hs, H5 (by have := He.out; rwa [CJ (Ct _)] at this)⟩
    case round =>
     clear hR Hs He hcr;obtain ⟨k, cr, cu, hk0, hk, rfl, rfl, hcr, hR, Hs, He⟩ := hrel;by_cases hc0 : cr = 0
     . subst hc0;go_wp2
       go_end0
       exact ⟨rfl, cu, 0, hR, by omega, fun j hj => Hs.out j Cp, by
        have := oU (n := lz) hk (X := 0) (by have := He.out; omega) (fun j hj => Hs.out j Cp); omega⟩
     . have t1 : (((cr : Nat) : Int) != 0) = true := by rw [bne_iff_ne]; omega
       have Hc0 := H5 hc0; clear hc0;by_cases hlt2 : k < lz
       . obtain rfl : zo = some ⟨b, o, none⟩ := by
          rcases hz with h | h
          . omega
          . exact h
         have hlen := hR.len;have hcell := hR.row.word (i := o + k) Cp;have hfree := hR.row.free (o + k);have Hlen := H5 hlen; clear hlen;have i1 : (k : Int) < (lz : Int) := by omega
         go_wp2_with (with_reducible show wpList _ _ _ (⟨some 49, _, _, _, _, _⟩ :: _) _ _; refine cI rfl _ _ _ _ rfl (gw cu (o + k)) 0 cr hcr rfl rfl rfl rfl rfl rfl ?_)
         go_roundw
         case rel =>
          exact ⟨k + 1, _, _, by omega, by omega, by go_num, rfl, jJ (hR.ok.gw _) bw hcr, hR.set (o + k) _ (eX _ _ _),
           H5 (fun j hj => by rw [bK Cp]; exact Hs.out j Cp),
           H5 (j6 (ws := ws) (by have := Hlen.out; omega) He.out (Hs.out _ Cp) Cp)⟩
         case measure => simp [intOf]; omega
       . have hk1 : k = lz := by omega
         subst hk1;go_wp2
         go_end0
         exact ⟨rfl, cu, cr, hR, hcr, fun j hj => Hs.out j Cp, He.out⟩
theorem pV (zo ao : Option Addr) (b o lz cz len cap : Nat) (ws cur : List Nat) (w : World) (hrow : aa w b 60 (cur.map wv)) (hok : Ok cur) (hz : lz = 0 \/ zo = some ⟨b, o, none⟩) (hfit : o + lz <= cur.length)
 (hA : cX w ao ws) (hne : kj ao ws b) (hl : len = ws.length) (hle : len <= lz) (hm : cur.length <= 35184372088832) (hge : ae ws <= sv cur o lz) :
 Calls Tryz.prog 122 #[.slice zo lz cz, .slice ao len cap] w fun e w' => e = .returned (.tuple #[]) /\ ∃ (cur' : List Nat), eP w w' b cur cur' /\
  (∀ j, j < o \/ o + lz <= j -> gw cur' j = gw cur j) /\ sv cur' o lz + ae ws = sv cur o lz := by
 subst hl;have Hge := H5 hge; clear hge;go_enter Tryz.func122, Tryz.ntmps122;go_wp2;go_loopw [4, 9] (fun c i wr => ∃ (k cr : Nat) (cu : List Nat), k <= lz /\ i = .int .i64 k /\ c = .int .u64 cr /\ cr <= 1 /\ eP w wr b cur cu /\ Hid (∀ j, j < o \/ o + k <= j -> gw cu j = gw cur j) /\
  Hid (sv cu o k + ae (ws.take k) = sv cur o k + W ^ k * cr)) (fun _ i _ => lz - (intOf i).toNat)
 case atStart => exact ⟨0, 0, cur, Cx _, rfl, rfl, by omega, ⟨hrow, hok, rfl, World.grownBy.refl _ _⟩, H5 (fun _ _ => rfl), H5 (by simp [j1, ae])⟩
 case round =>
  obtain ⟨k, cr, cu, hk, rfl, rfl, hcr, hR, Hs, He⟩ := hrel;by_cases hlt : k < lz
  . obtain rfl : zo = some ⟨b, o, none⟩ := by
     rcases hz with h | h
     . omega
     . exact h
    have hlen := hR.len;have hcell := hR.row.word (i := o + k) Cp;have hfree := hR.row.free (o + k);have Hlen := H5 hlen; clear hlen;by_cases hlt2 : k < ws.length
    . obtain ⟨b1, o1, rfl, hb1, hc1⟩ := (hA.grown hR.grown hne).pos Cp;have e1 := hc1 k hlt2;clear hc1;go_wp2_with (with_reducible show wpList _ _ _ (⟨some 31, _, _, _, _, _⟩ :: _) _ _; refine iC rfl _ _ _ _ rfl (gw cu (o + k)) (gw ws k) cr hcr rfl rfl rfl rfl rfl rfl ?_)
      go_roundw
      case rel =>
       exact ⟨k + 1, _, _, by omega, by go_num, rfl, mh _ _ _, hR.set (o + k) _ (iw _ _ _),
        H5 (fun j hj => by rw [bK Cp]; exact Hs.out j Cp),
        H5 (lh (by have := Hlen.out; omega) He.out (Hs.out _ Cp) (aG ws k) (hR.ok.gw _) (hA.ok.gw k) hcr)⟩
      case measure => simp [intOf]; omega
    . by_cases hc0 : cr = 0
      . subst hc0;go_wp2;refine bodyPost_ret (results_none rfl _ _ _) rfl ?_;exact ⟨rfl, cu, hR, fun j hj => Hs.out j Cp, by
         have := oU (n := lz) (Dg hlt) (X := ae ws) (Y := 0) (by have := He.out; rw [CJ Cp] at this; omega) (fun j hj => Hs.out j Cp); omega⟩
      . have t1 : (((cr : Nat) : Int) == 0) = false := by rw [beq_eq_false_iff_ne]; omega
        have Hc0 := H5 hc0; clear hc0;go_wp2_with (with_reducible show wpList _ _ _ (⟨some 31, _, _, _, _, _⟩ :: _) _ _; refine iC rfl _ _ _ _ rfl (gw cu (o + k)) 0 cr hcr rfl rfl rfl rfl rfl rfl ?_)
        go_roundw
        case rel =>
         exact ⟨k + 1, _, _, by omega, by go_num, rfl, mh _ _ _, hR.set (o + k) _ (iw _ _ _),
          H5 (fun j hj => by rw [bK Cp]; exact Hs.out j Cp),
          H5 (lh (by have := Hlen.out; omega) He.out (Hs.out _ Cp) (by rw [CJ Cp, CJ Cp]; omega) (hR.ok.gw _) bw hcr)⟩
        case measure => simp [intOf]; omega
  . have hk1 : k = lz := by omega
    subst hk1;go_wp2
    go_end0
    refine ⟨rfl, cu, hR, fun j hj => Hs.out j Cp, ?_⟩;have e1 := He.out;rw [CJ hle] at e1;have e2 := n9 hR.ok o k;have e3 := Hge.out;have e4 : cr = 0 := by
     refine Df fun hn => ?_;have : cr = 1 := by omega
     subst this;omega
    subst e4;omega
theorem eP.below {w0 w w' : World} {B b : Nat} {cur cur' : List Nat} (h : eP w w' b cur cur') (hb : Below B w0 w) (hB : B <= b) (hs : B <= w.heap.size) : Below B w0 w' :=
 hb.grown h.grown hs (fun k e => by cases e; exact hB)
theorem An {xs ys cur' cu : List Nat} {n cr : Nat} (hl : cur'.length = n + 1) (hcur : cu.length = n + 1) (hx : xs.length <= n) (hy : ys.length <= n) (okx : Ok xs) (oky : Ok ys) (okc : Ok cur') (hv : ae cu = ae xs)
 (he : sv cur' 0 (n + 1) + W ^ (n + 1) * cr = sv cu 0 (n + 1) + ae ys) (hcr : cr <= 1) : ae cur' = ae xs + ae ys := by
 have s1 : sv cu 0 (n + 1) = ae xs := by rw [<- hcur, fw, hv]
 have s2 : sv cur' 0 (n + 1) = ae cur' := by rw [<- hl, fw]
 rw [s1, s2] at he;have e2 := dt okx;have e3 := dt oky;have e4 : W ^ xs.length <= W ^ n := CU bw hx;have e5 : W ^ ys.length <= W ^ n := CU bw hy;have e7 : W ^ n * 2 <= W ^ (n + 1) := by rw [Dd]; exact CD _ gG
 have h0 : cr = 0 := by
  refine Df fun hn => ?_;have h1 : cr = 1 := by omega
  rw [h1, Ee] at he;omega
 rw [h0, Fh] at he;omega
theorem B0 (aoA aoB : Option Addr) (lA cA lB cB : Nat) (xs ys : List Nat) (w : World) (hA : cX w aoA xs) (hB : cX w aoB ys) (hlA : lA = xs.length) (hlB : lB = ys.length) (hmA : lA <= 17592186044416) (hmB : lB <= 17592186044416) :
 Calls Tryz.prog 121 #[.slice aoA lA cA, .slice aoB lB cB] w fun e w' => ∃ b zs, e = .returned (.slice (some ⟨b, 0, none⟩) (max lA lB + 1) (max lA lB + 1)) /\ tW w w' b zs /\ zs.length = max lA lB + 1 /\ ae zs = ae xs + ae ys := by
 subst hlA hlB;go_enter Tryz.func121, Tryz.ntmps121;go_wp2_with (first
  | (at_make; refine ez rfl _ _ rfl (max xs.length ys.length + 1) (max xs.length ys.length + 1) rfl rfl Cp Cp (Ct _) Cp ?_; intro b w1 hm1)
  | (with_reducible show wpList _ _ _ (⟨some 15, _, _, _, _, _⟩ :: _) _ _; refine oj rfl _ _ rfl (hA.below hm1.below) rfl hm1.row rfl rfl Cq ?_; intro w2 hr2 hg2; have hb2 := hm1.below.grown hg2 hm1.below.size (fun k e => by cases e; exact DJ hm1.at_.symm)))
 have hge : w.heap.size <= b := DJ hm1.at_.symm;have hcur : (splice (List.replicate (max xs.length ys.length + 1) 0) 0 (xs.take (max xs.length ys.length + 1))).length = max xs.length ys.length + 1 := by
  rw [length_splice _ _ _ (by simp [CZ]; omega)]; simp
 have hv : ae (splice (List.replicate (max xs.length ys.length + 1) 0) 0 (xs.take (max xs.length ys.length + 1))) = ae xs := by
  have : xs.take (max xs.length ys.length + 1) = xs := CJ Cp;rw [this];simp only [splice, List.take_zero, Dt, Db, List.drop_replicate];exact gS _ _
 have hok2 : Ok (splice (List.replicate (max xs.length ys.length + 1) 0) 0 (xs.take (max xs.length ys.length + 1))) := by
  unfold splice;exact (Ok.replicate _).take _ |>.append ((hA.ok.take _).append ((Ok.replicate _).drop _))
 obtain ⟨cu, hcu⟩ : ∃ cu, cu = splice (List.replicate (max xs.length ys.length + 1) 0) 0 (xs.take (max xs.length ys.length + 1)) := ⟨_, rfl⟩;rw [<- hcu] at hcur hv hok2 hr2;clear hcu;refine (n8 _ aoB b 0 _ _ _ cB ys _ _ hr2 hok2 (.inr rfl) (by rw [hcur]; omega) (hB.below hb2) (hB.apart hge) rfl Cp (by rw [hcur]; omega)).mono ?_;rintro e w3 ⟨rfl, cur', cr, hR, hcr, hs, he⟩;go_wp2;go_ret;have hl : cur'.length = max xs.length ys.length + 1 := by rw [hR.len, hcur]
 refine ⟨b, cur', rfl, ⟨hR.row, hR.ok, hge, hR.below hb2 hge hb2.size⟩, hl, ?_⟩;exact An hl hcur Cp Cp hA.ok hB.ok hR.ok hv he hcr
theorem dQ (x y : Nat) (hx : x < W) (hy : y < W) (w : World) :
 Calls Tryz.prog 120 #[.int .u64 (x : Int), .int .u64 (y : Int)] w fun e w' => e = .returned (.tuple #[.int .u64 ((bI x y : Nat) : Int), .int .u64 ((aM x y : Nat) : Int)]) /\ w = w' :=
 (Tryz.bits_Mul64 x y hx hy w).mono fun _ _ h => ⟨h.1, h.2.symm⟩
theorem BQ (aoA aoB : Option Addr) (b lz cz lA cA lB cB : Nat) (xs ys : List Nat) (w : World) (hrow : aa w b 60 ((List.replicate (lA + lB) 0).map wv)) (hA : cX w aoA xs) (hB : cX w aoB ys)
 (hlA : lA = xs.length) (hlB : lB = ys.length) (hm : lA + lB <= 35184372088832) (hlz : lz = lA + lB)
 (hneA : kj aoA xs b) (hneB : kj aoB ys b) :
 Calls Tryz.prog 103 #[.slice (some ⟨b, 0, none⟩) lz cz, .slice aoA lA cA, .slice aoB lB cB] w fun e w' => e = .returned (.tuple #[]) /\ ∃ cur', eP w w' b (List.replicate (lA + lB) 0) cur' /\ ae cur' = ae xs * ae ys := by
 subst hlA hlB hlz;go_enter Tryz.func103, Tryz.ntmps103;go_wp2;go_loopw [16] (fun i wr => ∃ (k : Nat) (cu : List Nat), k <= xs.length /\ i = .int .i64 k /\ eP w wr b (List.replicate (xs.length + ys.length) 0) cu /\ Hid (∀ j, k + ys.length <= j -> gw cu j = 0) /\ Hid (ae cu = ae (xs.take k) * ae ys)) (fun i _ => xs.length - (intOf i).toNat)
 case atStart => exact ⟨0, _, Cx _, rfl, ⟨hrow, Ok.replicate _, rfl, World.grownBy.refl _ _⟩, H5 (fun j _ => by simp [gw, List.getD_eq_getElem?_getD, List.getElem?_replicate]; split <;> rfl), H5 (by rw [gy]; simp [ae])⟩
 case round =>
  obtain ⟨k, cu, hk, rfl, hR, Hz, He⟩ := hrel;by_cases hlt : k < xs.length
  . obtain ⟨b1, o1, rfl, hb1, hc1⟩ := (hA.grown hR.grown hneA).pos Cp;have e1 := hc1 k hlt;clear hc1;by_cases hx0 : gw xs k = 0
    . have t1 : (((gw xs k : Nat) : Int) == 0) = true := by rw [hx0]; rfl
      have Hx0 := H5 hx0; clear hx0;go_wp2;go_roundw
      case rel => exact ⟨k + 1, cu, by omega, by go_num, hR, H5 (fun j hj => Hz.out j Cp), H5 (by rw [aG, Hx0.out, Fh, Ea]; exact He.out)⟩
      case measure => simp [intOf]; omega
    . have t1 : (((gw xs k : Nat) : Int) == 0) = false := by rw [beq_eq_false_iff_ne]; omega
      have Hx0 := H5 hx0; clear hx0;obtain ⟨wo, rfl⟩ : ∃ wo : World, wo = wr := ⟨_, rfl⟩;go_wp2;go_loopw [8, 25] (fun c i wr => ∃ (j cr : Nat) (cv : List Nat), j <= ys.length /\ i = .int .i64 j /\ c = .int .u64 cr /\ Hid (cr < W) /\ eP w wr b (List.replicate (xs.length + ys.length) 0) cv /\ Hid (∀ j, k + ys.length <= j -> gw cv j = 0) /\
       Hid (ae cv + W ^ (k + j) * cr = ae cu + W ^ k * (gw xs k * ae (ys.take j)))) (fun _ i _ => ys.length - (intOf i).toNat)
      case atStart => exact ⟨0, 0, cu, Cx _, rfl, rfl, H5 bw, hR, Hz, H5 (by simp [ae])⟩
      case round =>
       obtain ⟨j, cr, cv, hj, rfl, rfl, Hcr, hV, Hvz, Hve⟩ := hrel;by_cases hlt2 : j < ys.length
       . obtain ⟨b2, o2, rfl, hb2, hc2⟩ := (hB.grown hV.grown hneB).pos Cp;have e2 := hc2 j hlt2;clear hc2;have hlen := hV.len;rw [Fa] at hlen;have hcell := hV.row.word (i := k + j) Cp;have hfree := hV.row.free (k + j);have hbd := kx (hV.ok.gw (k + j)) (hA.ok.gw k) (hB.ok.gw j) Hcr.out;have Hlen := H5 hlen; clear hlen;have Hbd := H5 hbd; clear hbd;have q1 : ((bI (gw xs k) (gw ys j) : Nat) : Int) + ((aY (aM (gw xs k) (gw ys j)) cr 0 : Nat) : Int) <= 18446744073709551615 := by have := Hbd.out.1; unfold W at this; omega
         have q2 : ((bI (gw xs k) (gw ys j) : Nat) : Int) + ((aY (aM (gw xs k) (gw ys j)) cr 0 : Nat) : Int) + ((aY (gw cv (k + j)) (bA (aM (gw xs k) (gw ys j)) cr 0) 0 : Nat) : Int) <= 18446744073709551615 := by have := Hbd.out.2.1; unfold W at this; omega
         go_wp2_with (first
          | (go_at_call 120; refine (dQ _ _ (hA.ok.gw k) (hB.ok.gw j) _).mono ?_; rintro e w' ⟨rfl, rfl⟩)
          | (with_reducible show wpList _ _ _ (⟨some 39, _, _, _, _, _⟩ :: _) _ _; refine cI rfl _ _ _ _ rfl (aM (gw xs k) (gw ys j)) cr 0 Cp rfl rfl rfl rfl rfl rfl ?_)
          | (with_reducible show wpList _ _ _ (⟨some 57, _, _, _, _, _⟩ :: _) _ _; refine cI rfl _ _ _ _ rfl (gw cv (k + j)) (bA (aM (gw xs k) (gw ys j)) cr 0) 0 Cp rfl rfl rfl rfl rfl rfl ?_))
         go_roundw
         case rel =>
          exact ⟨j + 1, _, _, by omega, by go_num, rfl, H5 Hbd.out.2.1, hV.set (k + j) _ (eX _ _ _), H5 (fun i hi => by rw [bK Cp]; exact Hvz.out i hi),
           H5 (wk (by have := Hlen.out; omega) Hve.out (hV.ok.gw _) (hA.ok.gw k) (hB.ok.gw j) Hcr.out)⟩
         case measure => simp [intOf]; omega
       . have hj1 : j = ys.length := by omega
         subst hj1;have hlen := hV.len;rw [Fa] at hlen;have hcell := hV.row.word (i := k + ys.length) Cp;have hfree := hV.row.free (k + ys.length);have Hlen := H5 hlen; clear hlen;go_wp2;go_roundw
         case rel =>
          refine ⟨k + 1, _, by omega, by go_num, hV.set (k + ys.length) cr Hcr.out, H5 (fun i hi => by rw [bK Cp]; exact Hvz.out i Cp), H5 ?_⟩;have e3 := mC (l := cv) (k := k + ys.length) (v := cr) (by have := Hlen.out; omega);rw [Hvz.out _ (Ct _), Fh, Ea] at e3;rw [e3, Hve.out, CJ (Ct _), He.out, aG, CY, CN]
         case measure => simp [intOf]; omega
  . have hk1 : k = xs.length := by omega
    subst hk1;go_wp2
    go_end0
    refine ⟨rfl, cu, hR, ?_⟩;have := He.out
    rwa [CJ (Ct _)] at this
theorem fZ (l : List Nat) (k : Nat) : ae (l.drop k) = gw l k + W * ae (l.drop (k + 1)) := by
 by_cases hk : k < l.length
 . rw [List.drop_eq_getElem_cons hk]; simp [ae, gw, List.getD_eq_getElem?_getD, List.getElem?_eq_getElem hk]
 . rw [Ej Cp, Ej Cp];simp [ae, gw, List.getD_eq_getElem?_getD, List.getElem?_eq_none (by omega : l.length <= k)]
theorem oH (l : List Nat) (k v : Nat) : (l.set k v).drop (k + 1) = l.drop (k + 1) := by
 apply List.ext_getElem?;intro j;simp only [List.getElem?_drop, List.getElem?_set];have : ¬ k = k + 1 + j := by omega
 simp [this]
theorem ki {l : List Nat} {k v : Nat} (hk : k < l.length) : ae ((l.set k v).drop k) = v + W * ae (l.drop (k + 1)) := by
 rw [fZ, jD hk, oH]
theorem oq {Q r y d M : Nat} (hy : 0 < y) (hM : Q = M / y) (hr : r = M % y) : kA r d y + W * Q = (d + W * M) / y /\ mG r d y = (d + W * M) % y := by
 have h1 := Ds M y;rw [<- hM, <- hr] at h1;have e : d + W * M = (r * W + d) + y * (W * Q) := by
  rw [<- h1, CA, Dy W y Q, CE W r]; omega
 unfold kA mG;rw [e, Nat.add_mul_div_left _ _ hy, Eo];exact ⟨rfl, rfl⟩
theorem aa.ny {w w' : World} {b : Nat} {t : TypeId} {cs : List Value} (h : aa w b t cs) (hg : w.grownBy w' none) : aa w' b t cs := by
 unfold aa; rw [hg.block b h.lt (fun e => by cases e)]; exact h
theorem Below.ny {B : Nat} {w0 w w' : World} (h : Below B w0 w) (hg : w.grownBy w' none) (hB : B <= w.heap.size) : Below B w0 w' := h.grown hg hB (fun k e => by cases e)
theorem Cg (ao : Option Addr) (len cap : Nat) (ws : List Nat) (y : Nat) (w : World) (hA : cX w ao ws) (hl : len = ws.length) (hm : len <= 17592186044416) (hy0 : y ≠ 0) (hy : y < W) :
 Calls Tryz.prog 106 #[.slice ao len cap, .int .u64 (y : Int)] w fun e w' =>
  (∃ ao' cap', e = .returned (.tuple #[.slice ao' (ag (ae ws / y)) cap', .int .u64 ((ae ws % y : Nat) : Int), .int .i64 0]) /\ db w' w.heap.size ao' (ag (ae ws / y)) cap' (fM (ae ws / y))) /\ Below w.heap.size w w' := by
 subst hl;have t0 : (((y : Nat) : Int) == 0) = false := by rw [beq_eq_false_iff_ne]; omega
 have hwl := ec hA.ok;have Hy := H5 hy; clear hy;go_enter Tryz.func106, Tryz.ntmps106;go_wp2_with (go_at_call 51; refine (v8 _ _ _ ws _ hA rfl hm).mono ?_; rintro e w1 ⟨b, rfl, hN⟩)
 generalize hD : fM (ae ws) = D at *;have hDl : ag (ae ws) = D.length := by rw [<- hD]; rfl
 have hDv : ae D = ae ws := by rw [<- hD, dh]
 have HD := H5 hD; clear hD;have HDv := H5 hDv; clear hDv;generalize ag (ae ws) = n at *;have HDl := H5 hDl; clear hDl;go_loopw [8, 9] (fun r i wr => ∃ (k rest : Nat) (cu : List Nat), k <= n /\ i = .int .i64 ((k : Int) - 1) /\ r = .int .u64 (rest : Int) /\ aa wr b 60 (cu.map wv) /\ Ok cu /\ Hid (cu.length = n) /\ Below w.heap.size w wr /\
  Hid (∀ j, j < k -> gw cu j = gw D j) /\ Hid (ae (cu.drop k) = ae (D.drop k) / y) /\ Hid (rest = ae (D.drop k) % y)) (fun _ i _ => (intOf i + 1).toNat)
 case atStart => exact ⟨n, 0, D, Ct _, rfl, rfl, hN.row, hN.ok, HDl.out.symm, hN.below, H5 (fun _ _ => rfl),
  H5 (by rw [Ej (by have := HDl.out; omega)]; simp [ae]), H5 (by rw [Ej (by have := HDl.out; omega)]; simp [ae])⟩
 case round =>
  obtain ⟨k, rest, cu, hk, rfl, rfl, hrow, hok, Hlen, hb, Hs, Hq, Hr⟩ := hrel;by_cases h0 : 0 < k
  . have hcell := hrow.word (i := k - 1) (by have := Hlen.out; omega);have hyp : 0 < y := by omega
    have hrl : rest < y := by rw [Hr.out]; exact Dm _ hyp
    have Hrl := H5 hrl; clear hrl;go_wp2_with (go_at_call 123; refine (yW rest (gw cu (k - 1)) y _ Hrl.out (hok.gw _) Hy.out).mono ?_; rintro e w3 ⟨rfl, hg3⟩; have hc3 := (hrow.ny hg3).word (i := k - 1) (by have := Hlen.out; omega); have hf3 := (hrow.ny hg3).free (k - 1))
    go_roundw
    case rel =>
     have hlt : k - 1 < cu.length := by have := Hlen.out; omega
     have hkk : k - 1 + 1 = k := by omega
     have hst := oq (d := gw D (k - 1)) hyp Hq.out Hr.out;have hd2 : kA rest (gw cu (k - 1)) y < W := by
      unfold kA;rw [Dj hyp];have h1 : (rest + 1) * W <= y * W := Cy _ Hrl.out;have h2 := hok.gw (k - 1);rw [CY, ER] at h1;rw [CE W y]; omega
     refine ⟨k - 1, _, _, by omega, by go_num, rfl, (hrow.ny hg3).da (k - 1) _, hok.set _ _ hd2, H5 (by rw [CL]; exact Hlen.out), (Below.ny hb hg3 hb.size).setCell hN.ge _,
      H5 (fun j hj => by rw [bK Cp]; exact Hs.out j Cp), H5 ?_, H5 ?_⟩
     . rw [ki hlt, hkk, Hs.out _ Cp, hst.1, fZ D (k - 1), hkk]
     . rw [Hs.out _ Cp, hst.2, fZ D (k - 1), hkk]
    case measure => simp [intOf]; omega
  . have hk0 : k = 0 := by omega
    subst hk0;have hv : ae cu = ae ws / y := by have := Hq.out; rw [List.drop_zero, List.drop_zero, HDv.out] at this; exact this
    have hr : rest = ae ws % y := by have := Hr.out; rw [List.drop_zero, HDv.out] at this; exact this
    have Hv := H5 hv; clear hv;have Hr2 := H5 hr; clear hr;have hnb : n <= 17592186044416 := by omega
    go_wp2_with (go_at_call 51; refine (fa _ _ _ cu _ (hrow.mJ hok) Hlen.out.symm hnb).mono ?_; rintro e w4 ⟨⟨ao', cap', rfl, h1⟩, h2⟩)
    go_ret3;rw [Hv.out] at h1 |-;refine ⟨⟨ao', cap', ?_, h1.mono hb.size⟩, hb.trans (h2.mono hb.size)⟩;rw [<- Hr2.out]; rfl
theorem A2 {x s c : Nat} (hx : x < W) (hs : s < 64) (hc : c < 2 ^ s) :
 vw (dS x s) c + W * (x * 2 ^ s / W) = x * 2 ^ s + c /\ vw (dS x s) c < W /\ x * 2 ^ s / W < 2 ^ s /\ (0 < s -> ik x (64 - s) = x * 2 ^ s / W) /\ (s = 0 -> x * 2 ^ s / W = 0) := by
 have hw : W = 2 ^ (64 - s) * 2 ^ s := jT Cp;have hp : 0 < 2 ^ s := DF Cp;have e1 : dS x s = 2 ^ s * (x % 2 ^ (64 - s)) := by
  unfold dS; rw [hw, Nat.mul_mod_mul_right, CE]
 have e2 : x * 2 ^ s / W = x / 2 ^ (64 - s) := by rw [hw, Nat.mul_div_mul_right _ _ hp]
 have e3 : vw (dS x s) c = dS x s + c := by
  unfold vw; rw [e1, Nat.or_comm, pP hc, Ez]
 have h4 : x / 2 ^ (64 - s) < 2 ^ s := by
  rw [Dj (DF Cp), CE, <- hw]; exact hx
 refine ⟨?_, ?_, by rw [e2]; exact h4, fun _ => by unfold ik; exact e2.symm, ?_⟩
 . rw [e3];have := EZ (x * 2 ^ s) W;unfold dS; omega
 . rw [e3, e1];have h5 : x % 2 ^ (64 - s) + 1 <= 2 ^ (64 - s) := Dm _ (DF Cp);have h6 := CD (2 ^ s) h5;rw [CA, CE (2 ^ s) (2 ^ (64 - s)), <- hw] at h6;omega
 . rintro rfl;rw [Nat.pow_zero, Ee]; exact D0 hx
theorem n5 {ls ws : List Nat} {k c s v d : Nat} (hk : k < ls.length) (h : ae (ls.take k) + W ^ k * c = 2 ^ s * ae (ws.take k)) (hv : v + W * d = gw ws k * 2 ^ s + c) :
 ae ((ls.set k v).take (k + 1)) + W ^ (k + 1) * d = 2 ^ s * ae (ws.take (k + 1)) := by
 rw [dJ hk, aG, CA, <- h, Dd];have : W ^ k * (v + W * d) = W ^ k * (gw ws k * 2 ^ s + c) := by rw [hv]
 rw [CA, CA, <- CN] at this;have e : 2 ^ s * (W ^ k * gw ws k) = W ^ k * (gw ws k * 2 ^ s) := by rw [Dy, CE (2 ^ s)]
 omega
theorem oM (ao : Option Addr) (len cap : Nat) (ws : List Nat) (s n : Nat) (w : World) (hA : cX w ao ws) (hl : len = ws.length) (hm : len <= 17592186044416) (hs : s < 64) (hn : n <= 17592186044417) (hln : len <= n) (hfit : 2 ^ s * ae ws < W ^ n) :
 Calls Tryz.prog 125 #[.slice ao len cap, .int .u64 (s : Int), .int .i64 (n : Int)] w fun e w' =>
  ∃ (b : Nat) (zs : List Nat), e = .returned (.slice (some ⟨b, 0, none⟩) n n) /\ tW w w' b zs /\ zs.length = n /\ ae zs = 2 ^ s * ae ws := by
 subst hl;have hs' : (s : Int) < 64 := by omega
 have Hfit := H5 hfit; clear hfit;go_enter Tryz.func125, Tryz.ntmps125;go_wp2_with (at_make; refine ez rfl _ _ rfl n n rfl rfl rfl rfl (Ct _) Cp ?_; intro b w1 hm1)
 have hB1 : w.heap.size <= b := DJ hm1.at_.symm;go_loopw [8, 15] (fun c i wr => ∃ (k cr : Nat) (ls : List Nat), k <= n /\ i = .int .i64 k /\ c = .int .u64 cr /\ cr < W /\ Hid (cr < 2 ^ s) /\ Hid (ls.length = n) /\ Ok ls /\ aa wr b 60 (ls.map wv) /\ Below w.heap.size w wr /\
  Hid (ae (ls.take k) + W ^ k * cr = 2 ^ s * ae (ws.take k))) (fun _ i _ => n - (intOf i).toNat)
 case atStart => exact ⟨0, 0, _, Cx _, rfl, rfl, bw, H5 (DF Cp), H5 Cq, Ok.replicate _, hm1.row, hm1.below, H5 (by simp [ae])⟩
 case round =>
  obtain ⟨k, cr, ls, hk, rfl, rfl, hcW, Hcr, Hll, hok, hrow, hbl, Heq⟩ := hrel;by_cases hlt : k < n
  . have hcell := hrow.word (i := k) (by have := Hll.out; omega);have hfree := hrow.free k;have hst := A2 (hA.ok.gw k) hs Hcr.out;have hvW := hst.2.1;have hdW : gw ws k * 2 ^ s / W < W := CK hst.2.2.1 (by rw [yn]; exact CU Cp Cp);have Hst := H5 hst; clear hst;have hxW := hA.ok.gw k;have hshW : dS (gw ws k) s < W := jw _;have hk' : k < ls.length := by have := Hll.out; omega
    have Hk' := H5 hk'; clear hk';by_cases hlw : k < ws.length
    . obtain ⟨b1, o1, rfl, hb1, hc1⟩ := (hA.below hbl).pos Cp;have e1 := hc1 k hlw;clear hc1;have t1 : decide ((k : Int) < (ws.length : Int)) = true := by simp; omega
      by_cases h0 : 0 < s
      . have t2 : decide ((0 : Int) < (s : Int)) = true := by simp; omega
        have He4 := H5 (Hst.out.2.2.2.1 h0);go_wp2_with (first
         | (with_reducible show wpList _ _ _ (⟨some 30, _, _, _, _, _⟩ :: _) _ _; refine o5 rfl _ _ rfl (gw ws k) s Cp rfl rfl rfl rfl ?_)
         | (with_reducible show wpList _ _ _ (⟨some 32, _, _, _, _, _⟩ :: _) _ _; refine rV rfl _ _ rfl (dS (gw ws k) s) cr hshW hcW rfl rfl rfl rfl ?_)
         | (with_reducible show wpList _ _ _ (⟨some 39, _, _, _, _, _⟩ :: _) _ _; refine ng rfl _ _ rfl (gw ws k) (64 - s) hxW Cp rfl rfl rfl Cp ?_; rw [He4.out]))
        go_roundw
        case rel =>
         exact ⟨k + 1, _, _, by omega, by go_num, rfl, hdW, H5 Hst.out.2.2.1, H5 (by rw [CL]; exact Hll.out), hok.set _ _ hvW, hrow.da k _, hbl.setCell hB1 _, H5 (n5 Hk'.out Heq.out Hst.out.1)⟩
        case measure => simp [intOf]; omega
      . have t2 : decide ((0 : Int) < (s : Int)) = false := by simp; omega
        have He4 := H5 (Hst.out.2.2.2.2 Cp);go_wp2_with (first
         | (with_reducible show wpList _ _ _ (⟨some 30, _, _, _, _, _⟩ :: _) _ _; refine o5 rfl _ _ rfl (gw ws k) s Cp rfl rfl rfl rfl ?_)
         | (with_reducible show wpList _ _ _ (⟨some 32, _, _, _, _, _⟩ :: _) _ _; refine rV rfl _ _ rfl (dS (gw ws k) s) cr hshW hcW rfl rfl rfl rfl ?_))
        go_roundw
        case rel =>
         exact ⟨k + 1, 0, _, by omega, by go_num, rfl, bw, H5 (DF Cp), H5 (by rw [CL]; exact Hll.out), hok.set _ _ hvW, hrow.da k _, hbl.setCell hB1 _, H5 (n5 Hk'.out Heq.out (by have := Hst.out.1; rw [He4.out] at this; exact this))⟩
        case measure => simp [intOf]; omega
    . have t1 : decide ((k : Int) < (ws.length : Int)) = false := by simp; omega
      have hz : gw ws k = 0 := ja (by have := aK ws; omega);have Hz := H5 hz; clear hz;have hor : vw 0 cr = cr := by simp [vw]
      have Hor := H5 hor; clear hor;by_cases h0 : 0 < s
      . have t2 : decide ((0 : Int) < (s : Int)) = true := by simp; omega
        go_wp2_with ((with_reducible show wpList _ _ _ (⟨some 32, _, _, _, _, _⟩ :: _) _ _; refine rV rfl _ _ rfl 0 cr bw hcW rfl rfl rfl rfl ?_; rw [Hor.out]))
        go_roundw
        case rel =>
         exact ⟨k + 1, 0, _, by omega, by go_num, rfl, bw, H5 (DF Cp), H5 (by rw [CL]; exact Hll.out), hok.set _ _ hcW, hrow.da k _, hbl.setCell hB1 _, H5 (n5 Hk'.out Heq.out (by rw [Hz.out]; omega))⟩
        case measure => simp [intOf]; omega
      . have t2 : decide ((0 : Int) < (s : Int)) = false := by simp; omega
        go_wp2_with ((with_reducible show wpList _ _ _ (⟨some 32, _, _, _, _, _⟩ :: _) _ _; refine rV rfl _ _ rfl 0 cr bw hcW rfl rfl rfl rfl ?_; rw [Hor.out]))
        go_roundw
        case rel =>
         exact ⟨k + 1, 0, _, by omega, by go_num, rfl, bw, H5 (DF Cp), H5 (by rw [CL]; exact Hll.out), hok.set _ _ hcW, hrow.da k _, hbl.setCell hB1 _, H5 (n5 Hk'.out Heq.out (by rw [Hz.out]; omega))⟩
        case measure => simp [intOf]; omega
  . have hk0 : k = n := by omega
    subst hk0;go_wp2;go_ret;refine ⟨b, ls, rfl, ⟨hrow, hok, hB1, hbl⟩, Hll.out, ?_⟩;have e := Heq.out;rw [CJ (by have := Hll.out; omega), CJ Cp] at e;have hz : cr = 0 := by
     refine Df fun hne => ?_;have h1 : W ^ k * 1 <= W ^ k * cr := CD _ Cp;have h2 := Hfit.out;rw [<- e] at h2;omega
    subst hz;rw [Fh, Ea] at e;exact e
theorem pK {d x c : Nat} (hd : d < W) (hx : x < W) (hc : c < W) : bI d x + aY (aM d x) c 0 < W /\ bA (aM d x) c 0 + W * (bI d x + aY (aM d x) c 0) = d * x + c := by
 have h := kx (g := 0) bw hd hx hc;have e1 := mul_eq d x;have e2 := add_eq (aM d x) c 0;refine ⟨h.1, ?_⟩;rw [CA]; omega
theorem vN {cu cur ys : List Nat} {o k c l d P : Nat} (hlt : o + k < cu.length) (he : sv cu o k + d * ae (ys.take k) = sv cur o k + W ^ k * (c + l)) (hg : gw cu (o + k) = gw cur (o + k))
 (hx : gw cu (o + k) < W) (hd : d < W) (hy : gw ys k < W) (hc : c < W) (hl : l <= 1) (hP : P = bA (aM d (gw ys k)) c 0) :
 sv (cu.set (o + k) (ee (gw cu (o + k)) P l)) o (k + 1) + d * ae (ys.take (k + 1)) =
  sv cur o (k + 1) + W ^ (k + 1) * ((bI d (gw ys k) + aY (aM d (gw ys k)) c 0) + ur (gw cu (o + k)) P l) := by
 have hPW : P < W := by rw [hP]; exact eX _ _ _
 have e := sub_eq hx hPW hl;have e2 := (pK hd hy hc).2;rw [<- hP] at e2;rw [gU hlt, cP cur, <- hg, aG, Dd, CA d];generalize bI d (gw ys k) + aY (aM d (gw ys k)) c 0 = C at *;generalize ee (gw cu (o + k)) P l = S at *;generalize ur (gw cu (o + k)) P l = L at *;have f1 : W ^ k * (S + P + l) = W ^ k * (gw cu (o + k) + W * L) := by rw [e]
 have f2 : W ^ k * (P + W * C) = W ^ k * (d * gw ys k + c) := by rw [e2]
 rw [CA, CA, CA] at f1;rw [CA, CA] at f2;have f3 : d * (W ^ k * gw ys k) = W ^ k * (d * gw ys k) := Dy ..;have f4 : W ^ k * W * (C + L) = W ^ k * (W * C) + W ^ k * (W * L) := by rw [CN, CA, CA]
 rw [CA] at he;rw [f3, f4];omega
theorem vG {cu cur : List Nat} {o k c l M : Nat} (hlt : o + k < cu.length) (he : sv cu o k + M = sv cur o k + W ^ k * (c + l)) (hg : gw cu (o + k) = gw cur (o + k))
 (hx : gw cu (o + k) < W) (hc : c < W) (hl : l <= 1) :
 sv (cu.set (o + k) (ee (gw cu (o + k)) c l)) o (k + 1) + M = sv cur o (k + 1) + W ^ (k + 1) * ur (gw cu (o + k)) c l := by
 have e := sub_eq hx hc hl;rw [gU hlt, cP cur, <- hg, Dd];generalize ee (gw cu (o + k)) c l = S at *;generalize ur (gw cu (o + k)) c l = L at *;have f1 : W ^ k * (S + c + l) = W ^ k * (gw cu (o + k) + W * L) := by rw [e]
 rw [CA, CA, CA] at f1;rw [CA] at he;rw [CN];omega
theorem Bo (ao : Option Addr) (b o lz cz len cap : Nat) (ws cur : List Nat) (d : Nat) (w : World) (hrow : aa w b 60 (cur.map wv)) (hok : Ok cur) (hlz : lz = len + 1) (hfit : o + lz <= cur.length)
 (hA : cX w ao ws) (hne : kj ao ws b) (hl : len = ws.length) (hm : cur.length <= 35184372088832) (hd : d < W) :
 Calls Tryz.prog 127 #[.slice (some ⟨b, o, none⟩) lz cz, .slice ao len cap, .int .u64 (d : Int)] w fun e w' => ∃ (cur' : List Nat) (lent : Nat), e = .returned (.bool (((lent : Nat) : Int) != 0)) /\ eP w w' b cur cur' /\ lent <= 1 /\
  (∀ j, j < o \/ o + lz <= j -> gw cur' j = gw cur j) /\ sv cur' o lz + d * ae ws = sv cur o lz + W ^ lz * lent := by
 subst hl hlz;go_enter Tryz.func127, Tryz.ntmps127;go_wp2;go_loopw [7, 8, 16] (fun c l i wr => ∃ (k cr lt : Nat) (cu : List Nat), k <= ws.length /\ i = .int .i64 k /\ c = .int .u64 cr /\ l = .int .u64 lt /\ Hid (cr < W) /\ lt <= 1 /\ eP w wr b cur cu /\ Hid (∀ j, j < o \/ o + k <= j -> gw cu j = gw cur j) /\
  Hid (sv cu o k + d * ae (ws.take k) = sv cur o k + W ^ k * (cr + lt))) (fun _ _ i _ => ws.length - (intOf i).toNat)
 case atStart => exact ⟨0, 0, 0, cur, Cx _, rfl, rfl, rfl, H5 bw, by omega, ⟨hrow, hok, rfl, World.grownBy.refl _ _⟩, H5 (fun _ _ => rfl), H5 (by simp [j1, ae])⟩
 case round =>
  obtain ⟨k, cr, lt, cu, hk, rfl, rfl, rfl, Hcr, hlt1, hR, Hs, He⟩ := hrel;have hlen := hR.len;have hcell := hR.row.word (i := o + k) Cp;have hfree := hR.row.free (o + k);have Hlen := H5 hlen; clear hlen;by_cases hlt : k < ws.length
  . obtain ⟨b1, o1, rfl, hb1, hc1⟩ := (hA.grown hR.grown hne).pos Cp;have e1 := hc1 k hlt;clear hc1;have hbd := pK hd (hA.ok.gw k) Hcr.out;have Hbd := H5 hbd.1; clear hbd;have q1 : ((bI d (gw ws k) : Nat) : Int) + ((aY (aM d (gw ws k)) cr 0 : Nat) : Int) <= 18446744073709551615 := by have := Hbd.out; unfold W at this; omega
    go_wp2_with (first
     | (go_at_call 120; refine (dQ _ _ hd (hA.ok.gw k) _).mono ?_; rintro e w' ⟨rfl, rfl⟩)
     | (with_reducible show wpList _ _ _ (⟨some 31, _, _, _, _, _⟩ :: _) _ _; refine cI rfl _ _ _ _ rfl (aM d (gw ws k)) cr 0 Cp rfl rfl rfl rfl rfl rfl ?_)
     | (with_reducible show wpList _ _ _ (⟨some 46, _, _, _, _, _⟩ :: _) _ _; refine iC rfl _ _ _ _ rfl (gw cu (o + k)) (bA (aM d (gw ws k)) cr 0) lt hlt1 rfl rfl rfl rfl rfl rfl ?_))
    go_roundw
    case rel =>
     exact ⟨k + 1, _, _, _, by omega, by go_num, rfl, rfl, H5 Hbd.out, mh _ _ _, hR.set (o + k) _ (iw _ _ _),
      H5 (fun j hj => by rw [bK Cp]; exact Hs.out j Cp),
      H5 (vN (by have := Hlen.out; omega) He.out (Hs.out _ Cp) (hR.ok.gw _) hd (hA.ok.gw k) Hcr.out hlt1 rfl)⟩
    case measure => simp [intOf]; omega
  . have hk1 : k = ws.length := by omega
    subst hk1;go_wp2_with (with_reducible show wpList _ _ _ (⟨some 62, _, _, _, _, _⟩ :: _) _ _; refine iC rfl _ _ _ _ rfl (gw cu (o + ws.length)) cr lt hlt1 rfl rfl rfl rfl rfl rfl ?_)
    go_ret;refine ⟨_, _, rfl, hR.set (o + ws.length) _ (iw _ _ _), mh _ _ _, fun j hj => by rw [bK Cp]; exact Hs.out j Cp, ?_⟩;have := vG (by have := Hlen.out; omega) He.out (Hs.out _ Cp) (hR.ok.gw _) Hcr.out hlt1
    rwa [CJ (Ct _)] at this
theorem BO (ao : Option Addr) (b o lz cz len cap : Nat) (ws cur : List Nat) (w : World) (hrow : aa w b 60 (cur.map wv)) (hok : Ok cur) (hlz : lz = len + 1) (hfit : o + lz <= cur.length)
 (hA : cX w ao ws) (hne : kj ao ws b) (hl : len = ws.length) (hm : cur.length <= 35184372088832) :
 Calls Tryz.prog 128 #[.slice (some ⟨b, o, none⟩) lz cz, .slice ao len cap] w fun e w' => e = .returned (.tuple #[]) /\ ∃ (cur' : List Nat) (cr : Nat), eP w w' b cur cur' /\
  (∀ j, j < o \/ o + lz <= j -> gw cur' j = gw cur j) /\ sv cur' o lz + W ^ lz * cr = sv cur o lz + ae ws := by
 subst hl hlz;go_enter Tryz.func128, Tryz.ntmps128;go_wp2;go_loopw [4, 8] (fun c i wr => ∃ (k cr : Nat) (cu : List Nat), k <= ws.length /\ i = .int .i64 k /\ c = .int .u64 cr /\ cr <= 1 /\ eP w wr b cur cu /\ Hid (∀ j, j < o \/ o + k <= j -> gw cu j = gw cur j) /\
  Hid (sv cu o k + W ^ k * cr = sv cur o k + ae (ws.take k))) (fun _ i _ => ws.length - (intOf i).toNat)
 case atStart => exact ⟨0, 0, cur, Cx _, rfl, rfl, by omega, ⟨hrow, hok, rfl, World.grownBy.refl _ _⟩, H5 (fun _ _ => rfl), H5 (by simp [j1, ae])⟩
 case round =>
  obtain ⟨k, cr, cu, hk, rfl, rfl, hcr, hR, Hs, He⟩ := hrel;have hlen := hR.len;have hcell := hR.row.word (i := o + k) Cp;have hfree := hR.row.free (o + k);have Hlen := H5 hlen; clear hlen;by_cases hlt : k < ws.length
  . obtain ⟨b1, o1, rfl, hb1, hc1⟩ := (hA.grown hR.grown hne).pos Cp;have e1 := hc1 k hlt;clear hc1;have hadd := qC (gw cu (o + k)) (gw ws k) cr hcr;have i1 : (k : Int) < (ws.length : Int) + 1 := by omega
    have i2 : (k : Int) < (ws.length : Int) := by omega
    go_wp2
    go_region
    go_wp2;go_roundw
    case rel =>
     exact ⟨k + 1, _, _, by omega, by go_num, rfl, jJ (hR.ok.gw _) (hA.ok.gw k) hcr, (hR.set (o + k) _ (eX _ _ _)).drew,
      H5 (fun j hj => by rw [bK Cp]; exact Hs.out j Cp),
      H5 (j6 (ws := ws) (by have := Hlen.out; omega) He.out (Hs.out _ Cp) (aG ws k))⟩
    case measure => simp [intOf]; omega
  . have hk1 : k = ws.length := by omega
    subst hk1;have hcW : cr < W := CT hcr (by unfold W; omega);go_wp2_with (with_reducible show wpList _ _ _ (⟨some 34, _, _, _, _, _⟩ :: _) _ _; refine qT rfl _ _ rfl (gw cu (o + ws.length)) cr rfl rfl rfl rfl ?_)
    go_end0
    refine ⟨rfl, _, aY (gw cu (o + ws.length)) cr 0, hR.set (o + ws.length) _ (eX _ _ _), fun j hj => by rw [bK Cp]; exact Hs.out j Cp, ?_⟩;have e := He.out;rw [CJ (Ct _)] at e;have := j6 (ws := ws) (o := o) (k := ws.length) (cr := cr) (y := 0) (by have := Hlen.out; omega) e (Hs.out _ Cp) (M := ae ws) Cp;have e2 : bA (gw cu (o + ws.length)) cr 0 = bA (gw cu (o + ws.length)) 0 cr := by unfold bA; rw [Ea]; rfl
    have e3 : aY (gw cu (o + ws.length)) cr 0 = aY (gw cu (o + ws.length)) 0 cr := by unfold aY; rw [Ea]; rfl
    rw [e2, e3];exact this
def gq (u2 u1 u0 v1 v0 : Nat) : Nat := min (W - 1) (((u2 * W + u1) * W + u0) / (v1 * W + v0))
structure jB (u2 u1 u0 v1 v0 d rest : Nat) : Prop where
 eq : d * v1 + rest = u2 * W + u1
 le : gq u2 u1 u0 v1 v0 <= d
 lt : d < W
 rl : rest < W
theorem kL {u2 u1 u0 v1 v0 d rest : Nat} (hv : 0 < v1) (heq : d * v1 + rest = u2 * W + u1) (hle : gq u2 u1 u0 v1 v0 <= d) (hlt : d < W) (hc : d * v0 <= rest * W + u0) : d = gq u2 u1 u0 v1 v0 := by
 apply Nat.le_antisymm _ hle;unfold gq;refine Nat.le_min.2 ⟨by omega, ?_⟩;have hV : 0 < v1 * W + v0 := by have := Fi hv bw; omega
 rw [Ep hV, <- heq, CA, CY, CN];omega
theorem jB.stop {u2 u1 u0 v1 v0 d rest : Nat} (h : jB u2 u1 u0 v1 v0 d rest) (hv : 0 < v1) (hc : d * v0 <= rest * W + u0) : d = gq u2 u1 u0 v1 v0 := kL hv h.eq h.le h.lt hc
theorem nW {d v0 rest u0 : Nat} (hu : u0 < W) : (bI d v0 < rest \/ (bI d v0 = rest /\ aM d v0 <= u0)) ↔ d * v0 <= rest * W + u0 := by
 have e := mul_eq d v0;have h1 := jI d v0;rw [<- e, CE rest W];generalize bI d v0 = hi at *;generalize aM d v0 = lo at *;constructor
 . rintro (h | ⟨h, h2⟩)
   . have : W * (hi + 1) <= W * rest := CD _ h;rw [CA] at this; omega
   . subst h; omega
 . intro h;rcases Dl hi rest with h2 | h2 | h2
   . exact .inl h2
   . exact .inr ⟨h2, by subst h2; omega⟩
   . have : W * (rest + 1) <= W * hi := CD _ h2;rw [CA] at this; omega
theorem jB.more {u2 u1 u0 v1 v0 d rest : Nat} (h : jB u2 u1 u0 v1 v0 d rest) (hv : 0 < v1) (hc : rest * W + u0 < d * v0) : 1 <= d /\ gq u2 u1 u0 v1 v0 <= d - 1 /\ (d - 1) * v1 + (rest + v1) = u2 * W + u1 := by
 have hd : 1 <= d := by
  refine Df fun hn => ?_;have : d = 0 := by omega
  subst this; omega
 refine ⟨hd, ?_, ?_⟩
 . have hV : 0 < v1 * W + v0 := by have := Fi hv bw; omega
   have : ((u2 * W + u1) * W + u0) / (v1 * W + v0) < d := by
    rw [Dj hV, <- h.eq, CA, CY, CN];omega
   unfold gq;have := Nat.min_le_right (W - 1) (((u2 * W + u1) * W + u0) / (v1 * W + v0));omega
 . obtain ⟨k, rfl⟩ : ∃ k, d = k + 1 := ⟨d - 1, by omega⟩;have := h.eq;rw [CY] at this;rw [Es]; omega
theorem vh {a b : Nat} (h : aY a b 0 ≠ 0) : W <= a + b := by
 refine Df fun hn => h ?_;unfold aY; exact D0 Cp
theorem uy {a b : Nat} (h : aY a b 0 = 0) : bA a b 0 = a + b /\ a + b < W := by
 have h1 := add_eq a b 0;have h2 := eX a b 0;rw [h] at h1; omega
theorem rO {d v0 r u0 : Nat} (hd : d < W) (h0 : v0 < W) (hr : W <= r) : d * v0 <= r * W + u0 := by
 have h1 : d * v0 <= W * W := Da (Dg hd) (Dg h0);have h2 : W * W <= r * W := Cy _ hr;omega
theorem jB.over {u2 u1 u0 v1 v0 d rest : Nat} (h : jB u2 u1 u0 v1 v0 d rest) (hv : 0 < v1) (h0 : v0 < W) (hc : rest * W + u0 < d * v0) (ho : aY rest v1 0 ≠ 0) : d - 1 = gq u2 u1 u0 v1 v0 := by
 obtain ⟨h1, h2, h3⟩ := h.more hv hc;have := h.lt;exact kL hv h3 h2 Cp (rO Cp h0 (vh ho))
theorem jB.next {u2 u1 u0 v1 v0 d rest : Nat} (h : jB u2 u1 u0 v1 v0 d rest) (hv : 0 < v1) (hc : rest * W + u0 < d * v0) (ho : aY rest v1 0 = 0) : jB u2 u1 u0 v1 v0 (d - 1) (bA rest v1 0) := by
 obtain ⟨h1, h2, h3⟩ := h.more hv hc;obtain ⟨h4, h5⟩ := uy ho;have := h.lt;exact ⟨by rw [h4]; exact h3, h2, by omega, by omega⟩
theorem pM {u1 v1 : Nat} : (W - 1) * v1 + (u1 + v1) = v1 * W + u1 := by
 obtain ⟨k, hk⟩ : ∃ k, W = k + 1 := ⟨W - 1, by have := bw; omega⟩;rw [hk, Es, CA, CE k v1]; omega
theorem tO {u1 u0 v1 v0 : Nat} (hv : 0 < v1) (h0 : v0 < W) (ho : aY u1 v1 0 ≠ 0) : W - 1 = gq v1 u1 u0 v1 v0 :=
 kL hv pM (E5 ..) (by have := bw; omega) (rO (by have := bw; omega) h0 (vh ho))
theorem jB.BP {u1 u0 v1 v0 : Nat} (ho : aY u1 v1 0 = 0) : jB v1 u1 u0 v1 v0 (W - 1) (bA u1 v1 0) := by
 obtain ⟨h4, h5⟩ := uy ho;exact ⟨by rw [h4]; exact pM, E5 .., by have := bw; omega, by omega⟩
theorem jB.Br {u2 u1 u0 v1 v0 : Nat} (hu : u2 < v1) (h1 : u1 < W) (h0 : u0 < W) (hv1 : v1 < W) : jB u2 u1 u0 v1 v0 (kA u2 u1 v1) (mG u2 u1 v1) := by
 have hv : 0 < v1 := by omega
 have e : kA u2 u1 v1 * v1 + mG u2 u1 v1 = u2 * W + u1 := by unfold kA mG; rw [CE]; exact Ds ..
 have hr : mG u2 u1 v1 < v1 := Dm _ hv;refine ⟨e, ?_, ?_, by omega⟩
 . refine Cw (Nat.min_le_right ..) ?_;have hV : 0 < v1 * W + v0 := by have := Fi hv bw; omega
   apply Nat.le_of_lt_succ;rw [Dj hV];generalize kA u2 u1 v1 = d at *;have f1 : u2 * W + u1 + 1 <= (d + 1) * v1 := by rw [CY]; omega
   have f2 := Cy W f1;rw [CY (u2 * W + u1), ER, CN] at f2;rw [Nat.succ_eq_add_one, CA];omega
 . unfold kA;rw [Dj hv];have f1 : (u2 + 1) * W <= v1 * W := Cy _ hu;rw [CY, CE v1 W] at f1;omega
theorem zY (u2 u1 u0 v1 v0 : Nat) (w : World) (hv : 0 < v1) (hv1 : v1 < W) (h0 : v0 < W) (hu2 : u2 <= v1) (hu1 : u1 < W) (hu0 : u0 < W) :
 Calls Tryz.prog 126 #[.int .u64 (u2 : Int), .int .u64 (u1 : Int), .int .u64 (u0 : Int), .int .u64 (v1 : Int), .int .u64 (v0 : Int)] w fun e w' => e = .returned (.int .u64 ((gq u2 u1 u0 v1 v0 : Nat) : Int)) /\ ∃ m, w' = w.drewN m := by
 have Hv1 := H5 hv1; clear hv1;have H0 := H5 h0; clear h0;have Hu0 := H5 hu0; clear hu0;have Hu1 := H5 hu1; clear hu1;have Hv := H5 hv; clear hv;have HW : W - 1 = 18446744073709551615 := by unfold W; rfl
 have HW' := H5 HW; clear HW;go_enter Tryz.func126, Tryz.ntmps126;go_wp2;go_step3;by_cases hlt : u2 < v1
 . have t1 : decide ((v1 : Int) <= (u2 : Int)) = false := by simp; omega
   have hnl : ¬ v1 <= u2 := by omega
   have Hlt := H5 hlt; clear hlt;go_wp2_with (go_at_call 123; refine (vA u2 u1 v1 _ Hlt.out Hu1.out Hv1.out).mono ?_; rintro e w3 ⟨rfl, hm, rfl⟩)
   go_step3;go_wp2
   go_loop [11, 12] (fun d r => ∃ dd rr : Nat, d = .int .u64 (dd : Int) /\ r = .int .u64 (rr : Int) /\ jB u2 u1 u0 v1 v0 dd rr) (fun d _ => (intOf d).toNat)
   case atStart => exact ⟨_, _, rfl, rfl, jB.Br Hlt.out Hu1.out Hu0.out Hv1.out⟩
   case round =>
    obtain ⟨dd, rr, rfl, rfl, hi⟩ := hrel;have hdd := hi.lt;have hdL : dd <= 18446744073709551615 := by unfold W at hdd; omega
    have ht := nW (d := dd) (v0 := v0) (rest := rr) (u0 := u0) Hu0.out;have Hi := H5 hi; clear hi;by_cases A : dd * v0 <= rr * W + u0
    . have hs := Hi.out.stop Hv.out A;have Hs := H5 hs; clear hs;have hc := ht.2 A;clear A ht;by_cases A1 : bI dd v0 < rr
      . have t3 : decide (((bI dd v0 : Nat) : Int) < (rr : Int)) = true := by simp; omega
        clear hc;go_wp2_with (go_at_call 120; refine (dQ _ _ hdd H0.out _).mono ?_; rintro e w' ⟨rfl, rfl⟩)
        try rw [Exit.noGoto_ret]
        go_ret;exact ⟨by rw [<- Hs.out]; rfl, hm, rfl⟩
      . obtain ⟨B1, B2⟩ : bI dd v0 = rr /\ aM dd v0 <= u0 := hc.resolve_left A1;have t3 : decide (((bI dd v0 : Nat) : Int) < (rr : Int)) = false := by simp; omega
        have t4 : (((bI dd v0 : Nat) : Int) == (rr : Int)) = true := by rw [B1]; simp
        have t5 : decide (((aM dd v0 : Nat) : Int) <= (u0 : Int)) = true := by simp; omega
        clear hc B1;go_wp2_with (go_at_call 120; refine (dQ _ _ hdd H0.out _).mono ?_; rintro e w' ⟨rfl, rfl⟩)
        try rw [Exit.noGoto_ret]
        go_ret;exact ⟨by rw [<- Hs.out]; rfl, hm, rfl⟩
    . have A' : rr * W + u0 < dd * v0 := by omega
      have h1 : 1 <= dd := (Hi.out.more Hv.out A').1;have hc : ¬ (bI dd v0 < rr \/ (bI dd v0 = rr /\ aM dd v0 <= u0)) := fun h => A (ht.1 h);have n1 : ¬ (bI dd v0 < rr) := fun h => hc (.inl h);have t3 : decide (((bI dd v0 : Nat) : Int) < (rr : Int)) = false := by
       simp; omega
      have HA := H5 A';clear A A' ht;by_cases B1 : bI dd v0 = rr
      . have t4 : (((bI dd v0 : Nat) : Int) == (rr : Int)) = true := by rw [B1]; simp
        have n2 : ¬ (aM dd v0 <= u0) := fun h => hc (.inr ⟨B1, h⟩);have t5 : decide (((aM dd v0 : Nat) : Int) <= (u0 : Int)) = false := by
         simp; omega
        have HB1 := H5 B1;clear hc B1;by_cases ho : aY rr v1 0 = 0
        . have t2 : (((aY rr v1 0 : Nat) : Int) != 0) = false := by rw [ho]; rfl
          have Ho := H5 ho; clear ho;go_wp2_with (first
           | (go_at_call 120; refine (dQ _ _ hdd H0.out _).mono ?_; rintro e w' ⟨rfl, rfl⟩)
           | (with_reducible show wpList _ _ _ (⟨some 62, _, _, _, _, _⟩ :: _) _ _; refine cI rfl _ _ _ _ rfl rr v1 0 Cp rfl rfl rfl rfl rfl rfl ?_))
          go_round
          case rel => exact ⟨dd - 1, _, by go_num, rfl, Hi.out.next Hv.out HA.out Ho.out⟩
          case measure => simp [intOf]; omega
        . have t2 : (((aY rr v1 0 : Nat) : Int) != 0) = true := by rw [bne_iff_ne]; omega
          have Ho := H5 ho; clear ho;go_wp2_with (first
           | (go_at_call 120; refine (dQ _ _ hdd H0.out _).mono ?_; rintro e w' ⟨rfl, rfl⟩)
           | (with_reducible show wpList _ _ _ (⟨some 62, _, _, _, _, _⟩ :: _) _ _; refine cI rfl _ _ _ _ rfl rr v1 0 Cp rfl rfl rfl rfl rfl rfl ?_))
          try rw [Exit.noGoto_ret]
          go_ret;exact ⟨by rw [<- Hi.out.over Hv.out H0.out HA.out Ho.out]; rw [(by omega : ((dd - 1 : Nat) : Int) = (dd : Int) - 1)]; rfl, hm, rfl⟩
      . have t4 : (((bI dd v0 : Nat) : Int) == (rr : Int)) = false := by rw [beq_eq_false_iff_ne]; omega
        clear hc B1;by_cases ho : aY rr v1 0 = 0
        . have t2 : (((aY rr v1 0 : Nat) : Int) != 0) = false := by rw [ho]; rfl
          have Ho := H5 ho; clear ho;go_wp2_with (first
           | (go_at_call 120; refine (dQ _ _ hdd H0.out _).mono ?_; rintro e w' ⟨rfl, rfl⟩)
           | (with_reducible show wpList _ _ _ (⟨some 62, _, _, _, _, _⟩ :: _) _ _; refine cI rfl _ _ _ _ rfl rr v1 0 Cp rfl rfl rfl rfl rfl rfl ?_))
          go_round
          case rel => exact ⟨dd - 1, _, by go_num, rfl, Hi.out.next Hv.out HA.out Ho.out⟩
          case measure => simp [intOf]; omega
        . have t2 : (((aY rr v1 0 : Nat) : Int) != 0) = true := by rw [bne_iff_ne]; omega
          have Ho := H5 ho; clear ho;go_wp2_with (first
           | (go_at_call 120; refine (dQ _ _ hdd H0.out _).mono ?_; rintro e w' ⟨rfl, rfl⟩)
           | (with_reducible show wpList _ _ _ (⟨some 62, _, _, _, _, _⟩ :: _) _ _; refine cI rfl _ _ _ _ rfl rr v1 0 Cp rfl rfl rfl rfl rfl rfl ?_))
          try rw [Exit.noGoto_ret]
          go_ret;exact ⟨by rw [<- Hi.out.over Hv.out H0.out HA.out Ho.out]; rw [(by omega : ((dd - 1 : Nat) : Int) = (dd : Int) - 1)]; rfl, hm, rfl⟩
 . have t1 : decide ((v1 : Int) <= (u2 : Int)) = true := by simp; omega
   obtain rfl : u2 = v1 := by omega
   clear hlt;by_cases ho : aY u1 u2 0 = 0
   . have t2 : (((aY u1 u2 0 : Nat) : Int) != 0) = false := by rw [ho]; rfl
     have Ho := H5 ho; clear ho;go_wp2_with (with_reducible show wpList _ _ _ (⟨some 25, _, _, _, _, _⟩ :: _) _ _; refine cI rfl _ _ _ _ rfl u1 u2 0 Cp rfl rfl rfl rfl rfl rfl ?_)
     go_step3;go_wp2
     go_loop [11, 12] (fun d r => ∃ dd rr : Nat, d = .int .u64 (dd : Int) /\ r = .int .u64 (rr : Int) /\ jB u2 u1 u0 u2 v0 dd rr) (fun d _ => (intOf d).toNat)
     case atStart => exact ⟨18446744073709551615, _, rfl, rfl, by rw [<- HW'.out]; exact jB.BP Ho.out⟩
     case round =>
      obtain ⟨dd, rr, rfl, rfl, hi⟩ := hrel;have hdd := hi.lt;have hdL : dd <= 18446744073709551615 := by unfold W at hdd; omega
      have ht := nW (d := dd) (v0 := v0) (rest := rr) (u0 := u0) Hu0.out;have Hi := H5 hi; clear hi;by_cases A : dd * v0 <= rr * W + u0
      . have hs := Hi.out.stop Hv.out A;have Hs := H5 hs; clear hs;have hc := ht.2 A;clear A ht;by_cases A1 : bI dd v0 < rr
        . have t3 : decide (((bI dd v0 : Nat) : Int) < (rr : Int)) = true := by simp; omega
          clear hc;go_wp2_with (go_at_call 120; refine (dQ _ _ hdd H0.out _).mono ?_; rintro e w' ⟨rfl, rfl⟩)
          try rw [Exit.noGoto_ret]
          go_ret;exact ⟨by rw [<- Hs.out]; rfl, 0, rfl⟩
        . obtain ⟨B1, B2⟩ : bI dd v0 = rr /\ aM dd v0 <= u0 := hc.resolve_left A1;have t3 : decide (((bI dd v0 : Nat) : Int) < (rr : Int)) = false := by simp; omega
          have t4 : (((bI dd v0 : Nat) : Int) == (rr : Int)) = true := by rw [B1]; simp
          have t5 : decide (((aM dd v0 : Nat) : Int) <= (u0 : Int)) = true := by simp; omega
          clear hc B1;go_wp2_with (go_at_call 120; refine (dQ _ _ hdd H0.out _).mono ?_; rintro e w' ⟨rfl, rfl⟩)
          try rw [Exit.noGoto_ret]
          go_ret;exact ⟨by rw [<- Hs.out]; rfl, 0, rfl⟩
      . have A' : rr * W + u0 < dd * v0 := by omega
        have h1 : 1 <= dd := (Hi.out.more Hv.out A').1;have hc : ¬ (bI dd v0 < rr \/ (bI dd v0 = rr /\ aM dd v0 <= u0)) := fun h => A (ht.1 h);have n1 : ¬ (bI dd v0 < rr) := fun h => hc (.inl h);have t3 : decide (((bI dd v0 : Nat) : Int) < (rr : Int)) = false := by
         simp; omega
        have HA := H5 A';clear A A' ht;by_cases B1 : bI dd v0 = rr
        . have t4 : (((bI dd v0 : Nat) : Int) == (rr : Int)) = true := by rw [B1]; simp
          have n2 : ¬ (aM dd v0 <= u0) := fun h => hc (.inr ⟨B1, h⟩);have t5 : decide (((aM dd v0 : Nat) : Int) <= (u0 : Int)) = false := by
           simp; omega
          have HB1 := H5 B1;clear hc B1;by_cases ho : aY rr u2 0 = 0
          . have t2 : (((aY rr u2 0 : Nat) : Int) != 0) = false := by rw [ho]; rfl
            have Ho := H5 ho; clear ho;go_wp2_with (first
             | (go_at_call 120; refine (dQ _ _ hdd H0.out _).mono ?_; rintro e w' ⟨rfl, rfl⟩)
             | (with_reducible show wpList _ _ _ (⟨some 62, _, _, _, _, _⟩ :: _) _ _; refine cI rfl _ _ _ _ rfl rr u2 0 Cp rfl rfl rfl rfl rfl rfl ?_))
            go_round
            case rel => exact ⟨dd - 1, _, by go_num, rfl, Hi.out.next Hv.out HA.out Ho.out⟩
            case measure => simp [intOf]; omega
          . have t2 : (((aY rr u2 0 : Nat) : Int) != 0) = true := by rw [bne_iff_ne]; omega
            have Ho := H5 ho; clear ho;go_wp2_with (first
             | (go_at_call 120; refine (dQ _ _ hdd H0.out _).mono ?_; rintro e w' ⟨rfl, rfl⟩)
             | (with_reducible show wpList _ _ _ (⟨some 62, _, _, _, _, _⟩ :: _) _ _; refine cI rfl _ _ _ _ rfl rr u2 0 Cp rfl rfl rfl rfl rfl rfl ?_))
            try rw [Exit.noGoto_ret]
            go_ret;exact ⟨by rw [<- Hi.out.over Hv.out H0.out HA.out Ho.out]; rw [(by omega : ((dd - 1 : Nat) : Int) = (dd : Int) - 1)]; rfl, 0, rfl⟩
        . have t4 : (((bI dd v0 : Nat) : Int) == (rr : Int)) = false := by rw [beq_eq_false_iff_ne]; omega
          clear hc B1;by_cases ho : aY rr u2 0 = 0
          . have t2 : (((aY rr u2 0 : Nat) : Int) != 0) = false := by rw [ho]; rfl
            have Ho := H5 ho; clear ho;go_wp2_with (first
             | (go_at_call 120; refine (dQ _ _ hdd H0.out _).mono ?_; rintro e w' ⟨rfl, rfl⟩)
             | (with_reducible show wpList _ _ _ (⟨some 62, _, _, _, _, _⟩ :: _) _ _; refine cI rfl _ _ _ _ rfl rr u2 0 Cp rfl rfl rfl rfl rfl rfl ?_))
            go_round
            case rel => exact ⟨dd - 1, _, by go_num, rfl, Hi.out.next Hv.out HA.out Ho.out⟩
            case measure => simp [intOf]; omega
          . have t2 : (((aY rr u2 0 : Nat) : Int) != 0) = true := by rw [bne_iff_ne]; omega
            have Ho := H5 ho; clear ho;go_wp2_with (first
             | (go_at_call 120; refine (dQ _ _ hdd H0.out _).mono ?_; rintro e w' ⟨rfl, rfl⟩)
             | (with_reducible show wpList _ _ _ (⟨some 62, _, _, _, _, _⟩ :: _) _ _; refine cI rfl _ _ _ _ rfl rr u2 0 Cp rfl rfl rfl rfl rfl rfl ?_))
            try rw [Exit.noGoto_ret]
            go_ret;exact ⟨by rw [<- Hi.out.over Hv.out H0.out HA.out Ho.out]; rw [(by omega : ((dd - 1 : Nat) : Int) = (dd : Int) - 1)]; rfl, 0, rfl⟩
   . have t2 : (((aY u1 u2 0 : Nat) : Int) != 0) = true := by rw [bne_iff_ne]; omega
     have Ho := H5 ho; clear ho;go_wp2_with (with_reducible show wpList _ _ _ (⟨some 25, _, _, _, _, _⟩ :: _) _ _; refine cI rfl _ _ _ _ rfl u1 u2 0 Cp rfl rfl rfl rfl rfl rfl ?_)
     try rw [Exit.noGoto_ret]
     go_ret;exact ⟨by rw [<- tO Hv.out H0.out Ho.out, HW'.out]; rfl, 0, rfl⟩
structure rp (us vs cu qs : List Nat) (n k : Nat) : Prop where
 same : ∀ i, i < k -> gw cu i = gw us i
 val : ae (qs.drop k) * ae vs + sv cu k n = ae (us.drop k)
 lt : sv cu k n < ae vs
theorem Cm (l : List Nat) (o : Nat) : sv l o 1 = gw l o := by
 have := cP l o 0;rw [j1] at this;simpa using this
theorem rp.seg {us vs cu qs : List Nat} {n j : Nat} (h : rp us vs cu qs n (j + 1)) (hok : Ok cu) : sv cu j (n + 1) = gw us j + W * sv cu (j + 1) n /\ sv cu j (n + 1) < W * ae vs := by
 have e : sv cu j (n + 1) = gw us j + W * sv cu (j + 1) n := by
  rw [Ez n 1, lU, Cm, Nat.pow_one, h.same j Cp]
 refine ⟨e, ?_⟩;have h1 : W * (sv cu (j + 1) n + 1) <= W * ae vs := CD _ h.lt;have h2 := hok.gw j;rw [h.same j Cp] at h2;rw [CA] at h1;omega
theorem uk {cu vs : List Nat} {n j : Nat} (hc : Ok cu) (hv : Ok vs) (hlen : vs.length = n + 2) (htop : 9223372036854775808 <= gw vs (n + 1)) (hS : sv cu j (n + 3) < W * ae vs) :
 gw cu (j + (n + 2)) <= gw vs (n + 1) /\
 sv cu j (n + 3) / ae vs <= gq (gw cu (j + (n + 2))) (gw cu (j + (n + 1))) (gw cu (j + n)) (gw vs (n + 1)) (gw vs n) /\
 gq (gw cu (j + (n + 2))) (gw cu (j + (n + 1))) (gw cu (j + n)) (gw vs (n + 1)) (gw vs n) <= sv cu j (n + 3) / ae vs + 1 := by
 have eS : sv cu j (n + 3) = sv cu j n + W ^ n * ((gw cu (j + (n + 2)) * W + gw cu (j + (n + 1))) * W + gw cu (j + n)) := by
  have p2 : W ^ (n + 2) = W ^ n * W * W := by rw [Dd, Dd]
  have p1 : W ^ (n + 1) = W ^ n * W := by rw [Dd]
  rw [cP, cP, cP, p2, p1, CA, CY, CA];have e1 : W ^ n * W * W * gw cu (j + (n + 2)) = W ^ n * (gw cu (j + (n + 2)) * W * W) := by
   rw [CN, CN]; congr 1; rw [<- CN, CE, CN]
  have e2 : W ^ n * W * gw cu (j + (n + 1)) = W ^ n * (gw cu (j + (n + 1)) * W) := by
   rw [CN, CE W]
  omega
 have eV : ae vs = sv vs 0 n + W ^ n * (gw vs (n + 1) * W + gw vs n) := by
  rw [<- fw vs, hlen, cP, cP, Db, Db, Dd, CA];have e2 : W ^ n * W * gw vs (n + 1) = W ^ n * (gw vs (n + 1) * W) := by
   rw [CN, CE W]
  omega
 have lS := n9 hc j n;have lV := n9 hv 0 n;have hP : 0 < W ^ n := DF bw;have b0 := hc.gw (j + n);have b1 := hc.gw (j + (n + 1));have c0 := hv.gw n;have c1 := hv.gw (n + 1);generalize gw cu (j + (n + 2)) = u2 at *;generalize gw cu (j + (n + 1)) = u1 at *;generalize gw cu (j + n) = u0 at *;generalize gw vs (n + 1) = v1 at *;generalize gw vs n = v0 at *;generalize sv cu j (n + 3) = S at *;generalize ae vs = V at *;generalize sv cu j n = sl at *;generalize sv vs 0 n = vl at *;generalize W ^ n = P at *;have hU : ∀ m, m * (v1 * W + v0) <= (u2 * W + u1) * W + u0 ↔ P * (m * (v1 * W + v0)) <= P * ((u2 * W + u1) * W + u0) := fun m => ⟨CD P, fun h => Nat.le_of_mul_le_mul_left h hP⟩;have hV2 : 0 < v1 * W + v0 := by have := Fi (by omega : 0 < v1) bw; omega
 have hVp : 0 < V := by have := Fi hP hV2; omega
 have hVu : V < P * (v1 * W + v0 + 1) := by rw [CA]; omega
 refine ⟨?_, ?_, ?_⟩
 . refine Df fun hn => ?_;have h1 : (v1 + 1) * W * W <= u2 * W * W := Cy _ (Cy _ Cp);have h2 : (v1 * W + v0 + 1) * W <= (v1 + 1) * W * W := Cy _ (by rw [CY]; omega);have h3 : (v1 * W + v0 + 1) * W <= (u2 * W + u1) * W + u0 := by rw [CY (u2 * W)]; omega
   have h4 := CD P h3;have h5 : W * V <= W * (P * (v1 * W + v0 + 1)) := CD _ (Dg hVu);have h6 : W * (P * (v1 * W + v0 + 1)) = P * ((v1 * W + v0 + 1) * W) := by rw [Dy, CE W]
   omega
 . unfold gq;refine Nat.le_min.2 ⟨?_, ?_⟩
   . have : S / V < W := by rw [Dj hVp]; exact hS
     omega
   . rw [Ep hV2];have h1 : S / V * V <= S := Nat.div_mul_le_self S V;generalize S / V = q at *;have h2 : q * (P * (v1 * W + v0)) <= q * V := CD _ Cp;have h3 : P * (q * (v1 * W + v0)) < P * ((u2 * W + u1) * W + u0 + 1) := by
      rw [Dy P q, CA P _ 1]; omega
     have := D2 h3;omega
 . have hd1 : gq u2 u1 u0 v1 v0 * (v1 * W + v0) <= (u2 * W + u1) * W + u0 := by
    rw [<- Ep hV2]; exact Nat.min_le_right ..
   have hd2 : gq u2 u1 u0 v1 v0 <= W - 1 := E5 ..;generalize gq u2 u1 u0 v1 v0 = d at *;rcases Dn d with h0 | h0
   . rw [h0]; exact Cx _
   obtain ⟨c, rfl⟩ : ∃ c, d = c + 1 := ⟨d - 1, by omega⟩;refine Nat.succ_le_succ ?_;rw [Ep hVp];have h1 := CD P hd1;have h2 : (c + 1) * V <= (c + 1) * (P * (v1 * W + v0 + 1)) := CD _ (Dg hVu);have h3 : (c + 1) * (P * (v1 * W + v0 + 1)) = P * ((c + 1) * (v1 * W + v0)) + P * (c + 1) := by
    rw [Dy, <- CA, CA (c + 1), Ee]
   have h4 : P * (c + 1) <= P * W := CD _ (by have := bw; omega);have h5 : P * W <= P * (v1 * W + v0) := CD _ (by have : 1 * W <= v1 * W := Cy _ Cp; omega);rw [CY c 1 V, ER] at h2;omega
theorem took {S V d t P l : Nat} (hP : S / V <= d) (hP2 : d <= S / V + 1) (hV : 0 < V) (he : t + d * V = S + P * l) (ht : t < P) (hl : l <= 1) : (l = 0 -> d = S / V /\ t = S % V) /\ (l ≠ 0 -> d = S / V + 1) := by
 have e := Ds S V;have hm := Dm S hV;generalize S / V = q at *;generalize S % V = r at *;rw [CE V q] at e;constructor
 . rintro rfl;have : d = q := by
    refine Df fun hn => ?_;have : d = q + 1 := by omega
    subst this;rw [CY] at he; omega
   subst this;exact ⟨rfl, by omega⟩
 . intro h;have : l = 1 := by omega
   subst this;refine Df fun hn => ?_;have : d = q := by omega
   subst this;omega
theorem gave {S V d t t2 P cr : Nat} (hd : d = S / V + 1) (hV : 0 < V) (he : t + d * V = S + P * 1) (ht2 : t2 < P) (hVP : V <= P) (hg : t2 + P * cr = t + V) : d - 1 = S / V /\ t2 = S % V := by
 have e := Ds S V;have hm := Dm S hV;generalize S / V = q at *;generalize S % V = r at *;rw [CE V q] at e;subst hd;rw [CY] at he;refine ⟨by omega, ?_⟩;have h1 : t2 + P * cr = r + P := by omega
 have h2 : cr = 1 := by
  rcases Dl cr 1 with h | h | h
  . have : cr = 0 := by omega
    subst this; omega
  . exact h
  . have : P * 2 <= P * cr := CD _ h;omega
 subst h2;omega
theorem rp.next {us vs cu cu' qs : List Nat} {n j d : Nat} (h : rp us vs cu qs n (j + 1)) (hok : Ok cu) (hok' : Ok cu') (hvs : Ok vs) (hlen : vs.length = n) (hj : j < qs.length) (hd : d = sv cu j (n + 1) / ae vs)
 (hs : ∀ i, i < j -> gw cu' i = gw cu i) (hr : sv cu' j (n + 1) = sv cu j (n + 1) % ae vs) : d < W /\ rp us vs cu' (qs.set j d) n j := by
 obtain ⟨e1, e2⟩ := h.seg hok;have hVp : 0 < ae vs := by have := h.lt; omega
 have hVW : ae vs < W ^ n := by rw [<- hlen]; exact dt hvs
 have hm := Dm (sv cu j (n + 1)) hVp;have e3 := Ds (sv cu j (n + 1)) (ae vs);have hz : sv cu' j n = sv cu j (n + 1) % ae vs := by
  have := cP cu' j n;rw [hr] at this;have h0 : gw cu' (j + n) = 0 := by
   refine Df fun hn => ?_;have : W ^ n * 1 <= W ^ n * gw cu' (j + n) := CD _ Cp;omega
  rw [h0] at this; omega
 refine ⟨by rw [hd, Dj hVp]; exact e2, fun i hi => by rw [hs i hi, h.same i Cp], ?_, by rw [hz]; exact hm⟩;rw [ki hj, hz, fZ us j, <- h.val, CY, hd, CA W, <- CN];rw [CE (ae vs)] at e3;omega
theorem tI {X Y s n m : Nat} {us vs : List Nat} (hu : ae us = 2 ^ s * X) (hv : ae vs = 2 ^ s * Y) (hul : us.length = m + 1) (hX : X < W ^ m) (hn : 1 <= n) (hnm : n <= m) (hok : Ok us) (hs : s < 64)
 (htop : W ^ (n - 1) * 9223372036854775808 <= ae vs) (qs : List Nat) (hq : qs.length = m - n + 1) : rp us vs us qs n (m - n + 1) := by
 have e1 : sv us (m - n + 1) n = ae (us.drop (m - n + 1)) := by
  have := Ak us (m - n + 1);rw [hul] at this;rw [<- this]; congr 1; omega
 refine ⟨fun _ _ => rfl, ?_, ?_⟩
 . rw [Ej (by omega : qs.length <= m - n + 1)];rw [e1]; simp [ae]
 . rw [e1];refine CK ?_ htop;have h1 : ae us = ae (us.take (m - n + 1)) + W ^ (m - n + 1) * ae (us.drop (m - n + 1)) := eT us _ Cp;have h2 : ae us < 2 ^ s * W ^ m := by rw [hu]; exact DU hX (Eb s)
   have h3 : 2 ^ s * W ^ m <= 9223372036854775808 * W ^ m := Cy _ (by
    have : 2 ^ s <= 2 ^ 63 := CU Cp Cp;exact this)
   have h4 : W ^ m = W ^ (m - n + 1) * W ^ (n - 1) := by rw [<- DR]; congr 1; omega
   have h5 : W ^ (m - n + 1) * ae (us.drop (m - n + 1)) < W ^ (m - n + 1) * (W ^ (n - 1) * 9223372036854775808) := by
    rw [<- CN, <- h4, CE (W ^ m)]; omega
   exact D2 h5
theorem yk {X Y s n : Nat} {us vs cu qs : List Nat} (h : rp us vs cu qs n 0) (hu : ae us = 2 ^ s * X) (hv : ae vs = 2 ^ s * Y) : ae qs = X / Y /\ ae (cu.take n) / 2 ^ s = X % Y := by
 have h1 := h.val;have h2 := h.lt;rw [List.drop_zero, List.drop_zero, hu, hv, mY] at h1;rw [hv, mY] at h2;have hp : 0 < 2 ^ s := Eb s;have hY : 0 < Y := by
  rcases Dn Y with h0 | h0
  . subst h0; omega
  . exact h0
 have hd : 2 ^ s ∣ ae (cu.take n) := by
  have hA : 2 ^ s ∣ ae qs * (2 ^ s * Y) := ⟨ae qs * Y, by rw [Dy]⟩;have hB : 2 ^ s ∣ ae qs * (2 ^ s * Y) + ae (cu.take n) := by rw [h1]; exact ⟨X, rfl⟩
  exact (Nat.dvd_add_right hA).1 hB
 obtain ⟨r, hr⟩ := hd;rw [hr, Nat.mul_div_cancel_left _ hp];rw [hr] at h1 h2;have hrY : r < Y := D2 h2;have hX : ae qs * Y + r = X := by
  have e : 2 ^ s * (ae qs * Y + r) = 2 ^ s * X := by rw [CA, <- h1, Dy]
  exact Nat.eq_of_mul_eq_mul_left hp e
 subst hX;constructor
 . rw [Ez, E9 _ _ hY, D0 hrY, Db]
 . rw [Ez, Nat.add_mul_mod_self_right, Dk hrY]
theorem Shr_c (ao : Option Addr) (len cap : Nat) (ws : List Nat) (s : Nat) (w : World) (hA : cX w ao ws) (hl : len = ws.length) (hm : len <= 17592186044416) (hs : s < 64) :
 Calls Tryz.prog 129 #[.slice ao len cap, .int .i64 (s : Int)] w fun e w' =>
  (∃ ao' cap', e = .returned (.tuple #[.slice ao' (ag (ae ws / 2 ^ s)) cap', .int .i64 0]) /\ db w' w.heap.size ao' (ag (ae ws / 2 ^ s)) cap' (fM (ae ws / 2 ^ s))) /\ Below w.heap.size w w' := by
 subst hl;have htA := aK ws;have hmA' : ws.length <= maxLen := by unfold maxLen; omega
 have HA := H5 hmA'; clear hmA';have d1 : (s : Int) / 64 = 0 := by omega
 have d2 : (s : Int) % 64 = (s : Int) := by omega
 have d3 : decide ((s : Int) < 0) = false := by simp
 by_cases h0 : aw ws = 0
 . have hb : decide ((aw ws : Int) <= 0) = true := by simp [h0]
   have H0 := H5 h0; clear h0;go_enter Tryz.func129, Tryz.ntmps129;go_wp2_with (go_at_call 81; refine (dN _ _ _ ws _ hA rfl HA.out).mono ?_; rintro e w' ⟨rfl, rfl⟩)
   go_ret2;have e : ae ws / 2 ^ s = 0 := by rw [(gd hA.ok).1 H0.out, Nat.zero_div]
   rw [e, bb, ea];exact ⟨⟨none, 0, rfl, db.nil _ _⟩, Below.refl _ _⟩
 . have hb : decide ((aw ws : Int) <= 0) = false := by simp; omega
   have i1 : 1 <= aw ws := by omega
   have H0 := H5 h0; clear h0;go_enter Tryz.func129, Tryz.ntmps129;go_wp2_with (first
    | (go_at_call 81; refine (dN _ _ _ ws _ hA rfl HA.out).mono ?_; rintro e w' ⟨rfl, rfl⟩)
    | (at_make; refine ez rfl _ _ rfl (aw ws) (aw ws) rfl rfl rfl rfl (Ct _) Cp ?_; intro b w1 hm1))
   have hB1 : w.heap.size <= b := DJ hm1.at_.symm;go_loopw [29] (fun i wr => ∃ (k : Nat) (ls : List Nat), k <= aw ws /\ i = .int .i64 k /\ ls.length = aw ws /\ Ok ls /\ aa wr b 60 (ls.map wv) /\ Below w.heap.size w wr /\
    Hid (ae (ls.take k) = ae ws / 2 ^ s % W ^ k)) (fun i _ => aw ws - (intOf i).toNat)
   case atStart => exact ⟨0, _, Cx _, rfl, by simp, Ok.replicate _, hm1.row, hm1.below, H5 (by simp [ae, Nat.mod_one])⟩
   case round =>
    obtain ⟨k, ls, hk, rfl, hll, hok, hrow, hbl, Heq⟩ := hrel;have Hll := H5 hll; clear hll;by_cases hlt : k < aw ws
    . obtain ⟨b1, o1, rfl, hb1, hc1⟩ := (hA.below hbl).pos Cp;have e1 := hc1 k Cp;have hcell := hrow.word (i := k) (by have := Hll.out; omega);have hfree := hrow.free k;by_cases hlt2 : k + 1 < aw ws
      . have e2 := hc1 (k + 1) Cp;clear hc1;have t1 : decide ((k : Int) + 1 < (aw ws : Int)) = true := by simp; omega
        go_wp2
        go_region
        go_wp2;go_roundw
        case rel =>
         have hx : gw ws k / 2 ^ s < W := CT (Ec ..) (hA.ok.gw k);have hv : (gw ws k / 2 ^ s) ||| (gw ws (k + 1) * 2 ^ (64 - s) % W) < W := by rw [y3 hA.ok hs]; exact jw _
         refine ⟨k + 1, (ls.set k (gw ws k / 2 ^ s)).set k ((gw ws k / 2 ^ s) ||| (gw ws (k + 1) * 2 ^ (64 - s) % W)), by omega, by go_num, by rw [CL, CL]; exact Hll.out, (hok.set _ _ hx).set _ _ hv, ?_, ?_, ?_⟩
         . have := (hrow.da k (gw ws k / 2 ^ s)).da k ((gw ws k / 2 ^ s) ||| (gw ws (k + 1) * 2 ^ (64 - s) % W));rw [xM, sL, or_cast _ _ hx (jw _)];exact this
         . exact (((hbl.setCell hB1 _).drew)).setCell hB1 _
         . refine H5 ?_;have hk' : k < ls.length := by have := Hll.out; omega
           rw [dJ (by rw [CL]; exact hk'), ks, Heq.out, y3 hA.ok hs, <- ka]
        case measure => simp [intOf]; omega
      . have t1 : decide ((k : Int) + 1 < (aw ws : Int)) = false := by simp; omega
        clear hc1;go_wp2;go_roundw
        case rel =>
         have hx : gw ws k / 2 ^ s < W := CT (Ec ..) (hA.ok.gw k);refine ⟨k + 1, ls.set k (gw ws k / 2 ^ s), by omega, by go_num, by rw [CL]; exact Hll.out, hok.set _ _ hx, ?_, ?_, ?_⟩
         . have := hrow.da k (gw ws k / 2 ^ s);rw [sL];exact this
         . exact hbl.setCell hB1 _
         . refine H5 ?_;have hk' : k < ls.length := by have := Hll.out; omega
           have hz : gw ws (k + 1) = 0 := ja Cp;have e := rS hA.ok hs k;rw [hz, Fg, Nat.zero_mod, Ea] at e;rw [dJ hk', Heq.out, e, <- ka]
        case measure => simp [intOf]; omega
    . have ek : k = aw ws := by omega
      subst ek;have hv : ae ls = ae ws / 2 ^ s := by
       have e1 := Heq.out;rw [CJ (by have := Hll.out; omega), Dk] at e1
       . exact e1
       . refine CT (Ec ..) ?_;rw [<- bH hA.ok];have := dt (hA.ok.take (aw ws))
         rwa [CZ, DD htA] at this
      have Hfin := H5 (lQ hrow hok (B := w.heap.size) hB1 Hll.out Cp hv);have Hs1 := H5 (hrow.mJ hok);have hmx : aw ws <= maxLen := by unfold maxLen; omega
      have Hmx := H5 hmx;clear hmx hv;have l3 := aK ls;rw [Hll.out] at l3;go_wp2_with (go_at_call 81; (with_reducible refine (dN _ _ _ ls _ Hs1.out Hll.out.symm Hmx.out).mono ?_); rintro e w' ⟨rfl, rfl⟩)
      go_ret2;obtain ⟨q1, q2⟩ := Hfin.out;refine ⟨⟨_, _, ?_, q2⟩, hbl⟩;rw [<- q1]; rfl
theorem s5 {cu vs : List Nat} {N j : Nat} (hN : 2 <= N) (hc : Ok cu) (hv : Ok vs) (hlen : vs.length = N) (htop : 9223372036854775808 <= gw vs (N - 1)) (hS : sv cu j (N + 1) < W * ae vs) :
 gw cu (j + N) <= gw vs (N - 1) /\
 sv cu j (N + 1) / ae vs <= gq (gw cu (j + N)) (gw cu (j + N - 1)) (gw cu (j + N - 2)) (gw vs (N - 1)) (gw vs (N - 2)) /\
 gq (gw cu (j + N)) (gw cu (j + N - 1)) (gw cu (j + N - 2)) (gw vs (N - 1)) (gw vs (N - 2)) <= sv cu j (N + 1) / ae vs + 1 := by
 obtain ⟨n, rfl⟩ : ∃ n, N = n + 2 := ⟨N - 2, by omega⟩;exact uk hc hv hlen htop hS
theorem gq_lt (u2 u1 u0 v1 v0 : Nat) : gq u2 u1 u0 v1 v0 <= 18446744073709551615 := Cw (E5 ..) (by unfold W; omega)
theorem BH (aoA aoB : Option Addr) (m N cA cB : Nat) (xs ys : List Nat) (w : World) (hA : cX w aoA xs) (hB : cX w aoB ys) (hlA : m = xs.length) (hlB : N = ys.length) (hm : m <= 17592186044415) (hN : 2 <= N) (hNm : N <= m) (htop : gw ys (N - 1) ≠ 0) :
 Calls Tryz.prog 107 #[.slice aoA m cA, .slice aoB N cB] w fun e w' =>
  (∃ aq cq ar cr, e = .returned (.tuple #[.slice aq (ag (ae xs / ae ys)) cq, .slice ar (ag (ae xs % ae ys)) cr]) /\ db w' w.heap.size aq (ag (ae xs / ae ys)) cq (fM (ae xs / ae ys)) /\
   db w' w.heap.size ar (ag (ae xs % ae ys)) cr (fM (ae xs % ae ys))) /\ Below w.heap.size w w' := by
 obtain ⟨s, hs, hsl, hy1, hy2⟩ := nB htop (hB.ok.gw _);have Hsl := H5 hsl; clear hsl;have hyb : ((gw ys (N - 1) : Nat) : Int) <= 18446744073709551615 := by have := hB.ok.gw (N - 1); unfold W at this; omega
 have Hyb := H5 hyb; clear hyb;have Htop := H5 htop; clear htop;have HlA := H5 hlA; clear hlA;have HlB := H5 hlB; clear hlB;obtain ⟨b2, o2, rfl, hb2, hc2⟩ := hB.pos (by have := HlB.out; omega);have ey := hc2 (N - 1) (by have := HlB.out; omega);clear hc2;have hs64 : (s : Int) < 64 := by omega
 have hm1 : ((m + 1 : Nat) : Int) = (m : Int) + 1 := by omega
 have Hm1 := H5 hm1; clear hm1;have hY0 : ae ys = sv ys 0 (N - 1) + W ^ (N - 1) * gw ys (N - 1) := by
  have h1 := fw ys;rw [<- HlB.out, (by omega : N = N - 1 + 1), cP] at h1;rw [<- h1, Db]
 have hYfit : 2 ^ s * ae ys < W ^ N := by
  have h1 := n9 hB.ok 0 (N - 1);have h2 : ae ys < W ^ (N - 1) * (gw ys (N - 1) + 1) := by rw [CA]; omega
  have h3 : gw ys (N - 1) < 2 ^ (64 - s) := by
   rw [jT (by omega : s <= 64)] at hy2;exact Nat.lt_of_mul_lt_mul_right hy2
  have h4 : 2 ^ s * (W ^ (N - 1) * (gw ys (N - 1) + 1)) <= W ^ (N - 1) * W := by
   rw [Dy];refine CD _ ?_;have h5 : 2 ^ s * (gw ys (N - 1) + 1) <= 2 ^ s * 2 ^ (64 - s) := CD _ h3;rw [jT (by omega : s <= 64), CE (2 ^ (64 - s))]; exact h5
  have h6 : 2 ^ s * ae ys < 2 ^ s * (W ^ (N - 1) * (gw ys (N - 1) + 1)) := DU h2 (Eb s);have h7 : W ^ N = W ^ (N - 1) * W := by rw [<- Dd]; congr 1; omega
  omega
 have hXfit : 2 ^ s * ae xs < W ^ (m + 1) := by
  have h1 := dt hA.ok;rw [<- HlA.out] at h1;have h2 : 2 ^ s * ae xs < 2 ^ s * W ^ m := DU h1 (Eb s);have h3 : 2 ^ s * W ^ m <= W * W ^ m := Cy _ (by rw [yn]; exact CU Cp Cp);rw [Dd, CE (W ^ m)]; omega
 go_enter Tryz.func107, Tryz.ntmps107;go_wp2_with (go_at_call 124; refine (Tryz.bits_LeadingZeros64 _ _ Cp Hyb.out).mono ?_; rintro e w' ⟨rfl, hw'⟩; obtain rfl := hw'.symm; simp only [Ex]; rw [Hsl.out])
 refine (oM (some ⟨b2, o2, none⟩) N cB ys s N _ hB HlB.out Cp hs Cp (Ct _) hYfit).mono ?_;rintro e w1 ⟨bv, vs, rfl, hNv, hvl, hvv⟩;have hA1 := hA.below hNv.below;have hsh := oM aoA m cA xs s (m + 1) w1 hA1 HlA.out Cp hs Cp Cp hXfit;rw [Hm1.out] at hsh;go_wp2_with fail
 refine hsh.mono ?_;rintro e w2 ⟨bu, us, rfl, hNu, hul, huv⟩;clear hsh;have hbv : bv < w1.heap.size := hNv.row.lt;have hvu : bv ≠ bu := by have := hNu.ge; omega
 have hrv2 : aa w2 bv 60 (vs.map wv) := hNv.row.below hNu.below hbv;have hbu : bu < w2.heap.size := hNu.row.lt;have hb12 : Below w.heap.size w w2 := hNv.below.trans (hNu.below.mono hNv.below.size);go_wp2_with (at_make; refine ez rfl _ _ rfl (m - N + 1) (m - N + 1) rfl rfl Cp Cp (Ct _) Cp ?_; intro bq w3 hm3)
 have hu : bu ≠ bq := by have := hm3.at_; omega
 have hv : bv ≠ bq := by have := hm3.at_; have := hNu.below.size; omega
 have hBu : w.heap.size <= bu := by have := hNu.ge; have := hNv.below.size; omega
 have hBq : w.heap.size <= bq := by have := hm3.at_; have := hb12.size; omega
 have hb13 : Below w.heap.size w w3 := hb12.trans (hm3.below.mono hb12.size);have hrv3 := hrv2.below hm3.below (by have := hNu.below.size; omega);have hru3 := hNu.row.below hm3.below hbu;have hvlow : W ^ (N - 1) * 9223372036854775808 <= ae vs := by
  have h1 : W ^ (N - 1) * 9223372036854775808 <= W ^ (N - 1) * (gw ys (N - 1) * 2 ^ s) := CD _ hy1;rw [hvv, hY0, CA, Dy (2 ^ s), CE (2 ^ s) (gw ys (N - 1))];omega
 have hvtop : 9223372036854775808 <= gw vs (N - 1) := by
  have h1 := fw vs;rw [hvl, (by omega : N = N - 1 + 1), cP, Db] at h1;have h2 := n9 hNv.ok 0 (N - 1);have h3 : W ^ (N - 1) * 9223372036854775808 < W ^ (N - 1) * (gw vs (N - 1) + 1) := by rw [CA]; omega
  have := D2 h3;omega
 have hXW : ae xs < W ^ m := by have := dt hA.ok; rw [<- HlA.out] at this; exact this
 have Hst := H5 (tI huv hvv hul hXW (by omega : 1 <= N) hNm hNu.ok hs hvlow (List.replicate (m - N + 1) 0) Cq);have Hvtop := H5 hvtop; clear hvtop hvlow;have Hhuv := H5 huv; clear huv;have Hhvv := H5 hvv; clear hvv;have Hvl := H5 hvl; clear hvl;have Hul := H5 hul; clear hul;have HY0 := H5 hY0; clear hY0;have Hx := H5 hXfit; clear hXfit;have Hy := H5 hYfit; clear hYfit;have Hy1 := H5 hy1; clear hy1;have Hy2 := H5 hy2; clear hy2;have hNvo := H5 hNv.ok;clear hNv hA1 hrv2 ey;go_wp2;go_loopw [11] (fun i wr => ∃ (k : Nat) (cu qs : List Nat), k <= m - N + 1 /\ i = .int .i64 ((k : Int) - 1) /\ aa wr bv 60 (vs.map wv) /\ aa wr bu 60 (cu.map wv) /\ aa wr bq 60 (qs.map wv) /\ Ok cu /\ Ok qs /\ Hid (cu.length = m + 1) /\ Hid (qs.length = m - N + 1) /\
  Below w.heap.size w wr /\ Hid (rp us vs cu qs N k)) (fun i _ => (intOf i + 1).toNat)
 case atStart => exact ⟨m - N + 1, us, List.replicate (m - N + 1) 0, Ct _, by go_num, hrv3, hru3, hm3.row, hNu.ok, Ok.replicate _, Hul, H5 Cq, hb13, Hst⟩
 case round =>
  obtain ⟨k, cu, qs, hk, hi, hrv, hru, hrq, hoku, hokq, Hcl, Hql, hb, HI⟩ := hrel;rcases k with _ | j
  . have e : ((0 : Nat) : Int) - 1 = -1 := by omega
    rw [e] at hi;subst hi;obtain ⟨hq1, hr1⟩ := yk HI.out Hhuv.out Hhvv.out;have Hq1 := H5 hq1; clear hq1;have Hr1 := H5 hr1; clear hr1;have hNl : N = (cu.take N).length := by rw [CZ, Hcl.out, DD Cp]
    have HNl := H5 hNl; clear hNl;go_wp2_with fail
    refine (Shr_c _ _ _ (cu.take N) s _ ((hru.mJ hoku).take N) HNl.out Cp hs).mono ?_;rintro e w4 ⟨⟨ar, cr, rfl, h1⟩, h2⟩;have hbq : bq < wr.heap.size := hrq.lt;have hrq4 := hrq.below h2 hbq;rw [Hr1.out] at h1 |-;have H1 := H5 h1; clear h1;go_wp2_with fail
    refine (fa _ _ _ qs _ (hrq4.mJ hokq) Hql.out.symm Cp).mono ?_;rintro e w5 ⟨⟨aq, cq, rfl, h3⟩, h4⟩;rw [Hq1.out] at h3 |-;go_wp2;go_ret2;exact ⟨⟨aq, cq, ar, cr, rfl, h3.mono (Cw hb.size h2.size), (H1.out.mono hb.size).below h4⟩, (hb.trans (h2.mono hb.size)).trans (h4.mono (Cw hb.size h2.size))⟩
  . have e : ((j + 1 : Nat) : Int) - 1 = (j : Int) := by omega
    rw [e] at hi;subst hi;have c1 := hru.word (i := j + N) (by have := Hcl.out; omega);have c2 := hru.word (i := j + N - 1) (by have := Hcl.out; omega);have c3 := hru.word (i := j + N - 2) (by have := Hcl.out; omega);have c4 := hrv.word (i := N - 1) (by have := Hvl.out; omega);have c5 := hrv.word (i := N - 2) (by have := Hvl.out; omega);have b1 : (j : Int) + (N : Int) < (m : Int) + 1 := by omega
    have hnear := s5 (j := j) hN hoku hNvo.out Hvl.out Hvtop.out (HI.out.seg hoku).2;have Hnear := H5 hnear; clear hnear;have hg : ∀ wx, Calls Tryz.prog 126 #[.int .u64 ((gw cu (j + N) : Nat) : Int), .int .u64 ((gw cu (j + N - 1) : Nat) : Int), .int .u64 ((gw cu (j + N - 2) : Nat) : Int), .int .u64 ((gw vs (N - 1) : Nat) : Int), .int .u64 ((gw vs (N - 2) : Nat) : Int)] wx
     fun e w' => e = .returned (.int .u64 ((gq (gw cu (j + N)) (gw cu (j + N - 1)) (gw cu (j + N - 2)) (gw vs (N - 1)) (gw vs (N - 2)) : Nat) : Int)) /\ ∃ m, w' = wx.drewN m :=
     fun wx => zY _ _ _ _ _ wx (by have := Hvtop.out; omega) (hNvo.out.gw _) (hNvo.out.gw _) Hnear.out.1 (hoku.gw _) (hoku.gw _)
    generalize hdd : gq (gw cu (j + N)) (gw cu (j + N - 1)) (gw cu (j + N - 2)) (gw vs (N - 1)) (gw vs (N - 2)) = dd at *;have hdL : dd <= 18446744073709551615 := by rw [<- hdd]; exact gq_lt ..
    clear hdd;go_wp2
    go_quiet ((go_at_call 126; refine Calls.quiet_of (hg _)))
    go_wp2_with fail
    rw [(by omega : j + N + 1 - j = N + 1)];have hdW : dd < W := by unfold W; omega
    refine (Bo _ bu j _ _ N N vs cu dd _ (hru.drewN _) hoku rfl (by have := Hcl.out; omega) ((hrv.drewN _).mJ hNvo.out) (fun _ a ha => by cases ha; exact hvu) Hvl.out.symm (by have := Hcl.out; omega) hdW).mono ?_;rintro e w4 ⟨cu1, lent, rfl, hR1, hl1, hs1, he1⟩;have hbx : Below w.heap.size w (wr.drewN nq) := hb.grown (eI (World.grownBy.refl _ none) nq) hb.size (fun k e => by cases e);have hb4 := hR1.below hbx hBu hb.size;have hrv4 := (hrv.drewN nq).grown hR1.grown hvu;have hrq4 := (hrq.drewN nq).grown hR1.grown (fun e => hu e.symm);have hcl1 : Hid (cu1.length = m + 1) := H5 (by rw [hR1.len]; exact Hcl.out);have hVp : 0 < ae vs := by have := HI.out.lt; omega
    have ht1 := n9 hR1.ok j (N + 1);have htk := took Hnear.out.2.1 Hnear.out.2.2 hVp he1 ht1 hl1;have hVP : ae vs <= W ^ (N + 1) := by
     have h1 := dt hNvo.out;rw [Hvl.out] at h1;exact Cw (Dg h1) (CU bw Cp)
    have Hs1 := H5 hs1; clear hs1;have He1 := H5 he1; clear he1;have Htk := H5 htk; clear htk;have Ht1 := H5 ht1; clear ht1;have HVP := H5 hVP; clear hVP;have HVp := H5 hVp; clear hVp;by_cases hz : lent = 0
    . have hn := HI.out.next hoku hR1.ok hNvo.out Hvl.out (by have := Hql.out; omega : j < qs.length) (Htk.out.1 hz).1 (fun i hi => Hs1.out i (.inl hi)) (Htk.out.1 hz).2;have Hn := H5 hn; clear hn;have t1 : (((lent : Nat) : Int) != 0) = false := by rw [hz]; rfl
      clear hz;have hcell := hrq4.word (i := j) (by have := Hql.out; omega);have hfree := hrq4.free j;have i1 : (j : Int) < (m : Int) - (N : Int) + 1 := by omega
      go_wp2;go_roundw
      case rel =>
       exact ⟨j, _, _, by omega, by go_num, hrv4.other hv _, hR1.row.other hu _, hrq4.da j _, hR1.ok, hokq.set _ _ Hn.out.1, hcl1, H5 (by rw [CL]; exact Hql.out), hb4.setCell hBq _, H5 Hn.out.2⟩
      case measure => simp [intOf]
    . have t1 : (((lent : Nat) : Int) != 0) = true := by rw [bne_iff_ne]; omega
      have hd1 := Htk.out.2 hz;have hdp : 1 <= dd := by rw [hd1]; exact Nat.succ_le_succ (Cx _)
      have hl2 : lent = 1 := by omega
      subst hl2;have Hd1 := H5 hd1; clear hd1;clear hz;go_wp2_with fail
      rw [(by omega : j + N + 1 - j = N + 1)];refine (BO _ bu j _ _ N N vs cu1 _ hR1.row hR1.ok rfl (by have := hcl1.out; omega) (hrv4.mJ hNvo.out) (fun _ a ha => by cases ha; exact hvu) Hvl.out.symm (by have := hcl1.out; omega)).mono ?_;rintro e w5 ⟨rfl, cu2, cr, hR2, hs2, he2⟩;have hb5 := hR2.below hb4 hBu hb4.size;have hrv5 := hrv4.grown hR2.grown hvu;have hrq5 := hrq4.grown hR2.grown (fun e => hu e.symm);have hgv := gave Hd1.out HVp.out He1.out (n9 hR2.ok j (N + 1)) HVP.out he2;have hn := HI.out.next hoku hR2.ok hNvo.out Hvl.out (by have := Hql.out; omega : j < qs.length) hgv.1 (fun i hi => by rw [hs2 i (.inl hi)]; exact Hs1.out i (.inl hi)) hgv.2;have Hn := H5 hn; clear hn hgv hs2 he2;have hcell := hrq5.word (i := j) (by have := Hql.out; omega);have hfree := hrq5.free j;have i1 : (j : Int) < (m : Int) - (N : Int) + 1 := by omega
      have hce : (((dd - 1 : Nat)) : Int) = (dd : Int) - 1 := by omega
      go_wp2;go_roundw
      case rel =>
       rw [<- hce];exact ⟨j, _, _, by omega, by go_num, hrv5.other hv _, hR2.row.other hu _, hrq5.da j _, hR2.ok, hokq.set _ _ Hn.out.1, H5 (by rw [hR2.len]; exact hcl1.out), H5 (by rw [CL]; exact Hql.out), hb5.setCell hBq _, H5 Hn.out.2⟩
      case measure => simp [intOf]
theorem zP {y : Nat} (h : ag y = 1) : gw (fM y) 0 = y /\ y ≠ 0 /\ y < W := by
 have h0 : y ≠ 0 := fun e => by rw [e, bb] at h; omega
 have h1 := bF y;rw [h, Nat.pow_one] at h1;refine ⟨?_, h0, h1⟩;rw [iT h0]; simp [gw, List.getD_eq_getElem?_getD, Dk h1]
theorem zI {y : Nat} (h : y ≠ 0) : gw (fM y) (ag y - 1) ≠ 0 := by
 have h1 := x3 y;have h2 : aw (fM y) ≠ 0 := fun e => h ((gd (tR y)).1 e ▸ (dh y).symm);have := sj (fM y) h2;rw [h1] at this;exact this
theorem fA (y : Nat) : (fM y).length = ag y := rfl
theorem re (aoA aoB : Option Addr) (lA lB cA cB : Nat) (xs ys : List Nat) (w : World) (hA : cX w aoA xs) (hB : cX w aoB ys) (hlA : lA = xs.length) (hlB : lB = ys.length) (hmA : lA <= 17592186044415) (hmB : lB <= 17592186044415) (hY : ae ys ≠ 0) :
 Calls Tryz.prog 85 #[.slice aoA lA cA, .slice aoB lB cB] w fun e w' =>
  (∃ aq cq ar cr, e = .returned (.tuple #[.slice aq (ag (ae xs / ae ys)) cq, .slice ar (ag (ae xs % ae ys)) cr, .int .i64 0]) /\ db w' w.heap.size aq (ag (ae xs / ae ys)) cq (fM (ae xs / ae ys)) /\
   db w' w.heap.size ar (ag (ae xs % ae ys)) cr (fM (ae xs % ae ys))) /\ Below w.heap.size w w' := by
 subst hlA hlB;have hwA := ec hA.ok;have hwB := ec hB.ok;have t0 : ((ag (ae ys) : Int) == 0) = false := by
  rw [beq_eq_false_iff_ne];have : ag (ae ys) ≠ 0 := fun e => hY (dx.1 e);omega
 have hw0 : ag (ae ys) ≠ 0 := fun e => hY (dx.1 e);have HY := H5 hY; clear hY;go_enter Tryz.func85, Tryz.ntmps85;go_wp2_with fail
 refine (fa _ _ _ ys _ hB rfl Cp).mono ?_;rintro e w1 ⟨⟨ay, cy, rfl, hO1⟩, hb1⟩;by_cases h1 : ag (ae ys) = 1
 . have t1 : ((ag (ae ys) : Int) == 1) = true := by rw [h1]; rfl
   obtain ⟨g1, g2, g3⟩ := zP h1;obtain ⟨b2, o2, rfl, hb2, hc2⟩ := hO1.at_.pos (by rw [fA]; omega);have ey := hc2 0 (by rw [fA]; omega);rw [g1, Ea] at ey;have i1 : 0 < ag (ae ys) := by omega
   have Hh1 := H5 h1; clear h1 hc2;go_wp2_with fail
   refine (Cg aoA _ _ xs (ae ys) _ (hA.below hb1) rfl Cp g2 g3).mono ?_;rintro e w2 ⟨⟨aq, cq, rfl, hO2⟩, hb2⟩;go_wp2_with fail
   have hrow : aa (w2.alloc (.cells #[.int .u64 ((ae xs : Int) % (ae ys : Int))] 60)) w2.heap.size 60 ([ae xs % ae ys].map wv) := by
    have := aa.new w2 #[.int .u64 ((ae xs : Int) % (ae ys : Int))] 60;rw [<- Int.natCast_emod] at this |-;exact this
   have hrW : ae xs % ae ys < W := Nat.lt_trans (Dm _ Cp) g3;have hb3 : Below w2.heap.size w2 (w2.alloc (.cells #[.int .u64 ((ae xs : Int) % (ae ys : Int))] 60)) := (Below.refl _ _).alloc (Ct _) _;have hw1 := hrow.mJ (Ok.one hrW);have hv1 : ae [ae xs % ae ys] = ae xs % ae ys := by simp [ae]
   have hL := fa _ 1 1 [ae xs % ae ys] _ hw1 rfl Cp;rw [hv1] at hL;refine hL.mono ?_;rintro e w4 ⟨⟨ar, cr, rfl, hO4⟩, hb4⟩;clear hL hv1 hw1 hrow;generalize w2.alloc (.cells #[.int .u64 ((ae xs : Int) % (ae ys : Int))] 60) = w3 at *;go_wp2;go_ret3;have s1 := hb1.size;have s2 := hb2.size;have s3 := hb3.size;exact ⟨⟨aq, cq, ar, cr, rfl, ((hO2.mono hb1.size).below hb3).below hb4, hO4.mono Cp⟩, ((hb1.trans (hb2.mono s1)).trans (hb3.mono Cp)).trans (hb4.mono Cp)⟩
 . have t1 : ((ag (ae ys) : Int) == 1) = false := by rw [beq_eq_false_iff_ne]; omega
   have i2 : 2 <= ag (ae ys) := by omega
   clear h1;go_wp2_with fail
   refine (fa _ _ _ xs _ (hA.below hb1) rfl Cp).mono ?_;rintro e w2 ⟨⟨ax, cx, rfl, hO2⟩, hb2⟩;go_wp2_with fail
   have s1 := hb1.size;have s2 := hb2.size;have hO1' := hO1.below hb2;refine (uS _ _ _ _ _ _ (fM (ae xs)) (fM (ae ys)) _ hO2.at_ hO1'.at_ (fA _).symm (fA _).symm Cp Cp).mono ?_;rintro e w3 ⟨rfl, hb3⟩;rw [dh, dh];have s3 := hb3.size;have hb03 := (hb1.trans (hb2.mono s1)).trans (hb3.mono Cp);by_cases hlt : ae xs < ae ys
   . rw [n6 hlt];have Hlt := H5 hlt; clear hlt;go_wp2;go_ret3;have e1 : ae xs / ae ys = 0 := D0 Hlt.out;have e2 : ae xs % ae ys = ae xs := Dk Hlt.out;rw [e1, e2, bb, ea];exact ⟨⟨none, 0, ax, cx, rfl, db.nil _ _, (hO2.mono s1).below hb3⟩, hb03⟩
   . have hc : decide (gN (ae xs) (ae ys) < 0) = false := by
      unfold gN; rw [if_neg hlt]; split <;> rfl
     have hge : ae ys <= ae xs := by omega
     have hwle := aJ hge;clear hlt hge;generalize hcm : gN (ae xs) (ae ys) = cm at *;have Hcm := H5 hcm; clear hcm;go_wp2_with fail
     have hLg := BH ax ay (ag (ae xs)) (ag (ae ys)) cx cy (fM (ae xs)) (fM (ae ys)) w3 (hO2.below hb3).at_ (hO1'.below hb3).at_ (fA _).symm (fA _).symm Cp i2 hwle (zI HY.out);rw [dh, dh] at hLg;refine hLg.mono ?_;rintro e w4 ⟨⟨aq, cq, ar, cr, rfl, hOq, hOr⟩, hb4⟩;clear hLg;go_wp2;go_ret3;exact ⟨⟨aq, cq, ar, cr, rfl, hOq.mono Cp, hOr.mono Cp⟩, hb03.trans (hb4.mono Cp)⟩
theorem Aa (aoA aoB : Option Addr) (lA lB cA cB : Nat) (xs ys : List Nat) (w : World) (hA : cX w aoA xs) (hB : cX w aoB ys) (hlA : lA = xs.length) (hlB : lB = ys.length) (hmA : lA <= 17592186044415) (hmB : lB <= 17592186044415) (hY : ae ys ≠ 0) (hd : ae xs % ae ys = 0) :
 Calls Tryz.prog 76 #[.slice aoA lA cA, .slice aoB lB cB] w fun e w' =>
  (∃ aq cq, e = .returned (.tuple #[.slice aq (ag (ae xs / ae ys)) cq, .int .i64 0]) /\ db w' w.heap.size aq (ag (ae xs / ae ys)) cq (fM (ae xs / ae ys))) /\ Below w.heap.size w w' := by
 have h := re aoA aoB lA lB cA cB xs ys w hA hB hlA hlB hmA hmB hY;rw [hd, bb] at h;have Hh := H5 h; clear h hlA hlB hd hY;go_enter Tryz.func76, Tryz.ntmps76;go_wp2_with fail
 refine Hh.out.mono ?_;rintro e w1 ⟨⟨aq, cq, ar, cr, rfl, hO1, hO2⟩, hb1⟩;go_wp2;go_ret2;exact ⟨⟨aq, cq, rfl, hO1⟩, hb1⟩
def zi (n : Bool) (m : Nat) : Int := if n then -(m : Int) else (m : Int)
def ai (w : World) (B : Nat) (v : Value) (x : Int) : Prop :=
 ∃ ao cap, v = .agg #[.bool (decide (x < 0)), .slice ao (ag x.natAbs) cap] /\ db w B ao (ag x.natAbs) cap (fM x.natAbs)
def ah (w : World) (L : Nat) (v : Value) (x : Int) : Prop :=
 ∃ n ao len cap ws, v = .agg #[.bool n, .slice ao len cap] /\ cX w ao ws /\ len = ws.length /\ len <= L /\ len <= cap /\ x = zi n (ae ws)
theorem zi_of (x : Int) : zi (decide (x < 0)) x.natAbs = x := by
 unfold zi; split <;> rename_i h <;> simp at h <;> omega
theorem wH (n : Bool) (m : Nat) : decide (zi n m < 0) = (n && decide (0 < m)) := by
 unfold zi; cases n <;> simp
theorem ij (n : Bool) (m : Nat) : (zi n m).natAbs = m := by unfold zi; cases n <;> simp
theorem ai.at_ {w : World} {B : Nat} {v : Value} {x : Int} (h : ai w B v x) : ah w (ag x.natAbs) v x := by
 obtain ⟨ao, cap, rfl, hO⟩ := h;exact ⟨_, ao, _, cap, _, rfl, hO.at_, hO.len, Ct _, hO.cap.1, by rw [dh, zi_of]⟩
theorem ai.below {w w' : World} {B : Nat} {v : Value} {x : Int} (h : ai w B v x) (hb : Below w.heap.size w w') : ai w' B v x := by
 obtain ⟨ao, cap, rfl, hO⟩ := h;exact ⟨ao, cap, rfl, hO.below hb⟩
theorem ai.mono {w : World} {B B' : Nat} {v : Value} {x : Int} (h : ai w B v x) (hb : B' <= B) : ai w B' v x := by
 obtain ⟨ao, cap, rfl, hO⟩ := h;exact ⟨ao, cap, rfl, hO.mono hb⟩
theorem ah.below {w w' : World} {L : Nat} {v : Value} {x : Int} (h : ah w L v x) (hb : Below w.heap.size w w') : ah w' L v x := by
 obtain ⟨n, ao, len, cap, ws, rfl, hW, hl, hL, hc, hx⟩ := h;exact ⟨n, ao, len, cap, ws, rfl, hW.below hb, hl, hL, hc, hx⟩
theorem ah.mono {w : World} {L L' : Nat} {v : Value} {x : Int} (h : ah w L v x) (hL : L <= L') : ah w L' v x := by
 obtain ⟨n, ao, len, cap, ws, rfl, hW, hl, hL1, hc, hx⟩ := h;exact ⟨n, ao, len, cap, ws, rfl, hW, hl, by omega, hc, hx⟩
theorem ai.mk {w : World} {B : Nat} {ao : Option Addr} {cap m : Nat} (n : Bool) (h : db w B ao (ag m) cap (fM m)) : ai w B (.agg #[.bool (n && decide (0 < ag m)), .slice ao (ag m) cap]) (zi n m) := by
 refine ⟨ao, cap, ?_, by rw [ij]; exact h⟩;rw [ij, wH];congr 5;rcases Dn m with h0 | h0
 . subst h0; rw [bb]
 . have : ag m ≠ 0 := fun e => by have := dx.1 e; omega
   simp; omega
theorem nk (n : Bool) (ao : Option Addr) (len cap : Nat) (w : World) :
 Calls Tryz.prog 50 #[.bool n, .slice ao len cap] w fun e w' => e = .returned (.agg #[.bool (n && decide (0 < len)), .slice ao len cap]) /\ Below w.heap.size w w' := by
 go_enter Tryz.func50, Tryz.ntmps50;cases n
 . go_wp2;exact bodyPost_ret (v := .agg #[.bool false, .slice ao len cap]) (by simp [results, Tryz.results50, go_sem]) rfl ⟨rfl, (Below.refl _ _).alloc (Ct _) _⟩
 . go_wp2;exact bodyPost_ret (v := .agg #[.bool (decide (0 < len)), .slice ao len cap]) (by simp [results, Tryz.results50, go_sem]) rfl ⟨by simp, (Below.refl _ _).alloc (Ct _) _⟩
theorem fR (w : World) (c1 c2 : Array Value) (t1 t2 : TypeId) : aa ((w.alloc (.cells c1 t1)).alloc (.cells c2 t2)) w.heap.size t1 c1.toList /\ aa ((w.alloc (.cells c1 t1)).alloc (.cells c2 t2)) (w.heap.size + 1) t2 c2.toList /\
 Below w.heap.size w ((w.alloc (.cells c1 t1)).alloc (.cells c2 t2)) := by
 have e : (w.alloc (.cells c1 t1)).heap.size = w.heap.size + 1 := by simp
 refine ⟨(aa.new w c1 t1).alloc _, ?_, ((Below.refl _ _).alloc (Ct _) _).alloc Cp _⟩;have := aa.new (w.alloc (.cells c1 t1)) c2 t2
 rwa [e] at this
theorem db.fH {w : World} {B : Nat} {ao : Option Addr} {len cap : Nat} {ws : List Nat} (h : db w B ao len cap ws) {p : Addr} (hp : p.block < B) (v : Value) : db (w.setCell p v) B ao len cap ws := by
 obtain ⟨h1, h2, h3, h4⟩ := h;refine ⟨h1, h2, h3, ?_⟩;rcases h4 with h0 | ⟨g, c, cur, hv, hbb, hg, r⟩
 . exact .inl h0
 . exact .inr ⟨g, c, cur, hv, hbb, by rw [Below.heap_setCell _ _ _ _ Cp]; exact hg, r⟩
theorem ct {fn : Func} {p : Tmp} (h : fn.results = #[.cell p 37]) (tmps : Array Value) (w : World) (g : Nat) (a b : Value) (hp : tmps.getD p undef = .pointer (some ⟨g, 0, none⟩)) (hr : aa w g 37 [a, b]) :
 (results fn tmps).run Tryz.prog w = .ok (.agg #[a, b]) w :=
 results_cell_row h tmps w g 37 #[a, b] (0, 0) _ hp hr Tryz.underlying37 rfl (by kernel_rfl)
theorem aa.lr {w : World} {b : Nat} {t : TypeId} {x y : Value} (h : aa w b t [x, y]) (u v : Value) : aa ((w.setCell ⟨b, 0, none⟩ u).setCell ⟨b, 1, none⟩ v) b t [u, v] := by
 have := (h.set 0 u).set 1 v;exact this
theorem gz (v : Value) (x : Int) (w : World) (hA : ah w 17592186044415 v x) :
 Calls Tryz.prog 58 #[v] w fun e w' => (∃ v', e = .returned v' /\ ai w' w.heap.size v' x) /\ Below w.heap.size w w' := by
 obtain ⟨n, ao, len, cap, ws, rfl, hW, hl, hL, hc, hx⟩ := hA;have Hx := H5 hx; clear hx;have Hl := H5 hl; clear hl;go_enter Tryz.func58, Tryz.ntmps58;go_wp2;obtain ⟨r1, r2, hb⟩ := fR w #[.bool n, .slice ao len cap] #[.bool false, .slice none 0 0] 37 37;have hW2 := hW.below hb;generalize (w.alloc (.cells #[.bool n, .slice ao len cap] 37)).alloc (.cells #[.bool false, .slice none 0 0] 37) = w2 at *;have e1 : w2.cell? ⟨w.heap.size, 0, none⟩ = some (.bool n) := r1.cell 0;have e2 : w2.cell? ⟨w.heap.size, 1, none⟩ = some (.slice ao len cap) := r1.cell 1;have hb1 := r1.lt;have hb2 := r2.lt;have Hr2 := H5 r2;have HW2 := H5 hW2;clear r1 r2 hW2
 go_region_held3 (fun w' => w'.cell? ⟨w.heap.size, 0, none⟩ = some (.bool n) /\ w'.cell? ⟨w.heap.size, 1, none⟩ = some (.slice ao len cap))
  (first | exact ⟨e1, e2⟩ | exact ⟨(hb3.cell hb1).trans e1, (hb3.cell hb1).trans e2⟩ | exact ⟨(hb5.cell (Dw _)).trans e1, (hb5.cell (Dw _)).trans e2⟩ | exact ⟨(((hb5.setCell (Ct _) _).setCell (Ct _) _).cell (Dw _)).trans e1, (((hb5.setCell (Ct _) _).setCell (Ct _) _).cell (Dw _)).trans e2⟩)
  (first
   | (go_at_call 51; refine (fa _ _ _ ws _ (by exact HW2.out) Hl.out Cp).mono ?_; rintro e w3 ⟨⟨ao', cap', rfl, hO⟩, hb3⟩)
   | (go_at_call 50; refine (nk n _ _ _ _).mono ?_; rintro e w4 ⟨rfl, hb4⟩; have hb5 : Below (w.heap.size + 1) w2.drew w4 := (hb3.trans (hb4.mono hb3.size)).mono (Dg hb2); have hr4 := (aa.below (w := w2.drew) Hr2.out hb3 hb2).below hb4 (CK hb2 hb3.size); have hf0 := hr4.free 0; have hf1 := hr4.free 1; have hc0 := hr4.cell 0; have hc1 := hr4.cell 1))
 go_wp2;have hr5 := hr4.lr (.bool (n && decide (0 < ag (ae ws)))) (.slice ao' (ag (ae ws)) cap');have hs2 : w.heap.size <= w2.heap.size := by omega
 have hbf : Below w.heap.size w w4 := (hb.drew.trans (hb3.mono hs2)).trans (hb4.mono (Cw hs2 hb3.size));refine bodyPost_ret (ct (p := 2) (by kernel_rfl) _ _ (w.heap.size + 1) _ _ rfl hr5) rfl ?_;rw [Hx.out];have hO' := (hO.mono (B' := w.heap.size + 2) (by show w.heap.size + 2 <= w2.heap.size; omega)).below hb4;exact ⟨⟨_, rfl, ai.mk n (((hO'.fH (by show w.heap.size + 1 < w.heap.size + 2; omega) _).fH (by show w.heap.size + 1 < w.heap.size + 2; omega) _).mono Cp)⟩, (hbf.setCell (Ev _) _).setCell (Ev _) _⟩
def l6 (n : Nat) : Prop := ∀ (aoA aoB : Option Addr) (lA cA lB cB : Nat) (xs ys : List Nat) (w : World), cX w aoA xs -> cX w aoB ys -> lA = xs.length -> lB = ys.length -> lA <= cA -> lB <= cB -> lA + lB < n -> lA + lB <= 17592186044416 ->
 Calls Tryz.prog 84 #[.slice aoA lA cA, .slice aoB lB cB] w fun e w' => ∃ b zs, e = .returned (.slice (some ⟨b, 0, none⟩) (aw xs + aw ys) (aw xs + aw ys)) /\ tW w w' b zs /\ zs.length = aw xs + aw ys /\ ae zs = ae xs * ae ys
theorem su {w w' : World} (h : Below w.heap.size w w') (r : Option Nat) : w.grownBy w' r := ⟨h.os, h.tape, h.output, h.size, fun k hk _ => h.block k hk⟩
theorem jK {cur cur' : List Nat} {o lz cr N : Nat} (hl : cur.length = o + lz) (hl' : cur'.length = o + lz) (hs : ∀ j, j < o \/ o + lz <= j -> gw cur' j = gw cur j) (he : sv cur' o lz + W ^ lz * cr = sv cur o lz + N) :
 ae cur' + W ^ (o + lz) * cr = ae cur + W ^ o * N := by
 have e1 : ae cur' = sv cur' 0 o + W ^ o * sv cur' o lz := by rw [<- fw, hl', lU, Db]
 have e2 : ae cur = sv cur 0 o + W ^ o * sv cur o lz := by rw [<- fw, hl, lU, Db]
 have e3 : sv cur' 0 o = sv cur 0 o := nE fun i hi => hs _ Cp;rw [e1, e2, e3, DR, CN];have : W ^ o * sv cur' o lz + W ^ o * (W ^ lz * cr) = W ^ o * sv cur o lz + W ^ o * N := by rw [<- CA, he, CA]
 omega
theorem qh {A B n cr : Nat} (h : A + W ^ n * cr = B) (hB : B < W ^ n) : cr = 0 := by
 refine Df fun hn => ?_;have h1 : W ^ n * 1 <= W ^ n * cr := CD _ Cp;rw [Ee] at h1;omega
theorem kara {a0 a1 b0 b1 M : Nat} : (a0 + M * a1) * (b0 + M * b1) = a0 * b0 + M * ((a0 + a1) * (b0 + b1) - a0 * b0 - a1 * b1) + M * M * (a1 * b1) := by
 have e : (a0 + a1) * (b0 + b1) - a0 * b0 - a1 * b1 = a0 * b1 + a1 * b0 := by
  rw [CY, CA, CA]; omega
 rw [e, CY, CA, CA, CA];have e1 : a0 * (M * b1) = M * (a0 * b1) := Dy ..;have e2 : M * a1 * b0 = M * (a1 * b0) := CN ..;have e3 : M * a1 * (M * b1) = M * M * (a1 * b1) := by rw [Nat.mul_mul_mul_comm]
 rw [e1, e2, e3]; omega
theorem x5 (n : Nat) (IH : l6 n) (aoA aoB : Option Addr) (b lz cz lA cA lB cB : Nat) (xs ys : List Nat) (w : World) (hrow : aa w b 60 ((List.replicate (lA + lB) 0).map wv)) (hA : cX w aoA xs) (hB : cX w aoB ys)
 (hlA : lA = xs.length) (hlB : lB = ys.length) (hcA : cA = lA) (hcB : cB = lB) (hm : lA + lB <= 17592186044416) (hlz : lz = lA + lB) (hcz : cz = lz) (h24 : 24 <= lB) (hBA : lB <= lA) (h2 : lA < 2 * lB) (hn : lA + lB < n + 1)
 (hneA : kj aoA xs b) (hneB : kj aoB ys b) :
 Calls Tryz.prog 105 #[.slice (some ⟨b, 0, none⟩) lz cz, .slice aoA lA cA, .slice aoB lB cB] w fun e w' => e = .returned (.tuple #[]) /\ ∃ cur', ae cur' = ae xs * ae ys /\ aa w' b 60 (cur'.map wv) /\ Ok cur' /\ cur'.length = lA + lB /\ w.grownBy w' (some b) := by
 subst hlA hlB hcA hcB hlz hcz;obtain ⟨b1, o1, rfl, hb1, _⟩ := hA.pos Cp;obtain ⟨b2, o2, rfl, hb2, _⟩ := hB.pos Cp;obtain ⟨m, hh⟩ : ∃ m, m = (xs.length + 1) / 2 := ⟨_, rfl⟩;have g1 : 2 * m <= xs.length + 1 := by omega
 have g2 : xs.length <= 2 * m := by omega
 have hd : ((xs.length : Int) + 1) / 2 = (m : Int) := by omega
 have n1 : ¬ xs.length = m := by omega
 clear hh;have hIH := H5 IH; clear IH;have W1 := H5 (hA.take m);have W2 := H5 (hA.drop m);have W3 := H5 (hB.take m);have hL1 : (xs.take m).length = m := by rw [CZ]; omega
 have hL2 : (xs.drop m).length = xs.length - m := EP;have hL3 : m <= ys.length -> (ys.take m).length = m := fun h => by rw [CZ]; omega
 have hL4 : (ys.drop m).length = ys.length - m := EP;have HL1 := H5 hL1; clear hL1;have HL2 := H5 hL2; clear hL2;have HL3 := H5 (hL3 Cp); clear hL3;have HL4 := H5 hL4; clear hL4;have Hrow := H5 hrow; clear hrow;obtain ⟨ad4, W4, hmy, hcase⟩ : ∃ ad4 : Option Addr, Hid (cX w ad4 (ys.drop m)) /\ m <= ys.length /\ Hid ((ys.length = m /\ ad4 = some ⟨b2, o2, none⟩) \/ (m < ys.length /\ ad4 = some ⟨b2, o2 + m, none⟩)) := by
  by_cases hbm : ys.length = m
  . exact ⟨_, H5 (by rw [Ej Cp]; exact cX.nil _ _), by omega, H5 (.inl ⟨hbm, rfl⟩)⟩
  . exact ⟨_, H5 (hB.drop m), by omega, H5 (.inr ⟨by omega, rfl⟩)⟩
 go_enter Tryz.func105, Tryz.ntmps105;go_wp2
 go_quiet (fail)
 go_upto_region 3 with (fail)
 go_cut [0, 2, 6, 7, 8, 9, 10] (fun s0 _ s6 s7 s8 s9 s10 wc => s0 = .slice (some ⟨b, 0, none⟩) (xs.length + ys.length) (xs.length + ys.length) /\ s6 = .int .i64 (m : Int) /\ s7 = .slice (some ⟨b1, o1, none⟩) m m /\
  s8 = .slice (some ⟨b1, o1 + m, none⟩) (xs.length - m) (xs.length - m) /\ s9 = .slice (some ⟨b2, o2, none⟩) m m /\ s10 = .slice ad4 (ys.length - m) (ys.length - m) /\ w.grownBy wc none)
 case first =>
  rcases hcase.out with ⟨hbm, rfl⟩ | ⟨hbm, rfl⟩
  . go_wp2
    go_quiet (fail)
    go_wp2
    go_meet
    exact ⟨by rw [hbm], rfl, rfl, rfl, rfl, by rw [hbm, Nat.sub_self], eI (eI (World.grownBy.refl _ _) _) _⟩
  . go_wp2
    go_quiet (fail)
    go_wp2
    go_meet
    exact ⟨rfl, rfl, rfl, rfl, rfl, rfl, eI (eI (World.grownBy.refl _ _) _) _⟩
 case rest =>
  obtain ⟨rfl, rfl, rfl, rfl, rfl, rfl, hg0⟩ := hcut;have hb0 : Below w.heap.size w wc := (Below.refl _ _).grown hg0 (Ct _) (fun k e => by cases e);go_wp2_with fail
  refine (hIH.out _ _ _ _ _ _ (xs.take m) (ys.take m) _ (W1.out.below hb0) (W3.out.below hb0) HL1.out.symm HL3.out.symm (Ct _) (Ct _) Cp Cp).mono ?_;rintro e w3 ⟨b3, z3, rfl, hN3, hl3, hv3⟩;have hb3 : Below w.heap.size w w3 := hb0.trans (hN3.below.mono hb0.size);have Hl3 := H5 hl3; clear hl3;have Hv3 := H5 hv3; clear hv3;go_wp2_with fail
  refine (lJ _ _ _ z3 _ (hN3.row.mJ hN3.ok) Hl3.out.symm (by have := aK (xs.take m); have := aK (ys.take m); have := HL1.out; have := HL3.out; omega) (Ct _)).mono ?_;rintro e w3' ⟨rfl, rfl⟩;go_wp2_with fail
  refine (hIH.out _ _ _ _ _ _ (xs.drop m) (ys.drop m) _ (W2.out.below hb3) (W4.out.below hb3) HL2.out.symm HL4.out.symm (Ct _) (Ct _) Cp Cp).mono ?_;rintro e w4 ⟨b4, z4, rfl, hN4, hl4, hv4⟩;have hb4 : Below w.heap.size w w4 := hb3.trans (hN4.below.mono hb3.size);have Hl4 := H5 hl4; clear hl4;have Hv4 := H5 hv4; clear hv4;go_wp2_with fail
  refine (lJ _ _ _ z4 _ (hN4.row.mJ hN4.ok) Hl4.out.symm (by have := aK (xs.drop m); have := aK (ys.drop m); have := HL2.out; have := HL4.out; omega) (Ct _)).mono ?_;rintro e w4' ⟨rfl, rfl⟩;go_wp2_with fail
  refine (B0 _ _ _ _ _ _ (xs.take m) (xs.drop m) _ (W1.out.below hb4) (W2.out.below hb4) HL1.out.symm HL2.out.symm Cp Cp).mono ?_;rintro e w5 ⟨b5, z5, rfl, hN5, hl5, hv5⟩;have hb5 : Below w.heap.size w w5 := hb4.trans (hN5.below.mono hb4.size);have Hl5 := H5 hl5; clear hl5;have Hv5 := H5 hv5; clear hv5;go_wp2_with fail
  refine (B0 _ _ _ _ _ _ (ys.take m) (ys.drop m) _ (W3.out.below hb5) (W4.out.below hb5) HL3.out.symm HL4.out.symm Cp Cp).mono ?_;rintro e w6 ⟨b6, z6, rfl, hN6, hl6, hv6⟩;have hb6 : Below w.heap.size w w6 := hb5.trans (hN6.below.mono hb5.size);have Hl6 := H5 hl6; clear hl6;have Hv6 := H5 hv6; clear hv6;go_wp2_with fail
  refine (hIH.out _ _ _ _ _ _ z5 z6 _ ((hN5.row.mJ hN5.ok).below hN6.below) (hN6.row.mJ hN6.ok) Hl5.out.symm Hl6.out.symm (Ct _) (Ct _) Cp Cp).mono ?_;rintro e w7 ⟨b7, z7, rfl, hN7, hl7, hv7⟩;have hb7 : Below w.heap.size w w7 := hb6.trans (hN7.below.mono hb6.size);have Hl7 := H5 hl7; clear hl7;have Hv7 := H5 hv7; clear hv7;have hTX : (ae (xs.take m) + W ^ m * ae (xs.drop m)) = ae xs := (eT xs m Cp).symm;have hTY : (ae (ys.take m) + W ^ m * ae (ys.drop m)) = ae ys := (eT ys m Cp).symm;have HT := H5 (Cv hTX hTY); clear hTX hTY;have k3 : aw z3 <= aw z7 := by
   rw [<- bS hN3.ok, <- bS hN7.ok];refine aJ ?_;rw [Hv3.out, Hv7.out, Hv5.out, Hv6.out, CY, CA]; omega
  have k4 : aw z4 <= aw z7 := by
   rw [<- bS hN4.ok, <- bS hN7.ok];refine aJ ?_;rw [Hv4.out, Hv7.out, Hv5.out, Hv6.out, CY, CA, CA]; omega
  have k7 := aK z7;have k8 := aK z5;have k9 := aK z6;rw [Hl5.out] at k8;rw [Hl6.out] at k9;rw [Hl7.out] at k7;have hW3 : cX w7 (some ⟨b3, 0, none⟩) (z3.take (aw z3)) := ((((hN3.row.mJ hN3.ok).below hN4.below).below hN5.below).below hN6.below).below hN7.below |>.take _;have hW4 : cX w7 (some ⟨b4, 0, none⟩) (z4.take (aw z4)) := (((hN4.row.mJ hN4.ok).below hN5.below).below hN6.below).below hN7.below |>.take _;have hl3t : (z3.take (aw z3)).length = aw z3 := by rw [CZ, DD (aK _)]
  have hl4t : (z4.take (aw z4)).length = aw z4 := by rw [CZ, DD (aK _)]
  have hv3t : ae (z3.take (aw z3)) = ae (xs.take m) * ae (ys.take m) := by rw [bH hN3.ok, Hv3.out]
  have hv4t : ae (z4.take (aw z4)) = ae (xs.drop m) * ae (ys.drop m) := by rw [bH hN4.ok, Hv4.out]
  have n37 : b3 ≠ b7 := by have := hN7.ge; have := (hN3.row.lt); have := hN4.below.size; have := hN5.below.size; have := hN6.below.size; omega
  have n47 : b4 ≠ b7 := by have := hN7.ge; have := (hN4.row.lt); have := hN5.below.size; have := hN6.below.size; omega
  have HL3t := H5 hl3t; clear hl3t;have HL4t := H5 hl4t; clear hl4t;have HV3t := H5 hv3t; clear hv3t;have HV4t := H5 hv4t; clear hv4t;go_wp2_with fail
  refine (pV _ _ b7 0 _ _ _ _ (z3.take (aw z3)) z7 _ hN7.row hN7.ok (.inr rfl) (by have := Hl7.out; omega) hW3 (fun _ a ha => by cases ha; exact n37) HL3t.out.symm Cp (by have := Hl7.out; omega)
   (by have := Hl7.out; rw [<- this, fw, HV3t.out, Hv7.out, Hv5.out, Hv6.out, CY, CA]; omega)).mono ?_
  rintro e w8 ⟨rfl, z8, hR8, _, hs8⟩;have hv8 : ae z8 = (ae (xs.take m) + ae (xs.drop m)) * (ae (ys.take m) + ae (ys.drop m)) - ae (xs.take m) * ae (ys.take m) := by
   rw [<- Hl7.out, fw, HV3t.out, Hv7.out, Hv5.out, Hv6.out] at hs8;have := hR8.len;rw [<- this, fw] at hs8;omega
  have Hv8 := H5 hv8; clear hv8;clear hs8;have hW4' := hW4.grown hR8.grown (fun _ a ha => by cases ha; exact n47);go_wp2_with fail
  refine (pV _ _ b7 0 _ _ _ _ (z4.take (aw z4)) z8 _ hR8.row hR8.ok (.inr rfl) (by have := Hl7.out; have := hR8.len; omega) hW4' (fun _ a ha => by cases ha; exact n47) HL4t.out.symm Cp (by have := Hl7.out; have := hR8.len; omega)
   (by have := Hl7.out; rw [<- this, <- hR8.len, fw, HV4t.out, Hv8.out, CY, CA, CA]; omega)).mono ?_
  rintro e w9 ⟨rfl, z9, hR9, _, hs9⟩;have hv9 : ae z9 = (ae (xs.take m) + ae (xs.drop m)) * (ae (ys.take m) + ae (ys.drop m)) - ae (xs.take m) * ae (ys.take m) - ae (xs.drop m) * ae (ys.drop m) := by
   rw [<- Hl7.out, <- hR8.len, fw, HV4t.out, Hv8.out] at hs9;have := hR9.len;rw [<- this, fw] at hs9;omega
  have Hv9 := H5 hv9; clear hv9;clear hs9;have hb9 : Below w.heap.size w w9 := hR9.below (hR8.below hb7 (by have := hN7.ge; have := hb6.size; omega) hb7.size) (by have := hN7.ge; have := hb6.size; omega) (by have := hb7.size; have := hR8.grown.size; omega);have hr9 : aa w9 b 60 ((List.replicate (xs.length + ys.length) 0).map wv) := Hrow.out.below hb9 Hrow.out.lt;have hBb : b < w.heap.size := Hrow.out.lt;have hW3' : cX w9 (some ⟨b3, 0, none⟩) (z3.take (aw z3)) := (hW3.grown hR8.grown (fun _ a ha => by cases ha; exact n37)).grown hR9.grown (fun _ a ha => by cases ha; exact n37);have hW4'' : cX w9 (some ⟨b4, 0, none⟩) (z4.take (aw z4)) := hW4'.grown hR9.grown (fun _ a ha => by cases ha; exact n47);have q3 : aw z3 <= xs.length + ys.length := by have := aK z3; have := Hl3.out; have := aK (xs.take m); have := aK (ys.take m); have := HL1.out; have := HL3.out; omega
  go_wp2_with (with_reducible show wpList _ _ _ (⟨some 55, _, _, _, _, _⟩ :: _) _ _; refine oj rfl _ _ rfl hW3' HL3t.out.symm hr9 rfl rfl Cq ?_; intro w10 hr10 hg10)
  obtain ⟨c10, hc10⟩ : ∃ c10, c10 = splice (List.replicate (xs.length + ys.length) 0) 0 ((z3.take (aw z3)).take (xs.length + ys.length)) := ⟨_, rfl⟩;have hl10 : c10.length = xs.length + ys.length := by rw [hc10, length_splice _ _ _ (by simp [CZ]; omega)]; simp
  have hok10 : Ok c10 := by rw [hc10]; unfold splice; exact (Ok.replicate _).take _ |>.append (((hN3.ok.take _).take _).append ((Ok.replicate _).drop _))
  have hv10 : ae c10 = ae (xs.take m) * ae (ys.take m) := by
   have e : (z3.take (aw z3)).take (xs.length + ys.length) = z3.take (aw z3) := CJ (by rw [HL3t.out]; exact q3);rw [hc10, e, <- HV3t.out];simp only [splice, List.take_zero, Dt, Db, List.drop_replicate];exact gS _ _
  rw [<- hc10] at hr10;clear hc10;have Hl10 := H5 hl10; clear hl10;have Hv10 := H5 hv10; clear hv10;have n4b : b4 ≠ b := by have := hN4.ge; have := hb3.size; omega
  have n7b : b7 ≠ b := by have := hN7.ge; have := hb6.size; omega
  have q4 : aw z4 <= xs.length + ys.length - 2 * m := by have := aK z4; have := Hl4.out; have := aK (xs.drop m); have := aK (ys.drop m); have := HL2.out; have := HL4.out; omega
  refine (n8 _ _ b (2 * m) _ _ _ _ (z4.take (aw z4)) c10 _ hr10 hok10 (.inr rfl) (by have := Hl10.out; omega) (hW4''.grown hg10 (fun _ a ha => by cases ha; exact n4b)) (fun _ a ha => by cases ha; exact n4b) HL4t.out.symm q4 (by have := Hl10.out; omega)).mono ?_;rintro e w11 ⟨rfl, c11, cr, hR11, hcr, hs11, he11⟩;have ht11 := jK (o := 2 * m) (lz := xs.length + ys.length - 2 * m) (by have := Hl10.out; omega) (by have := Hl10.out; have := hR11.len; omega) hs11 he11;have Ht11 := H5 ht11; clear ht11 hs11 he11;have hl9 : z9.length = aw z5 + aw z6 := by rw [hR9.len, hR8.len, Hl7.out]
  have Hl9 := H5 hl9; clear hl9;have hW9 : cX w11 (some ⟨b7, 0, none⟩) z9 := ((hR9.row.mJ hR9.ok).grown hg10 (fun _ a ha => by cases ha; exact n7b)).grown hR11.grown (fun _ a ha => by cases ha; exact n7b);have q9 : aw z5 + aw z6 <= 35184372088832 := by omega
  have hT := H5 ((lJ _ _ (aw z5 + aw z6) z9 w11.drew hW9 Hl9.out.symm q9 (Ct _)).mono (fun _ _ h => (Cv h.1 h.2.symm : _ /\ _ = w11.drew)));have s1 : (m : Int) <= (xs.length : Int) + (ys.length : Int) := by omega
  have s2 : ¬ (xs.length + ys.length = m) := by omega
  go_wp2
  go_still_tail 5, (by kernel_rfl)
  still_call hT.out
  refine wpStill_nil ?_;have hK : ae xs * ae ys = ae (xs.take m) * ae (ys.take m) + W ^ m * ae z9 + W ^ m * W ^ m * (ae (xs.drop m) * ae (ys.drop m)) := by
   rw [<- HT.out.1, <- HT.out.2, Hv9.out]; exact kara
  have hlt : ae xs * ae ys < W ^ (xs.length + ys.length) := by
   rw [DR];have h1 := dt hA.ok;have h2 := dt hB.ok;exact Nat.mul_lt_mul_of_le_of_lt (Dg h1) h2 (DF bw)
  have hmid : ae z9 < W ^ (xs.length + ys.length - m) := by
   have e : W ^ m * W ^ (xs.length + ys.length - m) = W ^ (xs.length + ys.length) := by rw [<- DR]; congr 1; omega
   have : W ^ m * ae z9 < W ^ m * W ^ (xs.length + ys.length - m) := by rw [e]; omega
   exact D2 this
  have q10 : aw z9 <= xs.length + ys.length - m := by rw [<- bS hR9.ok]; exact an hmid
  have hl9t : (z9.take (aw z9)).length = aw z9 := by rw [CZ, DD (aK _)]
  have HK := H5 hK; clear hK;have Hlt := H5 hlt; clear hlt;have Hl9t := H5 hl9t; clear hl9t;clear hmid;go_wp2_with fail
  refine (n8 _ _ b m _ _ _ _ (z9.take (aw z9)) c11 _ hR11.row.drew hR11.ok (.inr rfl) (by have := Hl10.out; have := hR11.len; omega) (hW9.take (aw z9)) (fun _ a ha => by cases ha; exact n7b) Hl9t.out.symm q10 (by have := Hl10.out; have := hR11.len; omega)).mono ?_;rintro e w12 ⟨rfl, c12, cr2, hR12, hcr2, hs12, he12⟩;have ht12 := jK (o := m) (lz := xs.length + ys.length - m) (by have := Hl10.out; have := hR11.len; omega) (by have := Hl10.out; have := hR11.len; have := hR12.len; omega) hs12 he12;have Ht12 := H5 ht12; clear ht12 hs12 he12;go_wp2
  go_end0
  refine ⟨rfl, c12, ?_, hR12.row, hR12.ok, by rw [hR12.len, hR11.len, Hl10.out], ?_⟩
  . have e1 := Ht11.out;have e2 := Ht12.out;have e3 := HK.out;have e4 := Hlt.out;have n1 : 2 * m + (xs.length + ys.length - 2 * m) = xs.length + ys.length := by omega
    have n2 : m + (xs.length + ys.length - m) = xs.length + ys.length := by omega
    rw [n1, Hv10.out, HV4t.out] at e1;rw [n2, bH hR9.ok] at e2;have n3 : W ^ (2 * m) = W ^ m * W ^ m := by rw [<- DR]; congr 1; omega
    rw [n3] at e1;have c1 : cr = 0 := qh e1 Cp;rw [c1, Fh] at e1;have c2 : cr2 = 0 := qh e2 Cp;rw [c2, Fh] at e2;omega
  . exact jx (nJ (jx (jx (su hb9 _) hg10) hR11.grown)) hR12.grown
theorem ql (n : Nat) (IH : l6 n) : l6 (n + 1) := by
 intro aoA aoB lA cA lB cB xs ys w hA hB hlA hlB hcA hcB hn hm;subst hlA hlB;have hIH := H5 IH; clear IH;have htA := aK xs;have htB := aK ys;have W1 := H5 (hA.take (aw xs));have W2 := H5 (hB.take (aw ys));have L1 : Hid ((xs.take (aw xs)).length = aw xs) := by rw [CZ, DD htA]; exact rfl
 have L2 : Hid ((ys.take (aw ys)).length = aw ys) := by rw [CZ, DD htB]; exact rfl
 have V1 : Hid (ae (xs.take (aw xs)) = ae xs) := bH hA.ok;have V2 : Hid (ae (ys.take (aw ys)) = ae ys) := bH hB.ok;go_enter Tryz.func84, Tryz.ntmps84
 go_upto_if 16 with (go_at_call 102; first | ((with_reducible refine (lJ aoA _ _ xs _ hA rfl Cp hcA).mono ?_); rintro e w' ⟨rfl, rfl⟩) | ((with_reducible refine (lJ aoB _ _ ys _ hB rfl Cp hcB).mono ?_); rintro e w' ⟨rfl, rfl⟩))
 go_cut [0, 1] (fun s0 s1 wc => ∃ (ao1 ao2 : Option Addr) (as_ bs : List Nat) (l1 l2 : Nat), s0 = .slice ao1 l1 l1 /\ s1 = .slice ao2 l2 l2 /\ cX w ao1 as_ /\ cX w ao2 bs /\ l2 <= l1 /\ Hid (l1 = as_.length) /\ Hid (l2 = bs.length) /\ Hid (l1 + l2 = aw xs + aw ys) /\ l1 + l2 < n + 1 /\ l1 + l2 <= 17592186044416 /\
  Hid (ae as_ * ae bs = ae xs * ae ys) /\ w = wc)
 case first =>
  by_cases hlt : aw xs < aw ys
  . have t1 : decide (((aw xs : Nat) : Int) < ((aw ys : Nat) : Int)) = true := by simp; omega
    go_wp2
    go_meet
    exact ⟨_, _, ys.take (aw ys), xs.take (aw xs), _, _, rfl, rfl, W2.out, W1.out, by omega, L2.out.symm, L1.out.symm, H5 Cp, by omega, by omega, H5 (by rw [V1.out, V2.out, CE]), rfl⟩
  . have t1 : decide (((aw xs : Nat) : Int) < ((aw ys : Nat) : Int)) = false := by simp; omega
    go_wp2
    go_meet
    exact ⟨_, _, xs.take (aw xs), ys.take (aw ys), _, _, rfl, rfl, W1.out, W2.out, by omega, L1.out.symm, L2.out.symm, H5 rfl, by omega, by omega, H5 (by rw [V1.out, V2.out]), rfl⟩
 case rest =>
  obtain ⟨ao1, ao2, as_, bs, l1, l2, rfl, rfl, h1, h2, hle, e1, e2, hsum, hn', hm', hprod, rfl⟩ := hcut;by_cases h24 : l2 < 24
  . have t1 : decide (((l2 : Nat) : Int) < 24) = true := by simp; omega
    go_wp2_with (first
     | (at_make; refine ez rfl _ _ rfl (l1 + l2) (l1 + l2) rfl rfl Cp Cp (Ct _) Cp ?_; intro b w1 hm1)
     | (go_at_call 103; refine (BQ _ _ b _ _ _ _ _ _ as_ bs _ hm1.row (h1.below hm1.below) (h2.below hm1.below) e1.out e2.out Cp rfl (h1.apart (DJ hm1.at_.symm)) (h2.apart (DJ hm1.at_.symm))).mono ?_; rintro e w2 ⟨rfl, cur', hR, hv⟩; have Hv := H5 hv; clear hv))
    have hge : w.heap.size <= b := DJ hm1.at_.symm;go_ret;refine ⟨b, cur', ?_, ⟨hR.row, hR.ok, hge, hR.below hm1.below hge hm1.below.size⟩, ?_, ?_⟩
    . rw [<- hsum.out]; rfl
    . rw [hR.len, Fa, hsum.out]
    . rw [Hv.out, hprod.out]
  . have t1 : decide (((l2 : Nat) : Int) < 24) = false := by simp; omega
    by_cases h2l : l1 < 2 * l2
    . have t2 : decide ((2 : Int) * ((l2 : Nat) : Int) <= ((l1 : Nat) : Int)) = false := by simp; omega
      go_wp2_with (first
       | (at_make; refine ez rfl _ _ rfl (l1 + l2) (l1 + l2) rfl rfl Cp Cp (Ct _) Cp ?_; intro b w1 hm1)
       | (go_at_call 105; refine (x5 n hIH.out _ _ b _ _ _ _ _ _ as_ bs _ hm1.row (h1.below hm1.below) (h2.below hm1.below) e1.out e2.out rfl rfl Cp rfl rfl Cp Cp Cp Cp (h1.apart (DJ hm1.at_.symm)) (h2.apart (DJ hm1.at_.symm))).mono ?_; rintro e w2 ⟨rfl, cur', hv, hr, hok, hlen, hg⟩; have Hv := H5 hv; clear hv; have Hlen := H5 hlen; clear hlen))
      have hge : w.heap.size <= b := DJ hm1.at_.symm;go_ret;refine ⟨b, cur', ?_, ⟨hr, hok, hge, hm1.below.grown hg hm1.below.size (fun k e => by cases e; exact hge)⟩, ?_, ?_⟩
      . rw [<- hsum.out]; rfl
      . rw [Hlen.out, hsum.out]
      . rw [Hv.out, hprod.out]
    . have t2 : decide ((2 : Int) * ((l2 : Nat) : Int) <= ((l1 : Nat) : Int)) = true := by simp; omega
      go_wp2_with (first
       | (at_make; refine ez rfl _ _ rfl (l1 + l2) (l1 + l2) rfl rfl Cp Cp (Ct _) Cp ?_; intro b w1 hm1))
      have hge : w.heap.size <= b := DJ hm1.at_.symm;go_loopw [6] (fun i wr => ∃ (k q : Nat) (cu : List Nat), k = q * l2 /\ k < l1 + l2 /\ i = .int .i64 k /\ aa wr b 60 (cu.map wv) /\ Ok cu /\ cu.length = l1 + l2 /\ Below w.heap.size w wr /\ Hid (ae cu = ae (as_.take k) * ae bs)) (fun i _ => l1 + l2 - (intOf i).toNat)
      case atStart => exact ⟨0, 0, _, by omega, by omega, rfl, hm1.row, Ok.replicate _, by simp, hm1.below, H5 (by rw [gy]; simp [ae])⟩
      case round =>
       obtain ⟨k, q, cu, hkq, hk, rfl, hrow, hok, hlen, hb, He⟩ := hrel;have Hkq := H5 hkq; clear hkq;have Hlen := H5 hlen; clear hlen;by_cases hlt : k < l1
       . obtain ⟨b1, o1, rfl, hb1, _⟩ := h1.pos (by have := e1.out; omega);obtain ⟨en, hen⟩ : ∃ en, en = min (k + l2) l1 := ⟨_, rfl⟩;have hmin : min ((k : Int) + (l2 : Int)) (l1 : Int) = (en : Int) := by omega
         have b1' : k < en := by omega
         have b2' : en <= l1 := by omega
         have b3' : en - k <= l2 := by omega
         have b4' : en = k + l2 \/ en = l1 := by omega
         have Hen := H5 b4'; clear b4' hen;have b5 : ¬ (en = k) := by omega
         have b6 : ¬ (l1 + l2 = k) := by omega
         have b7 : (en : Int) <= (l1 : Int) := by omega
         have b8 : (k : Int) <= (en : Int) := by omega
         have b9 : (k : Int) <= (l1 : Int) + (l2 : Int) := by omega
         have S1 : Hid (cX wr (some ⟨b1, o1 + k, none⟩) ((as_.drop k).take (en - k))) := ((h1.below hb).drop k).take _;have S1l : Hid (((as_.drop k).take (en - k)).length = en - k) := by unfold Hid; rw [CZ, EP]; have := e1.out; omega
         have S2 : Hid (cX wr ao2 bs) := h2.below hb;have t3 := aK ((as_.drop k).take (en - k));rw [S1l.out] at t3;have t4 := aK bs;rw [<- e2.out] at t4;have hbw : b < wr.heap.size := hrow.lt;have Hrow := H5 hrow; clear hrow;go_wp2
         go_region_held3 (fun _ => True) (trivial)
          (first
           | (go_at_call 84; refine (hIH.out _ _ _ _ _ _ ((as_.drop k).take (en - k)) bs _ (by exact S1.out) (by exact S2.out) S1l.out.symm e2.out (Ct _) (Ct _) Cp Cp).mono ?_; rintro e w3 ⟨b3, z3, rfl, hN3, hl3, hv3⟩; have Hl3 := H5 hl3; clear hl3; have Hv3 := H5 hv3; clear hv3)
           | (go_at_call 102; refine (lJ _ _ _ z3 _ (hN3.row.mJ hN3.ok) Hl3.out.symm Cp (Ct _)).mono ?_; rintro e w4 ⟨rfl, rfl⟩)
           | (go_at_call 104; have hr3 : aa w3 b 60 (cu.map wv) := aa.below (w := wr.drew) Hrow.out hN3.below hbw; have n3b : b3 ≠ b := (by have h : wr.heap.size <= b3 := hN3.ge; omega); have t5 := aK z3; have t6 := Hl3.out; refine (n8 _ _ b k _ _ _ _ (z3.take (aw z3)) cu _ hr3 hok (.inr rfl) (by have := Hlen.out; omega) ((hN3.row.mJ hN3.ok).take _) (fun _ a ha => by cases ha; exact n3b) (by rw [CZ]; omega) Cp (by have := Hlen.out; omega)).mono ?_; rintro e w5 ⟨rfl, c5, cr, hR5, hcr, hs5, he5⟩; have Hs5 := H5 hs5; clear hs5; have He5 := H5 he5; clear he5))
         go_wp2;go_roundw
         case rel =>
          have hx : sv as_ 0 en = sv as_ 0 k + W ^ k * sv as_ k (en - k) := by
           have := lU as_ 0 k (en - k);rw [Db] at this;rw [<- this]; congr 1; omega
          rw [mY, mY] at hx;have hx2 : ae (as_.take (k + l2)) = ae (as_.take en) := by
           rcases Hen.out with h | h
           . rw [h]
           . rw [CJ (by have := e1.out; omega), CJ (by have := e1.out; omega)]
          have ht := jK (o := k) (lz := l1 + l2 - k) (by have := Hlen.out; omega) (by have := Hlen.out; have := hR5.len; omega) Hs5.out He5.out;have n1 : k + (l1 + l2 - k) = l1 + l2 := by omega
          have hz : ae (z3.take (aw z3)) = sv as_ k (en - k) * ae bs := by rw [bH hN3.ok, Hv3.out]; rfl
          have hlt' : ae (as_.take en) * ae bs < W ^ (l1 + l2) := by
           rw [DR];have q1 := dt (h1.ok.take en);have q2 := dt h2.ok;rw [<- e2.out] at q2;refine Nat.mul_lt_mul_of_le_of_lt (Cw (Dg q1) (CU bw ?_)) q2 (DF bw);rw [CZ]; omega
          rw [n1, He.out, hz] at ht;have hs : ae (as_.take en) * ae bs = ae (as_.take k) * ae bs + W ^ k * (sv as_ k (en - k) * ae bs) := by rw [hx, CY, CN]
          rw [<- hs] at ht;have hc0 := qh ht hlt';rw [hc0, Fh, Ea] at ht;have hb5 : Below w.heap.size w w5 := hR5.below (hb.drew.trans (hN3.below.mono hb.size)) hge (by have := hN3.below.size; have h : wr.drew.heap.size = wr.heap.size := rfl; have := hb.size; omega);exact ⟨k + l2, q + 1, c5, by have := Hkq.out; rw [CY, ER]; omega, by omega, by go_num, hR5.row, hR5.ok, by rw [hR5.len, Hlen.out], hb5, H5 (by rw [hx2]; exact ht)⟩
         case measure => simp [intOf]; omega
       . go_wp2;go_ret;refine ⟨b, cu, ?_, ⟨hrow, hok, hge, hb⟩, ?_, ?_⟩
         . rw [<- hsum.out]; rfl
         . rw [Hlen.out, hsum.out]
         . rw [He.out, CJ (by have := e1.out; omega), hprod.out]
theorem sF (n : Nat) : l6 n := by
 induction n with
 | zero =>
  intro aoA aoB lA cA lB cB xs ys w hA hB hlA hlB hcA hcB hn hm;omega
 | succ n ih => exact ql n ih
theorem BX (aoA aoB : Option Addr) (lA cA lB cB : Nat) (xs ys : List Nat) (w : World) (hA : cX w aoA xs) (hB : cX w aoB ys) (hlA : lA = xs.length) (hlB : lB = ys.length) (hcA : lA <= cA) (hcB : lB <= cB) (hm : lA + lB <= 17592186044416) :
 Calls Tryz.prog 52 #[.slice aoA lA cA, .slice aoB lB cB] w fun e w' =>
  (∃ ao' cap', e = .returned (.slice ao' (ag (ae xs * ae ys)) cap') /\ db w' w.heap.size ao' (ag (ae xs * ae ys)) cap' (fM (ae xs * ae ys))) /\ Below w.heap.size w w' := by
 subst hlA hlB;have t1 := aK xs;have t2 := aK ys;go_enter Tryz.func52, Tryz.ntmps52;go_wp2_with (first
  | (go_at_call 84; refine (sF _ _ _ _ _ _ _ xs ys _ hA hB rfl rfl hcA hcB (Dw _) hm).mono ?_; rintro e w1 ⟨b, zs, rfl, hN, hl, hv⟩; have Hl := H5 hl; clear hl; have Hv := H5 hv; clear hv)
  | (go_at_call 51; refine (fa _ _ _ zs _ (hN.row.mJ hN.ok) Hl.out.symm Cp).mono ?_; rintro e w2 ⟨⟨ao', cap', rfl, h1⟩, h2⟩))
 go_ret;rw [Hv.out] at h1 |-;exact ⟨⟨_, _, rfl, h1.mono hN.below.size⟩, hN.below.trans (h2.mono hN.below.size)⟩
theorem fz (w : World) (c1 c2 c3 : Array Value) (t1 t2 t3 : TypeId) : aa (((w.alloc (.cells c1 t1)).alloc (.cells c2 t2)).alloc (.cells c3 t3)) w.heap.size t1 c1.toList /\ aa (((w.alloc (.cells c1 t1)).alloc (.cells c2 t2)).alloc (.cells c3 t3)) (w.heap.size + 1) t2 c2.toList /\
 aa (((w.alloc (.cells c1 t1)).alloc (.cells c2 t2)).alloc (.cells c3 t3)) (w.heap.size + 2) t3 c3.toList /\
 Below w.heap.size w (((w.alloc (.cells c1 t1)).alloc (.cells c2 t2)).alloc (.cells c3 t3)) := by
 obtain ⟨h1, h2, h3⟩ := fR w c1 c2 t1 t2;have e : ((w.alloc (.cells c1 t1)).alloc (.cells c2 t2)).heap.size = w.heap.size + 2 := by simp
 refine ⟨h1.alloc _, h2.alloc _, ?_, h3.alloc Cp _⟩;have := aa.new ((w.alloc (.cells c1 t1)).alloc (.cells c2 t2)) c3 t3
 rwa [e] at this
theorem ai.fH {w : World} {B : Nat} {v : Value} {x : Int} (h : ai w B v x) {p : Addr} (hp : p.block < B) (u : Value) : ai (w.setCell p u) B v x := by
 obtain ⟨ao, cap, rfl, hO⟩ := h;exact ⟨ao, cap, rfl, hO.fH hp u⟩
theorem ai.done {w w4 : World} {r B : Nat} {v a b : Value} {x : Int} (h : ai w4 (r + 1) v x) (hB : B <= r) (hb : Below B w w4) :
 (∃ v', Ending.returned v = .returned v' /\ ai ((w4.setCell ⟨r, 0, none⟩ a).setCell ⟨r, 1, none⟩ b) B v' x) /\ Below B w ((w4.setCell ⟨r, 0, none⟩ a).setCell ⟨r, 1, none⟩ b) :=
 ⟨⟨v, rfl, ((h.fH (p := ⟨r, 0, none⟩) (Dw _) a).fH (p := ⟨r, 1, none⟩) (Dw _) b).mono (Nat.le_succ_of_le hB)⟩, (hb.setCell (p := ⟨r, 0, none⟩) hB a).setCell (p := ⟨r, 1, none⟩) hB b⟩
theorem yh (n : Bool) (m : Nat) : zi (!n) m = -zi n m := by cases n <;> simp [zi]
theorem Bl (a b : Bool) (m n : Nat) : zi (a != b) (m * n) = zi a m * zi b n := by
 cases a <;> cases b <;> simp [zi, Dq, Du, Ew]
theorem iY (v : Value) (x : Int) (w : World) (hA : ah w 17592186044415 v x) :
 Calls Tryz.prog 61 #[v] w fun e w' => (∃ v', e = .returned v' /\ ai w' w.heap.size v' (-x)) /\ Below w.heap.size w w' := by
 obtain ⟨n, ao, len, cap, ws, rfl, hW, hl, hL, hc, hx⟩ := hA;have Hx := H5 hx; clear hx;have Hl := H5 hl; clear hl;go_enter Tryz.func61, Tryz.ntmps61;go_wp2;obtain ⟨r1, r2, hb⟩ := fR w #[.bool n, .slice ao len cap] #[.bool false, .slice none 0 0] 37 37;have hW2 := hW.below hb;generalize (w.alloc (.cells #[.bool n, .slice ao len cap] 37)).alloc (.cells #[.bool false, .slice none 0 0] 37) = w2 at *;have e1 : w2.cell? ⟨w.heap.size, 0, none⟩ = some (.bool n) := r1.cell 0;have e2 : w2.cell? ⟨w.heap.size, 1, none⟩ = some (.slice ao len cap) := r1.cell 1;have hb1 := r1.lt;have hb2 := r2.lt;have Hr2 := H5 r2;have HW2 := H5 hW2;clear r1 r2 hW2
 go_region_held3 (fun w' => w'.cell? ⟨w.heap.size, 0, none⟩ = some (.bool n) /\ w'.cell? ⟨w.heap.size, 1, none⟩ = some (.slice ao len cap))
  (first | exact ⟨e1, e2⟩ | exact ⟨(hb3.cell hb1).trans e1, (hb3.cell hb1).trans e2⟩ | exact ⟨(hb5.cell (Dw _)).trans e1, (hb5.cell (Dw _)).trans e2⟩ | exact ⟨(((hb5.setCell (Ct _) _).setCell (Ct _) _).cell (Dw _)).trans e1, (((hb5.setCell (Ct _) _).setCell (Ct _) _).cell (Dw _)).trans e2⟩)
  (first
   | (go_at_call 51; refine (fa _ _ _ ws _ (by exact HW2.out) Hl.out Cp).mono ?_; rintro e w3 ⟨⟨ao', cap', rfl, hO⟩, hb3⟩)
   | (go_at_call 50; refine (nk (!n) _ _ _ _).mono ?_; rintro e w4 ⟨rfl, hb4⟩; have hb5 : Below (w.heap.size + 1) w2.drew w4 := (hb3.trans (hb4.mono hb3.size)).mono (Dg hb2); have hr4 := (aa.below (w := w2.drew) Hr2.out hb3 hb2).below hb4 (CK hb2 hb3.size); have hf0 := hr4.free 0; have hf1 := hr4.free 1; have hc0 := hr4.cell 0; have hc1 := hr4.cell 1))
 go_wp2;have hr5 := hr4.lr (.bool (!n && decide (0 < ag (ae ws)))) (.slice ao' (ag (ae ws)) cap');have hs2 : w.heap.size <= w2.heap.size := by omega
 have hbf : Below w.heap.size w w4 := (hb.drew.trans (hb3.mono hs2)).trans (hb4.mono (Cw hs2 hb3.size));refine bodyPost_ret (ct (p := 2) (by kernel_rfl) _ _ (w.heap.size + 1) _ _ rfl hr5) rfl ?_;have hO' := (hO.mono (B' := w.heap.size + 2) (by show w.heap.size + 2 <= w2.heap.size; omega)).below hb4;have hI := ai.mk (!n) hO';rw [Hx.out];rw [yh] at hI;exact ai.done hI (Ev _) hbf
theorem lN (v : Value) (x : Int) (w : World) (hA : ah w 17592186044415 v x) :
 Calls Tryz.prog 18 #[v] w fun e w' => (∃ v', e = .returned v' /\ ai w' w.heap.size v' ((x.natAbs : Nat) : Int)) /\ Below w.heap.size w w' := by
 obtain ⟨n, ao, len, cap, ws, rfl, hW, hl, hL, hc, hx⟩ := hA;have Hx := H5 hx; clear hx;have Hl := H5 hl; clear hl;go_enter Tryz.func18, Tryz.ntmps18;go_wp2_with fail
 obtain ⟨r1, r2, hb⟩ := fR w #[.bool n, .slice ao len cap] #[.bool false, .slice none 0 0] 37 37;have hW2 := hW.below hb;generalize (w.alloc (.cells #[.bool n, .slice ao len cap] 37)).alloc (.cells #[.bool false, .slice none 0 0] 37) = w2 at *;have hb2 := r2.lt;refine (fa _ _ _ ws _ hW2 Hl.out Cp).mono ?_;rintro e w3 ⟨⟨ao', cap', rfl, hO⟩, hb3⟩;go_wp2_with fail
 refine (nk false _ _ _ _).mono ?_;rintro e w4 ⟨rfl, hb4⟩;have hr4 := (r2.below hb3 hb2).below hb4 (CK hb2 hb3.size);have hf0 := hr4.free 0;have hf1 := hr4.free 1;have hc0 := hr4.cell 0;have hc1 := hr4.cell 1;clear r1 r2;go_wp2;have hr5 := hr4.lr (.bool false) (.slice ao' (ag (ae ws)) cap');have hs2 : w.heap.size <= w2.heap.size := by omega
 have hbf : Below w.heap.size w w4 := (hb.trans (hb3.mono hs2)).trans (hb4.mono (Cw hs2 hb3.size));refine bodyPost_ret (ct (p := 2) (by kernel_rfl) _ _ (w.heap.size + 1) _ _ rfl hr5) rfl ?_;have hO' := (hO.mono (B' := w.heap.size + 2) (by show w.heap.size + 2 <= w2.heap.size; omega)).below hb4;have hI := ai.mk false hO';rw [Hx.out, ij];exact ai.done hI (Ev _) hbf
theorem ib (v u : Value) (x y : Int) (LA LB : Nat) (w : World) (hA : ah w LA v x) (hB : ah w LB u y) (hL : LA + LB <= 17592186044415) :
 Calls Tryz.prog 23 #[v, u] w fun e w' => (∃ v', e = .returned v' /\ ai w' w.heap.size v' (x * y)) /\ Below w.heap.size w w' := by
 obtain ⟨n, ao, len, cap, ws, rfl, hW, hl, hL1, hc, hx⟩ := hA;obtain ⟨n2, ao2, len2, cap2, ws2, rfl, hW2, hl2, hL2, hc2, hx2⟩ := hB;have Hx := H5 hx; clear hx;have Hl := H5 hl; clear hl;have Hx2 := H5 hx2; clear hx2;have Hl2 := H5 hl2; clear hl2;go_enter Tryz.func23, Tryz.ntmps23;go_wp2;obtain ⟨r1, r2, r3, hb⟩ := fz w #[.bool n, .slice ao len cap] #[.bool n2, .slice ao2 len2 cap2] #[.bool false, .slice none 0 0] 37 37 37;have hW' := hW.below hb;have hW2' := hW2.below hb;generalize ((w.alloc (.cells #[.bool n, .slice ao len cap] 37)).alloc (.cells #[.bool n2, .slice ao2 len2 cap2] 37)).alloc (.cells #[.bool false, .slice none 0 0] 37) = w2 at *;have e1 : w2.cell? ⟨w.heap.size, 0, none⟩ = some (.bool n) := r1.cell 0;have e2 : w2.cell? ⟨w.heap.size, 1, none⟩ = some (.slice ao len cap) := r1.cell 1;have e3 : w2.cell? ⟨w.heap.size + 1, 0, none⟩ = some (.bool n2) := r2.cell 0;have e4 : w2.cell? ⟨w.heap.size + 1, 1, none⟩ = some (.slice ao2 len2 cap2) := r2.cell 1;have hb2 := r3.lt;have k0 : w.heap.size < w.heap.size + 2 := by omega
 have k1 : w.heap.size + 1 < w.heap.size + 2 := by omega
 have Hr3 := H5 r3;have HW := H5 hW';have HW2 := H5 hW2';clear r1 r2 r3 hW' hW2'
 go_region_held3 (fun w' => w'.cell? ⟨w.heap.size, 0, none⟩ = some (.bool n) /\ w'.cell? ⟨w.heap.size, 1, none⟩ = some (.slice ao len cap) /\ w'.cell? ⟨w.heap.size + 1, 0, none⟩ = some (.bool n2) /\ w'.cell? ⟨w.heap.size + 1, 1, none⟩ = some (.slice ao2 len2 cap2))
  (first
   | exact ⟨e1, e2, e3, e4⟩
   | exact ⟨(hb3'.cell k0).trans e1, (hb3'.cell k0).trans e2, (hb3'.cell k1).trans e3, (hb3'.cell k1).trans e4⟩
   | exact ⟨(hb5.cell k0).trans e1, (hb5.cell k0).trans e2, (hb5.cell k1).trans e3, (hb5.cell k1).trans e4⟩
   | exact ⟨(((hb5.setCell (Ct _) _).setCell (Ct _) _).cell k0).trans e1, (((hb5.setCell (Ct _) _).setCell (Ct _) _).cell k0).trans e2, (((hb5.setCell (Ct _) _).setCell (Ct _) _).cell k1).trans e3, (((hb5.setCell (Ct _) _).setCell (Ct _) _).cell k1).trans e4⟩)
  (first
   | (go_at_call 52; refine (BX _ _ _ _ _ _ ws ws2 _ (by exact HW.out) (by exact HW2.out) Hl.out Hl2.out hc hc2 Cp).mono ?_; rintro e w3 ⟨⟨ao', cap', rfl, hO⟩, hb3⟩; have hb3' : Below (w.heap.size + 2) w2.drew w3 := hb3.mono (Dg hb2))
   | (go_at_call 50; refine (nk (n != n2) _ _ _ _).mono ?_; rintro e w4 ⟨rfl, hb4⟩; have hb5 : Below (w.heap.size + 2) w2.drew w4 := (hb3.trans (hb4.mono hb3.size)).mono (Dg hb2); have hr4 := (aa.below (w := w2.drew) Hr3.out hb3 hb2).below hb4 (CK hb2 hb3.size); have hf0 := hr4.free 0; have hf1 := hr4.free 1; have hc0 := hr4.cell 0; have hc1 := hr4.cell 1))
 go_wp2;have hr5 := hr4.lr (.bool ((n != n2) && decide (0 < ag (ae ws * ae ws2)))) (.slice ao' (ag (ae ws * ae ws2)) cap');have hs2 : w.heap.size <= w2.heap.size := by omega
 have hbf : Below w.heap.size w w4 := (hb.drew.trans (hb3.mono hs2)).trans (hb4.mono (Cw hs2 hb3.size));refine bodyPost_ret (ct (p := 4) (by kernel_rfl) _ _ (w.heap.size + 2) _ _ rfl hr5) rfl ?_;have hO' := (hO.mono (B' := w.heap.size + 3) (by show w.heap.size + 3 <= w2.heap.size; omega)).below hb4;have hI := ai.mk (n != n2) hO';rw [Bl] at hI;rw [Hx.out, Hx2.out];exact ai.done hI Cp hbf
end Go.Proofs.YtjjlmfmoihooiaaGreat
