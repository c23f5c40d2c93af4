/- Part 3 of 8 of the proof that the law ModhnfRoads returns true for every input of bulk at most 1048576 and leaves its arguments as they were. -/
import Derived.Test.YtjjlmfmoihooiaaGreatRoA
import Derived.Test.YtjjlmfmoihooiaaGreatRoB
set_option linter.all false
set_option maxRecDepth 100000
set_option maxHeartbeats 4000000
namespace Go.Proofs.YtjjlmfmoihooiaaGreat
def Sp (n : Nat) (E : Nat -> Nat -> Int) (v : Nat -> Int) : Prop := ∃ x : Nat -> Int, ∀ j, v j = sm n (fun k => x k * E k j)
theorem Sp.zero (n : Nat) (E : Nat -> Nat -> Int) : Sp n E (fun _ => 0) := ⟨fun _ => 0, fun j => (bR (fun k _ => De _)).symm⟩
theorem Sp.congr {n : Nat} {E : Nat -> Nat -> Int} {v w : Nat -> Int} (h : Sp n E v) (e : ∀ j, w j = v j) : Sp n E w := by
 obtain ⟨x, hx⟩ := h;exact ⟨x, fun j => (e j).trans (hx j)⟩
theorem Sp.add {n : Nat} {E : Nat -> Nat -> Int} {v w : Nat -> Int} (h : Sp n E v) (k : Sp n E w) : Sp n E (fun j => v j + w j) := by
 obtain ⟨x, hx⟩ := h; obtain ⟨y, hy⟩ := k;refine ⟨fun k => x k + y k, fun j => ?_⟩;show v j + w j = _;rw [hx, hy, <- im]; exact ak (fun k _ => (DY ..).symm)
theorem Sp.smul {n : Nat} {E : Nat -> Nat -> Int} {v : Nat -> Int} (c : Int) (h : Sp n E v) : Sp n E (fun j => c * v j) := by
 obtain ⟨x, hx⟩ := h;refine ⟨fun k => c * x k, fun j => ?_⟩;show c * v j = _;rw [hx, <- bQ]; exact ak (fun k _ => (CH ..).symm)
theorem Sp.sub {n : Nat} {E : Nat -> Nat -> Int} {v w : Nat -> Int} (h : Sp n E v) (k : Sp n E w) : Sp n E (fun j => v j - w j) :=
 (h.add (k.smul (-1))).congr (fun j => by omega)
theorem Sp.row {n : Nat} (E : Nat -> Nat -> Int) {k : Nat} (hk : k < n) : Sp n E (E k) := by
 refine ⟨fun i => if i = k then 1 else 0, fun j => ?_⟩;rw [eH k hk (fun i _ hne => by simp [hne])]; simp
theorem Sp.sm {n m : Nat} {E : Nat -> Nat -> Int} {F : Nat -> Nat -> Int} {x : Nat -> Int} (h : ∀ k, k < m -> Sp n E (F k)) : Sp n E (fun j => sm m (fun k => x k * F k j)) := by
 induction m with
 | zero => exact Sp.zero n E
 | succ m ih => exact (ih (fun k hk => h k Cp)).add ((h m Cp).smul (x m))
theorem Sp.trans {n m : Nat} {E F : Nat -> Nat -> Int} {v : Nat -> Int} (hv : Sp m F v) (h : ∀ k, k < m -> Sp n E (F k)) : Sp n E v := by
 obtain ⟨x, hx⟩ := hv;exact (Sp.sm (x := x) h).congr hx
def bc (n : Nat) (E : Nat -> Nat -> Int) (m : Nat) (F : Nat -> Nat -> Int) : Prop := (∀ k, k < n -> Sp m F (E k)) /\ ∀ k, k < m -> Sp n E (F k)
theorem bc.refl (n : Nat) (E : Nat -> Nat -> Int) : bc n E n E := ⟨fun k hk => Sp.row E hk, fun k hk => Sp.row E hk⟩
theorem bc.symm {n m : Nat} {E F : Nat -> Nat -> Int} (h : bc n E m F) : bc m F n E := ⟨h.2, h.1⟩
theorem bc.trans {n m l : Nat} {E F G : Nat -> Nat -> Int} (h : bc n E m F) (k : bc m F l G) : bc n E l G :=
 ⟨fun i hi => (h.1 i hi).trans k.1, fun i hi => (k.2 i hi).trans h.2⟩
theorem bc.of_eq {n : Nat} {E F : Nat -> Nat -> Int} (h : ∀ k, k < n -> ∀ j, E k j = F k j) : bc n E n F :=
 ⟨fun k hk => (Sp.row F hk).congr (h k hk), fun k hk => (Sp.row E hk).congr (fun j => (h k hk j).symm)⟩
structure Ech (n c : Nat) (E : Nat -> Nat -> Int) (l : Nat -> Nat) : Prop where
 inc : ∀ i k, i < k -> k < n -> l i < l k
 lt : ∀ i, i < n -> l i < c
 zero : ∀ i, i < n -> ∀ j, j < l i -> E i j = 0
 pos : ∀ i, i < n -> 0 < E i (l i)
structure eo (n c : Nat) (E : Nat -> Nat -> Int) (l : Nat -> Nat) : Prop extends Ech n c E l where
 red : ∀ i k, i < k -> k < n -> 0 <= E i (l k) /\ E i (l k) < E k (l k)
theorem Ech.at {n c : Nat} {E : Nat -> Nat -> Int} {l : Nat -> Nat} (h : Ech n c E l) (x : Nat -> Int) {k : Nat} (hk : k < n) (h0 : ∀ i, i < k -> x i = 0) : sm n (fun i => x i * E i (l k)) = x k * E k (l k) := by
 refine eH k hk (fun i hi hne => ?_);rcases EV hne with hlt | hgt
 . rw [h0 i hlt, De]
 . rw [h.zero i hi _ (h.inc k i hgt hi), CS]
theorem Ech.small {n c : Nat} {E : Nat -> Nat -> Int} {l : Nat -> Nat} (h : Ech n c E l) (x : Nat -> Int) : ∀ m, m <= n -> (∀ k, k < m -> (sm n (fun i => x i * E i (l k))).natAbs < (E k (l k)).natAbs) -> ∀ k, k < m -> x k = 0
 | 0, _, _, k, hk => by omega
 | m + 1, hm, hs, k, hk => by
  have ih := Ech.small h x m Cp (fun k hk => hs k Cp);by_cases e : k = m
  . subst e;have h1 := hs k Cp;rw [h.at x Cp ih, CP] at h1;have h2 : ¬ 0 < (x k).natAbs := fun h3 => by
     have := Cy (E k (l k)).natAbs h3;omega
    omega
  . exact ih k Cp
theorem Ech.none {n c : Nat} {E : Nat -> Nat -> Int} {l : Nat -> Nat} (h : Ech n c E l) {v : Nat -> Int} (hv : Sp n E v) (hs : ∀ k, k < n -> (v (l k)).natAbs < (E k (l k)).natAbs) (j : Nat) : v j = 0 := by
 obtain ⟨x, hx⟩ := hv;have h0 := h.small x n (Ct _) (fun k hk => by rw [<- hx]; exact hs k hk);rw [hx, bR (fun k hk => by rw [h0 k hk, De])]
theorem Ech.AO {n c : Nat} {E : Nat -> Nat -> Int} {l : Nat -> Nat} (h : Ech n c E l) {v : Nat -> Int} (hv : Sp n E v) (hs : ∀ k, k < n -> v (l k) = 0) (j : Nat) : v j = 0 :=
 h.none hv (fun k hk => by have := h.pos k hk; rw [hs k hk]; omega) j
theorem Ech.lead {n c : Nat} {E : Nat -> Nat -> Int} {l : Nat -> Nat} (h : Ech n c E l) {v : Nat -> Int} (hv : Sp n E v) {q : Nat} (hq : v q ≠ 0) (h0 : ∀ j, j < q -> v j = 0) : ∃ k, k < n /\ l k = q /\ E k q ∣ v q := by
 obtain ⟨x, hx⟩ := hv;have key : ∀ m, m <= n -> (∃ k, k < m /\ l k = q /\ E k q ∣ v q) \/ (∀ k, k < m -> x k = 0 \/ q < l k) := by
  intro m;induction m with
  | zero => exact fun _ => .inr (fun k hk => by omega)
  | succ m ih =>
   intro hm;rcases ih Cp with h1 | h1
   . obtain ⟨k, hk, h2⟩ := h1; exact .inl ⟨k, by omega, h2⟩
   . by_cases hlt : q < l m
     . exact .inr (fun k hk => by
        by_cases e : k = m
        . subst e; exact .inr hlt
        . exact h1 k Cp)
     . have hz : ∀ i, i < m -> x i = 0 := fun i hi => (h1 i hi).elim id (fun h2 => by have := h.inc i m hi Cp; omega);have h3 := h.at x (by omega : m < n) hz;rw [<- hx] at h3;by_cases e : l m = q
       . refine .inl ⟨m, by omega, e, ?_⟩;rw [e] at h3; rw [h3]; exact Int.dvd_mul_left ..
       . have h4 : v (l m) = 0 := h0 _ Cp;rw [h4] at h3;have h5 := h.pos m Cp;have h6 : x m = 0 := by
          rcases Int.mul_eq_zero.1 h3.symm with h7 | h7
          . exact h7
          . omega
         exact .inr (fun k hk => by
          by_cases e : k = m
          . subst e; exact .inl h6
          . exact .inl (hz k Cp))
 rcases key n (Ct _) with h1 | h1
 . exact h1
 . exfalso;apply hq;rw [hx];refine bR (fun k hk => ?_);rcases h1 k hk with h2 | h2
   . rw [h2, De]
   . rw [h.zero k hk _ h2, CS]
theorem Ech.same {n m c c' : Nat} {E F : Nat -> Nat -> Int} {l l' : Nat -> Nat} (h : Ech n c E l) (h' : Ech m c' F l') (hs : bc n E m F) : n = m /\ ∀ k, k < n -> l k = l' k /\ E k (l k) = F k (l k) := by
 have one : ∀ {n m c c' : Nat} {E F : Nat -> Nat -> Int} {l l' : Nat -> Nat}, Ech n c E l -> Ech m c' F l' -> bc n E m F -> ∀ k, (∀ i, i < k -> i < n -> i < m -> l i = l' i) -> k < n -> (∀ i, i < k -> i < m) -> k < m /\ l' k <= l k /\ ∀ t, t < m -> l' t = l k -> F t (l k) ∣ E k (l k) := by
  intro n m c c' E F l l' h h' hs k ih hk hkm;obtain ⟨t, ht, e, hd⟩ := h'.lead (hs.1 k hk) (q := l k) (by have := h.pos k hk; omega) (h.zero k hk);have h1 : k <= t := by
   by_cases h2 : k <= t
   . exact h2
   . exfalso;have h3 := ih t Cp Cp ht;have h4 := h.inc t k Cp hk;omega
  have h2 : k < m := by omega
  refine ⟨h2, ?_, ?_⟩
  . rcases EE h1 with h3 | h3
    . have := h'.inc k t h3 ht; omega
    . subst h3; omega
  . intro t' ht' e';have : t' = t := by
     rcases Dl t' t with h3 | h3 | h3
     . have := h'.inc t' t h3 ht; omega
     . exact h3
     . have := h'.inc t t' h3 ht'; omega
    subst this; exact hd
 have all : ∀ k, (k < n ↔ k < m) /\ (k < n -> l k = l' k /\ E k (l k) = F k (l k)) := by
  intro k;induction k using Nat.strongRecOn with
  | _ k ih =>
   have h1 : k < n -> k < m := fun hk => (one h h' hs k (fun i hi hn _ => ((ih i hi).2 hn).1) hk (fun i hi => (ih i hi).1.1 Cp)).1;have h2 : k < m -> k < n := fun hk => (one h' h hs.symm k (fun i hi hm _ => ((ih i hi).2 ((ih i hi).1.2 hm)).1.symm) hk (fun i hi => (ih i hi).1.2 Cp)).1;refine ⟨⟨h1, h2⟩, fun hk => ?_⟩;have h3 := one h h' hs k (fun i hi hn _ => ((ih i hi).2 hn).1) hk (fun i hi => (ih i hi).1.1 Cp);have h4 := one h' h hs.symm k (fun i hi hm _ => ((ih i hi).2 ((ih i hi).1.2 hm)).1.symm) (h1 hk) (fun i hi => (ih i hi).1.2 Cp);have e : l k = l' k := by omega
   refine ⟨e, ?_⟩;have d1 := h3.2.2 k (h1 hk) e.symm;have d2 := h4.2.2 k hk e;rw [<- e] at d2;have p1 := h.pos k hk;have p2 := h'.pos k (h1 hk);rw [<- e] at p2;exact Int.dvd_antisymm (D1 p1) (D1 p2) d2 d1
 refine ⟨?_, fun k hk => (all k).2 hk⟩;have h1 := (all n).1;have h2 := (all m).1;omega
theorem eo.unique {n m c c' : Nat} {E F : Nat -> Nat -> Int} {l l' : Nat -> Nat} (h : eo n c E l) (h' : eo m c' F l') (hs : bc n E m F) : n = m /\ (∀ k, k < n -> l k = l' k) /\ ∀ k, k < n -> ∀ j, E k j = F k j := by
 obtain ⟨hnm, hl⟩ := h.toEch.same h'.toEch hs;refine ⟨hnm, fun k hk => (hl k hk).1, fun i hi j => ?_⟩;have hw : Sp n E (fun j => E i j - F i j) := (Sp.row E hi).sub (hs.2 i Cp);have := h.toEch.none hw (fun k hk => ?_) j
 . omega
 . have hlk := hl k hk;have hp := h.pos k hk;rcases Dl k i with h1 | h1 | h1
   . have e1 : E i (l k) = 0 := h.zero i hi _ (h.inc k i h1 hi);have e2 : F i (l k) = 0 := h'.zero i Cp _ (by rw [hlk.1]; exact h'.inc k i h1 Cp);rw [e1, e2]; omega
   . subst h1;have := hlk.2; omega
   . have r1 := h.red i k h1 hk;have r2 := h'.red i k h1 Cp;rw [<- hlk.1, <- hlk.2] at r2;omega
def sQ (n : Nat) (a : Nat -> Nat -> Int) : Prop := ∀ x : Nat -> Int, (∀ j, sm n (fun k => x k * a k j) = 0) -> ∀ k, k < n -> x k = 0
theorem common : ∀ (n : Nat) (Y : Nat -> Int), (∀ k, k < n -> Y k ≠ 0) -> ∃ d : Int, d ≠ 0 /\ ∀ k, k < n -> Y k ∣ d
 | 0, _, _ => ⟨1, by omega, fun k hk => by omega⟩
 | n + 1, Y, h => by
  obtain ⟨d, hd, hk⟩ := common n Y (fun k hk => h k Cp);refine ⟨d * Y n, fun e => ?_, fun k hk' => ?_⟩
  . rcases Int.mul_eq_zero.1 e with e | e
    . exact hd e
    . exact h n Cp e
  . by_cases e : k = n
    . subst e; exact Int.dvd_mul_left ..
    . exact Int.dvd_mul_of_dvd_left (hk k Cp)
def uW (n M : Nat) : Nat := n * (n * ((2 * n * M + 1) ^ (n - 1) * M)) * (n * ((2 * n * M + 1) ^ (n - 1) * M))
theorem eo.bound {n c M : Nat} {E : Nat -> Nat -> Int} {l : Nat -> Nat} (h : eo n c E l) {a : Nat -> Nat -> Int} (ha : ∀ k, k < n -> Sp n E (a k)) (hi : sQ n a) (hM : ∀ k j, k < n -> (a k j).natAbs <= M) : ∀ i j, i < n -> (E i j).natAbs <= uW n M := by
 obtain ⟨D, hD⟩ := Cs (n * ((2 * n * M + 1) ^ (n - 1) * M));have hy : ∀ i, i < n -> ∃ y : Nat -> Int, Sp n E y /\ (∀ j, (y j).natAbs <= D) /\ (∀ k, k < n -> k ≠ i -> y (l k) = 0) /\ y (l i) ≠ 0 := by
  intro i hin;obtain ⟨x, ⟨k0, hk0, hx0⟩, hxb, hxz⟩ := Ci n (n - 1) M (fun k q => a k (l (if q < i then q else q + 1))) Cp (fun k j hk _ => hM k _ hk);have hz : ∀ k, k < n -> k ≠ i -> sm n (fun t => x t * a t (l k)) = 0 := by
   intro k hk hne;rcases EV hne with h1 | h1
   . have := hxz k Cp;simpa [h1] using this
   . have := hxz (k - 1) Cp;have e : ¬ k - 1 < i := by omega
     have e2 : k - 1 + 1 = k := by omega
     simpa [e, e2] using this
  have hsp : Sp n E (fun j => sm n (fun k => x k * a k j)) := Sp.sm ha;refine ⟨fun j => sm n (fun k => x k * a k j), hsp, fun j => ?_, hz, fun e => ?_⟩
  . rw [<- hD];refine na (fun k hk => ?_);rw [CP];exact Da (hxb k hk) (hM k j hk)
  . have h0 := h.toEch.AO hsp (fun k hk => by
     by_cases e' : k = i
     . subst e'; exact e
     . exact hz k hk e')
    exact hx0 (hi x h0 k0 hk0)
 have hpiv : ∀ i, i < n -> (E i (l i)).natAbs <= D := by
  intro i hin;obtain ⟨y, hs, hb, hz, hn⟩ := hy i hin;obtain ⟨x, hx⟩ := hs;have h0 : ∀ k, k < i -> x k = 0 := h.toEch.small x i Cp (fun k hk => by
   rw [<- hx, hz k Cp Cp]; have := h.pos k Cp; omega)
  have h1 := h.toEch.at x hin h0;rw [<- hx] at h1;have h2 := hb (l i);rw [h1, CP] at h2;have h3 : 1 <= (x i).natAbs := by
   have : x i ≠ 0 := fun e => hn (by rw [h1, e, De]);omega
  have h4 := Cy (E i (l i)).natAbs h3;omega
 have hent : ∀ i k, i < n -> k < n -> (E i (l k)).natAbs <= D := by
  intro i k hin hk;rcases Dl i k with h1 | h1 | h1
  . have := h.red i k h1 hk; have := hpiv k hk; omega
  . subst h1; exact hpiv i hin
  . rw [h.zero i hin _ (h.inc k i h1 hin)]; simp
 intro i j hin;obtain ⟨y, hY⟩ : ∃ y : Nat -> Nat -> Int, ∀ i, i < n -> Sp n E (y i) /\ (∀ j, (y i j).natAbs <= D) /\ (∀ k, k < n -> k ≠ i -> y i (l k) = 0) /\ y i (l i) ≠ 0 := by
  refine ⟨fun i => if hin : i < n then Classical.choose (hy i hin) else fun _ => 0, fun i hin => ?_⟩;simp only [hin, dif_pos];exact Classical.choose_spec (hy i hin)
 obtain ⟨d, hd, hdv⟩ := common n (fun k => y k (l k)) (fun k hk => (hY k hk).2.2.2);obtain ⟨q, hq⟩ : ∃ q : Nat -> Int, ∀ k, k < n -> d = q k * y k (l k) := by
  refine ⟨fun k => d / y k (l k), fun k hk => ?_⟩;exact (Int.ediv_mul_cancel (hdv k hk)).symm
 have hsp : Sp n E (fun j => d * E i j - sm n (fun k => (E i (l k) * q k) * y k j)) := ((Sp.row E hin).smul d).sub (Sp.sm (fun k hk => (hY k hk).1));have h0 := h.toEch.AO hsp (fun m hm => by
  rw [eH m hm (fun k hk hne => by rw [(hY k hk).2.2.1 m hm (fun e => hne e.symm), CS])];rw [CH, <- hq m hm, Dc]; omega) j
 have hb : (sm n (fun k => (E i (l k) * q k) * y k j)).natAbs <= n * (D * d.natAbs * D) := by
  refine na (fun k hk => ?_);rw [CP, CP];have h1 : (q k).natAbs <= d.natAbs := by
   have e := congrArg Int.natAbs (hq k hk);rw [CP] at e;have h2 : 1 <= (y k (l k)).natAbs := by have := (hY k hk).2.2.2; omega
   have h3 := CD (q k).natAbs h2;omega
  exact Da (Da (hent i k hin hk) h1) ((hY k hk).2.1 j)
 have h1 : (d * E i j).natAbs <= n * (D * d.natAbs * D) := by
  have : d * E i j = sm n (fun k => (E i (l k) * q k) * y k j) := by omega
  rw [this]; exact hb
 rw [CP] at h1;have h2 : n * (D * d.natAbs * D) = d.natAbs * (n * D * D) := by
  simp only [CE, Dy, CN]
 rw [h2] at h1;have h3 := Nat.le_of_mul_le_mul_left h1 (by omega : 0 < d.natAbs);unfold uW;rw [hD]; exact h3
theorem ix (xs : List Int) {i : Nat} (d : Int) (h : i < xs.length) : xs.getD i d = xs[i] := by simp [h]
theorem fI (xs : List Int) {i : Nat} (d : Int) (h : xs.length <= i) : xs.getD i d = d := by simp [h]
theorem smTwo (n k l : Nat) (f : Nat -> Int) (hk : k < n) (hl : l < n) (hkl : k ≠ l) (h : ∀ i < n, i ≠ k -> i ≠ l -> f i = 0) : sm n f = f k + f l := by
 have e : sm n f = sm n (fun i => (if i = k then f i else 0) + (if i = k then 0 else f i)) := ak (fun i _ => by split <;> omega);rw [e, im, eH k hk (fun i _ hik => if_neg hik), eH l hl (fun i hi hil => by
  by_cases hik : i = k
  . exact if_pos hik
  . rw [if_neg hik]; exact h i hi hik hil), if_pos rfl, if_neg (fun e => hkl e.symm)]
abbrev Mx := Nat -> Nat -> Int
def cK (i a : Nat) : Nat := if a < i then a else a + 1
def minor (M : Mx) (i : Nat) : Mx := fun a b => M (cK i a) (b + 1)
def et (i : Nat) : Int := if i % 2 = 0 then 1 else -1
theorem kV (i : Nat) : et (i + 1) = - et i := by
 unfold et
 (repeat' split) <;> first | rfl | omega
def aS : Nat -> Mx -> Int
 | 0, _ => 1
 | n + 1, M => sm (n + 1) fun i => et i * M i 0 * aS n (minor M i)
theorem aP : ∀ (n : Nat) {M N : Mx}, (∀ i < n, ∀ j < n, M i j = N i j) -> aS n M = aS n N
 | 0, _, _, _ => rfl
 | n + 1, M, N, h => by
  unfold aS;refine ak fun i hi => ?_;rw [h i hi 0 Cp, aP n (M := minor M i) (N := minor N i) fun a ha b hb => h _ (by unfold cK; split <;> omega) _ Cp]
def bU (M : Mx) (k : Nat) (R : Nat -> Int) : Mx := fun a b => if a = k then R b else M a b
theorem gA (M : Mx) (k : Nat) (R : Nat -> Int) : minor (bU M k R) k = minor M k := by
 funext a b;unfold minor bU cK;split <;> rw [if_neg Cp]
theorem fJ (M : Mx) (k i : Nat) (R : Nat -> Int) (h : i ≠ k) : minor (bU M k R) i = bU (minor M i) (if k < i then k else k - 1) (fun b => R (b + 1)) := by
 funext a b;unfold minor bU cK;by_cases ha : a < i <;> by_cases hk : k < i <;> simp only [ha, hk, if_true, if_false] <;> split <;> split <;> first | rfl | (exfalso; omega)
theorem iP : ∀ (n : Nat) (M : Mx) (k : Nat) (c : Int) (U V : Nat -> Int), k < n -> aS n (bU M k fun j => c * U j + V j) = c * aS n (bU M k U) + aS n (bU M k V)
 | n + 1, M, k, c, U, V, hk => by
  unfold aS;rw [<- bQ, <- im];refine ak fun i hi => ?_;by_cases h : i = k
  . subst h;rw [gA, gA, gA];simp only [bU, if_pos];generalize aS n (minor M i) = d;rw [DB, DY, <- CH, <- CH, Dc (et i) c];simp only [CH]
  . rw [fJ M k i _ h, fJ M k i _ h, fJ M k i _ h, iP n (minor M i) _ c (fun b => U (b + 1)) (fun b => V (b + 1)) (by split <;> omega)];simp only [bU, if_neg h];rw [DB, <- CH, <- CH, Dc _ c, CH c]
theorem mV : ∀ (n : Nat) (M : Mx) (k : Nat), k + 1 < n -> (∀ j < n, M k j = M (k + 1) j) -> aS n M = 0
 | n + 1, M, k, hk, h => by
  unfold aS;rw [smTwo (n + 1) k (k + 1) _ Cp Cp Cp fun i hi h1 h2 => ?_]
  . have e : minor M k = minor M (k + 1) \/ True := .inr trivial;have e2 : aS n (minor M k) = aS n (minor M (k + 1)) := aP n fun a ha b hb => by
     unfold minor cK;by_cases h1 : a < k
     . rw [if_pos h1, if_pos Cp]
     . rw [if_neg h1];by_cases h3 : a = k
       . subst h3; rw [if_pos Cp]; exact (h (b + 1) Cp).symm
       . rw [if_neg Cp]
    rw [e2, h 0 Cp, kV, Du, Du];omega
  . have : aS n (minor M i) = 0 := by
     by_cases hik : i < k
     . refine mV n _ (k - 1) Cp fun j hj => ?_;unfold minor cK;rw [if_neg Cp, if_neg Cp, show k - 1 + 1 = k by omega];exact h (j + 1) Cp
     . refine mV n _ k Cp fun j hj => ?_;unfold minor cK;rw [if_pos Cp, if_pos Cp];exact h (j + 1) Cp
    rw [this, CS]
theorem fG (M : Mx) (k : Nat) : bU M k (M k) = M := by
 funext a b; unfold bU; split
 . rename_i h; rw [h]
 . rfl
theorem dF (M : Mx) {k l : Nat} (h : k ≠ l) (R R' : Nat -> Int) : bU (bU M k R) l R' = bU (bU M l R') k R := by
 funext a b; unfold bU; (repeat' split) <;> first | rfl | omega
theorem bV (M : Mx) (k : Nat) (R : Nat -> Int) : bU M k R k = R := by funext b; simp [bU]
theorem aZ (M : Mx) {k l : Nat} (h : l ≠ k) (R : Nat -> Int) : bU M k R l = M l := by funext b; simp [bU, h]
theorem jS (n : Nat) (M : Mx) (k : Nat) (U V : Nat -> Int) (hk : k < n) : aS n (bU M k fun j => U j + V j) = aS n (bU M k U) + aS n (bU M k V) := by
 have := iP n M k 1 U V hk;simpa using this
theorem iD (n : Nat) (M : Mx) (k : Nat) (c : Int) (U : Nat -> Int) (hk : k < n) : aS n (bU M k fun j => c * U j) = c * aS n (bU M k U) := by
 have h := iP n M k c U (fun _ => 0) hk;have h0 := iP n M k (-1) (fun _ => 0) (fun _ => 0) hk;simp at h h0;rw [h]; omega
theorem vU (n : Nat) (M : Mx) (k : Nat) (hk : k + 1 < n) (A B : Nat -> Int) : aS n (bU (bU M k A) (k + 1) B) = - aS n (bU (bU M k B) (k + 1) A) := by
 have z : ∀ C : Nat -> Int, aS n (bU (bU M k C) (k + 1) C) = 0 := fun C => mV n _ k hk fun j _ => by
  rw [aZ _ Cp, bV, bV]
 have s := z fun j => A j + B j;rw [jS n _ _ _ _ hk, dF M (by omega : k ≠ k + 1), dF M (by omega : k ≠ k + 1), jS n _ _ _ _ Cp, jS n _ _ _ _ Cp,
  <- dF M (by omega : k ≠ k + 1), <- dF M (by omega : k ≠ k + 1), <- dF M (by omega : k ≠ k + 1), <- dF M (by omega : k ≠ k + 1), z A, z B] at s
 omega
theorem qW : ∀ (d n : Nat) (M : Mx) (k : Nat), k + d + 1 < n -> (∀ j, M k j = M (k + d + 1) j) -> aS n M = 0
 | 0, n, M, k, hk, h => mV n M k hk fun j _ => h j
 | d + 1, n, M, k, hk, h => by
  have e := vU n M (k + d + 1) Cp (M (k + d + 1)) (M (k + d + 2));rw [fG M (k + d + 1), fG M (k + d + 2)] at e;rw [e, qW d n _ k Cp fun j => ?_]
  . rfl
  . rw [aZ _ Cp, aZ _ Cp, aZ _ Cp, bV];exact h j
theorem gv (n : Nat) (M : Mx) {k l : Nat} (hk : k < n) (hl : l < n) (hkl : k ≠ l) (h : ∀ j, M k j = M l j) : aS n M = 0 := by
 rcases EV hkl with h1 | h1
 . exact qW (l - k - 1) n M k Cp fun j => by rw [show k + (l - k - 1) + 1 = l by omega]; exact h j
 . exact qW (k - l - 1) n M l Cp fun j => by rw [show l + (k - l - 1) + 1 = k by omega]; exact (h j).symm
theorem kG (n : Nat) (M : Mx) (k : Nat) (hk : k < n) (c : Nat -> Int) (hc : c k = 0) : ∀ (m : Nat), m <= n -> ∀ U : Nat -> Int, aS n (bU M k fun j => U j + sm m fun l => c l * M l j) = aS n (bU M k U)
 | 0, _, U => by simp [sm]
 | m + 1, hm, U => by
  have e : (fun j => U j + sm (m + 1) fun l => c l * M l j) = fun j => c m * M m j + (U j + sm m fun l => c l * M l j) := by
   funext j;show U j + (sm m (fun l => c l * M l j) + c m * M m j) = c m * M m j + (U j + sm m (fun l => c l * M l j));generalize c m * M m j = z;omega
  rw [e, iP n M k _ _ _ hk, kG n M k hk c hc m Cp U];by_cases hmk : m = k
  . rw [hmk, hc, De, Ed]
  . rw [gv n (bU M k (M m)) hk Cp (fun e => hmk e.symm) fun j => by rw [bV, aZ _ hmk]];rw [CS, Ed]
theorem rF (n : Nat) (M : Mx) {k l : Nat} (hk : k < n) (hl : l < n) (hkl : k ≠ l) (A B : Nat -> Int) : aS n (bU (bU M k A) l B) = - aS n (bU (bU M k B) l A) := by
 have z : ∀ C : Nat -> Int, aS n (bU (bU M k C) l C) = 0 := fun C => gv n _ hk hl hkl fun j => by
  rw [aZ _ hkl, bV, bV]
 have s := z fun j => A j + B j;rw [jS n _ _ _ _ hl, dF M hkl, dF M hkl, jS n _ _ _ _ hk, jS n _ _ _ _ hk, <- dF M hkl, <- dF M hkl, <- dF M hkl, <- dF M hkl, z A, z B] at s;omega
theorem qg (n : Nat) (M : Mx) (k : Nat) (hk : k < n) (c : Nat -> Int) (R : Nat -> Nat -> Int) : ∀ m, aS n (bU M k fun j => sm m fun l => c l * R l j) = sm m fun l => c l * aS n (bU M k (R l))
 | 0 => by
  have := iD n M k 0 (fun _ => 0) hk;simpa [sm] using this
 | m + 1 => by
  have e : (fun j => sm (m + 1) fun l => c l * R l j) = fun j => c m * R m j + sm m fun l => c l * R l j := by
   funext j; simp only [sm]; omega
  rw [e, iP n M k _ _ _ hk, qg n M k hk c R m];simp only [sm]; omega
theorem yU (n : Nat) (f : Nat -> Nat) (hf : ∀ i < n, f i < n) (hi : ∀ i < n, ∀ j < n, f i = f j -> i = j) (k : Nat) (hk : k < n) : ∃ i < n, f i = k := by
 refine DG fun hc => ?_;have hne : ∀ i < n, f i ≠ k := fun i h e => hc ⟨i, h, e⟩;obtain ⟨m, rfl⟩ : ∃ m, n = m + 1 := ⟨n - 1, by omega⟩;obtain ⟨i, j, h1, h2, h3⟩ := qk m (fun i => if f i < k then f i else f i - 1) (fun i h => by
  have := hf i Cp; have := hne i Cp;show (if f i < k then f i else f i - 1) < m;split <;> omega)
 have h4 : f i = f j := by
  have a := hne i Cp; have b := hne j Cp;have h3 : (if f i < k then f i else f i - 1) = (if f j < k then f j else f j - 1) := h3;split at h3 <;> split at h3 <;> omega
 have := hi i Cp j Cp h4;omega
theorem nR (n : Nat) (A : Mx) : ∀ (d : Nat) (σ : Nat -> Nat), (∀ i < n, σ i < n) -> (∀ i, i + d < n -> σ i = i) -> d <= n -> aS n (fun i => A (σ i)) = 0 \/ (aS n (fun i => A (σ i))).natAbs = (aS n A).natAbs
 | 0, σ, _, h, _ => .inr (by rw [aP n (M := fun i => A (σ i)) (N := A) fun i hi j _ => by rw [h i Cp]])
 | d + 1, σ, h1, h2, hd => by
  by_cases hinj : ∀ i < n, ∀ j < n, σ i = σ j -> i = j
  . obtain ⟨i, hi, he⟩ := yU n σ h1 hinj (n - (d + 1)) Cp;have hge : n - (d + 1) <= i := by
     refine Ff fun hlt => ?_;have := h2 i Cp; omega
    by_cases hik : i = n - (d + 1)
    . refine nR n A d σ h1 (fun a ha => ?_) Cp;by_cases e : a = n - (d + 1)
      . have h5 : a = i := e.trans hik.symm;rw [h5, he]; exact hik.symm
      . exact h2 a Cp
    . have e : (fun a => A (σ a)) = bU (bU (fun a => A (if a = n - (d + 1) then n - (d + 1) else if a = i then σ (n - (d + 1)) else σ a)) (n - (d + 1)) (A (σ (n - (d + 1))))) i (A (σ i)) := by
       funext a b;unfold bU;by_cases h3 : a = i
       . rw [if_pos h3, h3]
       . rw [if_neg h3];by_cases h4 : a = n - (d + 1)
         . rw [if_pos h4, h4]
         . rw [if_neg h4];show A (σ a) b = A (if a = n - (d + 1) then n - (d + 1) else if a = i then σ (n - (d + 1)) else σ a) b;rw [if_neg h4, if_neg h3]
      have e2 : bU (bU (fun a => A (if a = n - (d + 1) then n - (d + 1) else if a = i then σ (n - (d + 1)) else σ a)) (n - (d + 1)) (A (σ i))) i (A (σ (n - (d + 1)))) = fun a => A (if a = n - (d + 1) then n - (d + 1) else if a = i then σ (n - (d + 1)) else σ a) := by
       funext a b;unfold bU;by_cases h3 : a = i
       . rw [if_pos h3, if_neg Cp, if_pos h3]
       . rw [if_neg h3];by_cases h4 : a = n - (d + 1)
         . rw [if_pos h4, if_pos h4, he]
         . rw [if_neg h4]
      rw [e, rF n _ Cp hi (fun h => hik h.symm), e2];have := nR n A d (fun a => if a = n - (d + 1) then n - (d + 1) else if a = i then σ (n - (d + 1)) else σ a) (fun a ha => by
       split
       . omega
       . split
         . exact h1 _ Cp
         . exact h1 a ha) (fun a ha => by
       split
       . omega
       . rw [if_neg Cp]; exact h2 a Cp) Cp
      rcases this with h | h
      . exact .inl (by rw [h]; rfl)
      . exact .inr (by rw [DK]; exact h)
  . refine .inl ?_;simp only [Classical.not_forall] at hinj;obtain ⟨i, hi, j, hj, he, hne⟩ := hinj;exact gv n _ hi hj hne fun b => by rw [he]
structure oZ (k : Nat) (R : Mx) (p : Nat -> Nat) : Prop where
 at_ : ∀ i < k, R i (p i) ≠ 0
 zero : ∀ i < k, ∀ j < p i, R i j = 0
 clr : ∀ a < k, ∀ i < a, R a (p i) = 0
theorem oZ.inj {k : Nat} {R : Mx} {p : Nat -> Nat} (h : oZ k R p) : ∀ i < k, ∀ j < k, p i = p j -> i = j := by
 have key : ∀ i j, i < j -> j < k -> p i ≠ p j := fun i j hij hj e => h.at_ j hj (e ▸ h.clr j hj i hij);intro i hi j hj e;rcases Dl i j with h1 | h1 | h1
 . exact absurd e (key i j h1 hj)
 . exact h1
 . exact absurd e.symm (key j i h1 hi)
theorem oZ.lead {k : Nat} {R : Mx} {p : Nat -> Nat} (h : oZ k R p) {v : Nat -> Int} (hv : Sp k R v) {q : Nat} (hq : v q ≠ 0) (h0 : ∀ j < q, v j = 0) : ∃ i < k, p i = q := by
 obtain ⟨x, hx⟩ := hv;have key : ∀ m a, p a = m -> m < q -> a < k -> x a = 0 := by
  intro m;induction m using Nat.strongRecOn with
  | _ m ih =>
   intro a hm hq ha;refine DG fun hne => ?_;have h1 := h0 m hq;rw [hx, eH a ha fun b hb hba => ?_] at h1
   . rcases Int.mul_eq_zero.1 h1 with h2 | h2
     . exact hne h2
     . exact h.at_ a ha (hm ▸ h2)
   . rcases Dl (p b) m with h2 | h2 | h2
     . rw [ih (p b) h2 b rfl Cp hb, De]
     . exact absurd (h.inj b hb a ha (h2.trans hm.symm)) hba
     . rw [h.zero b hb m h2, CS]
 refine DG fun hc => hq ?_;rw [hx];refine bR fun b hb => ?_;rcases Dl (p b) q with h2 | h2 | h2
 . rw [key _ b rfl h2 hb, De]
 . exact absurd ⟨b, hb, h2⟩ hc
 . rw [h.zero b hb q h2, CS]
theorem sJ {k r n c : Nat} {R A E : Mx} {p l : Nat -> Nat} (h : oZ k R p) (hE : Ech r c E l) (hs : bc r E n A) (h1 : ∀ i < n, ∃ N : Int, N ≠ 0 /\ Sp k R fun j => N * A i j) (h2 : ∀ i < k, ∃ N : Int, N ≠ 0 /\ Sp n A fun j => N * R i j) : k = r := by
 have one : ∀ i < k, ∃ a, a < r /\ l a = p i := fun i hi => by
  obtain ⟨N, hN, hsp⟩ := h2 i hi;obtain ⟨a, ha, he, _⟩ := hE.lead (hsp.trans hs.2) (q := p i) (EI hN (h.at_ i hi)) fun j hj => by rw [h.zero i hi j hj, CS]
  exact ⟨a, ha, he⟩
 have all : ∀ v, Sp n A v -> ∃ N : Int, N ≠ 0 /\ Sp k R fun j => N * v j := by
  intro v ⟨x, hx⟩;have key : ∀ m, m <= n -> ∃ N : Int, N ≠ 0 /\ Sp k R fun j => N * sm m fun i => x i * A i j := by
   intro m;induction m with
   | zero => intro _; exact ⟨1, by decide, (Sp.zero k R).congr fun j => by simp [sm]⟩
   | succ m ih =>
    intro hm;obtain ⟨N, hN, hsp⟩ := ih Cp;obtain ⟨M, hM, hsq⟩ := h1 m Cp;refine ⟨N * M, EI hN hM, (((hsp.smul M).add (hsq.smul (N * x m))).congr fun j => ?_)⟩;simp only [sm];rw [DB, Dc N M, CH];congr 1;rw [CH, CH, Dr M N, Dr M (x m)]
  obtain ⟨N, hN, hsp⟩ := key n (Ct _);exact ⟨N, hN, hsp.congr fun j => by rw [hx]⟩
 have two : ∀ a < r, ∃ i, i < k /\ p i = l a := fun a ha => by
  obtain ⟨N, hN, hsp⟩ := all (E a) (hs.1 a ha);obtain ⟨i, hi, he⟩ := h.lead hsp (q := l a) (EI hN (by have := hE.pos a ha; omega)) fun j hj => by rw [hE.zero a ha j hj, CS]
  exact ⟨i, hi, he⟩
 have le : ∀ (a b : Nat) (f g : Nat -> Nat), (∀ i < a, ∃ j, j < b /\ g j = f i) -> (∀ i < a, ∀ j < a, f i = f j -> i = j) -> a <= b := by
  intro a b f g hfg hinj;refine Ff fun hlt => ?_;have hs : ∀ i, ∃ j, i < a -> j < b /\ g j = f i := fun i => by
   by_cases hi : i < a
   . obtain ⟨j, h1, h2⟩ := hfg i hi; exact ⟨j, fun _ => ⟨h1, h2⟩⟩
   . exact ⟨0, fun h => absurd h hi⟩
  obtain ⟨σ, hσ⟩ := DT hs;obtain ⟨i, j, h3, h4, h5⟩ := qk b σ fun i hi => (hσ i Cp).1;have := hinj i Cp j Cp (by rw [<- (hσ i Cp).2, <- (hσ j Cp).2, h5]);omega
 exact Nat.le_antisymm (le k r p l one h.inj) (le r k l p two fun i hi j hj e => by
  rcases Dl i j with h1 | h1 | h1
  . have := hE.inc i j h1 hj; omega
  . exact h1
  . have := hE.inc j i h1 hi; omega)
theorem ta {k n : Nat} {R A : Mx} (h1 : ∀ i < n, ∃ N : Int, N ≠ 0 /\ Sp k R fun j => N * A i j) {v : Nat -> Int} (hv : Sp n A v) : ∃ N : Int, N ≠ 0 /\ Sp k R fun j => N * v j := by
 obtain ⟨x, hx⟩ := hv;have key : ∀ m, m <= n -> ∃ N : Int, N ≠ 0 /\ Sp k R fun j => N * sm m fun i => x i * A i j := by
  intro m;induction m with
  | zero => intro _; exact ⟨1, by decide, (Sp.zero k R).congr fun j => by simp [sm]⟩
  | succ m ih =>
   intro hm;obtain ⟨N, hN, hsp⟩ := ih Cp;obtain ⟨M, hM, hsq⟩ := h1 m Cp;refine ⟨N * M, EI hN hM, (((hsp.smul M).add (hsq.smul (N * x m))).congr fun j => ?_)⟩;simp only [sm];rw [DB, Dc N M, CH];congr 1;rw [CH, CH, Dr M N, Dr M (x m)]
 obtain ⟨N, hN, hsp⟩ := key n (Ct _);exact ⟨N, hN, hsp.congr fun j => by rw [hx]⟩
def mv : Nat -> (Nat -> Int) -> Int
 | 0, _ => 1
 | n + 1, f => mv n f * f n
theorem sZ : ∀ (n : Nat) {f : Nat -> Int}, (∀ i < n, f i ≠ 0) -> mv n f ≠ 0
 | 0, _, _ => Int.one_ne_zero
 | n + 1, f, h => EI (sZ n fun i hi => h i Cp) (h n Cp)
theorem xC (n : Nat) (A R : Mx) (up dn : Nat -> Int) (c : Nat -> Nat -> Int) (h : ∀ i < n, ∀ j, dn i * R i j = up i * A i j + sm i fun t => c i t * R t j) : mv n dn * aS n R = mv n up * aS n A := by
 obtain ⟨X, hX⟩ : ∃ X : Nat -> Mx, ∀ k i, X k i = if i < k then R i else A i := ⟨fun k i => if i < k then R i else A i, fun _ _ => rfl⟩;have key : ∀ k, k <= n -> mv k dn * aS n (X k) = mv k up * aS n A := by
  intro k;induction k with
  | zero =>
   intro _;have : X 0 = A := by funext i; rw [hX, if_neg (Dv i)]
   rw [this]; rfl
  | succ k ih =>
   intro hk;have h1 : X (k + 1) = bU (X k) k (R k) := by
    funext i j;unfold bU;rw [hX, hX];by_cases e : i = k
    . subst e; rw [if_pos Cp, if_pos rfl]
    . rw [if_neg e];by_cases e2 : i < k
      . rw [if_pos Cp, if_pos e2]
      . rw [if_neg Cp, if_neg e2]
   have h2 : dn k * aS n (X (k + 1)) = up k * aS n (X k) := by
    rw [h1, <- iD n (X k) k (dn k) (R k) hk];have e : (fun j => dn k * R k j) = fun j => (up k * A k j) + sm k fun t => (if t < k then c k t else 0) * X k t j := by
     funext j;rw [h k hk];congr 1;exact ak fun t ht => by rw [if_pos ht, hX, if_pos ht]
    rw [e, kG n (X k) k hk (fun t => if t < k then c k t else 0) (by rw [if_neg (DA k)]) k Cp (fun j => up k * A k j), iD n (X k) k (up k) (A k) hk];congr 1;have : bU (X k) k (A k) = X k := by
     have := fG (X k) k;rw [hX k k, if_neg (DA k)] at this; exact this
    rw [this]
   rw [mv, mv, CH, h2, Dr, ih Cp, <- CH, Dc (up k)]
 have := key n (Ct n);have e : aS n (X n) = aS n R := aP n fun i hi j _ => by rw [hX, if_pos hi]
 rw [e] at this; exact this
def tp (A : Mx) : Mx := fun i j => A j i
def Mn (k : Nat) (x : Int) (r c : Nat) (A : Mx) : Prop := ∀ σ τ : Nat -> Nat, (∀ a < k, σ a < r) -> (∀ b < k, τ b < c) -> x ∣ aS k fun a b => A (σ a) (τ b)
theorem uv {x : Int} {f : Nat -> Int} : ∀ m, (∀ l < m, x ∣ f l) -> x ∣ sm m f
 | 0, _ => Int.dvd_zero _
 | m + 1, h => Int.dvd_add (uv m fun l hl => h l Cp) (h m Cp)
theorem tq {k r : Nat} {x : Int} {A B : Mx} (h : ∀ σ : Nat -> Nat, (∀ a < k, σ a < r) -> x ∣ aS k fun a b => A (σ a) b) (hB : ∀ i < k, Sp r A (B i)) : x ∣ aS k B := by
 have key : ∀ m, m <= k -> ∀ N : Mx, (∀ a < m, ∃ i < k, N a = B i) -> (∀ a, m <= a -> a < k -> ∃ i < r, N a = A i) -> x ∣ aS k N := by
  intro m;induction m with
  | zero =>
   intro _ N _ h2;have hs : ∀ a, ∃ i, a < k -> i < r /\ N a = A i := fun a => by
    by_cases ha : a < k
    . obtain ⟨i, hi, e⟩ := h2 a (Cx _) ha; exact ⟨i, fun _ => ⟨hi, e⟩⟩
    . exact ⟨0, fun q => absurd q ha⟩
   obtain ⟨ρ, hρ⟩ := DT hs;rw [aP k (N := fun a b => A (ρ a) b) fun a ha b _ => by rw [(hρ a ha).2]];exact h ρ fun a ha => (hρ a ha).1
  | succ m ih =>
   intro hm N h1 h2;obtain ⟨i, hi, e⟩ := h1 m Cp;obtain ⟨y, hy⟩ := hB i hi;have eN : N = bU N m fun b => sm r fun l => y l * A l b := by
    funext a b;unfold bU;split
    . rename_i q; rw [q, e, hy]
    . rfl
   rw [eN, qg k N m Cp y A];refine uv r fun l hl => Int.dvd_mul_of_dvd_right (ih Cp _ (fun a ha => ?_) fun a ha hk => ?_)
   . obtain ⟨i', hi', e'⟩ := h1 a Cp;exact ⟨i', hi', by rw [aZ N Cp]; exact e'⟩
   . by_cases q : a = m
     . exact ⟨l, hl, by rw [q, bV]⟩
     . obtain ⟨i', hi', e'⟩ := h2 a Cp hk;exact ⟨i', hi', by rw [aZ N q]; exact e'⟩
 exact key k (Ct _) _ (fun a ha => ⟨a, ha, rfl⟩) fun a h1 h2 => by omega
section
variable {k k' s w : Nat} {T H : Mx} {l : Nat -> Nat}
end
theorem tK {B : Nat} : ∀ (n : Nat) (M : Mx), (∀ i j, (M i j).natAbs <= B) -> (aS n M).natAbs <= (n * B) ^ n
 | 0, _, _ => Ct _
 | n + 1, M, h => by
  unfold aS;have h1 : (sm (n + 1) fun i => et i * M i 0 * aS n (minor M i)).natAbs <= (n + 1) * (B * (n * B) ^ n) := na fun i _ => by
   rw [CP, CP, show (et i).natAbs = 1 by unfold et; split <;> rfl, ER];exact Da (h i 0) (tK n (minor M i) fun a b => h _ _)
  refine Cw h1 ?_;rw [Dd, CE ((( n + 1) * B) ^ n), CN (n + 1) B];exact CD _ (CD _ (Nat.pow_le_pow_left (Cy _ Cp) n))
theorem n0 {a b : Nat} (h : a % 2 = b % 2) : et a = et b := by unfold et; rw [h]
theorem qY (a b : Nat) : et a * et b = et (a + b) := by
 unfold et;rcases Nat.mod_two_eq_zero_or_one a with h | h <;> rcases Nat.mod_two_eq_zero_or_one b with h' | h' <;> rw [h, h'] <;> simp <;> omega
theorem tB {n p : Nat} (hp : p < n + 1) (g : Nat -> Int) : sm n (fun a => g (cK p a)) = sm (n + 1) fun q => if q = p then 0 else g q := by
 obtain ⟨m, rfl⟩ : ∃ m, n = p + m := ⟨n - p, by omega⟩;rw [iH p m, Eh, iH p (m + 1), Ez m 1, iH 1 m];have e1 : sm p (fun a => g (cK p a)) = sm p fun q => if q = p then 0 else g q := ak fun a ha => by
  rw [if_neg Cp]; unfold cK; rw [if_pos ha]
 have e2 : sm m (fun k => g (cK p (p + k))) = sm m fun k => if p + (1 + k) = p then 0 else g (p + (1 + k)) := ak fun a ha => by
  rw [if_neg Cp]; unfold cK; rw [if_neg Cp]; congr 1; omega
 have e3 : (sm 1 fun k => if p + k = p then 0 else g (p + k)) = 0 := by simp [sm]
 rw [e1, e2, e3, Ed]
def u4 (p q b : Nat) : Nat := if b < min p q then b else if b + 1 < max p q then b + 1 else b + 2
theorem rD (p q b : Nat) : u4 p q b = u4 q p b := by unfold u4; rw [Nat.min_comm, Nat.max_comm]
theorem qP (p a b : Nat) : cK p (cK a b) = u4 p (cK p a) b := by
 unfold u4 cK;by_cases h1 : a < p
 . simp only [h1, if_true];by_cases h2 : b < a
   . rw [if_pos h2, if_pos Cp, if_pos Cp]
   . rw [if_neg h2];by_cases h3 : b + 1 < p
     . rw [if_pos h3, if_neg Cp, if_pos Cp]
     . rw [if_neg h3, if_neg Cp, if_neg Cp]
 . simp only [h1, if_false];by_cases h2 : b < a
   . rw [if_pos h2];by_cases h3 : b < p
     . rw [if_pos h3, if_pos Cp]
     . rw [if_neg h3, if_neg Cp, if_pos Cp]
   . rw [if_neg h2, if_neg Cp, if_neg Cp, if_neg Cp]
def pZ (n : Nat) (M : Mx) (p q : Nat) : Int := et (p + q + n + if q < p then 0 else 1) * M p 0 * M q (n + 1) * aS n fun a b => M (u4 p q a) (b + 1)
theorem nK : ∀ (n : Nat) (M : Mx), aS (n + 1) M = sm (n + 1) fun i => et (i + n) * M i n * aS n fun a b => M (cK i a) b
 | 0, M => rfl
 | n + 1, M => by
  have h1 : aS (n + 2) M = sm (n + 2) fun p => sm (n + 2) fun q => if q = p then 0 else pZ n M p q := by
   rw [aS];refine ak fun p hp => ?_;rw [nK n (minor M p), <- bQ, <- tB hp];refine ak fun a ha => ?_;have e : (fun a' b => minor M p (cK a a') b) = fun a' b => M (u4 p (cK p a) a') (b + 1) := by
    funext a' b;show M (cK p (cK a a')) (b + 1) = _;rw [qP]
   rw [e];unfold pZ;generalize aS n (fun a' b => M (u4 p (cK p a) a') (b + 1)) = D;have e2 : et (p + cK p a + n + if cK p a < p then 0 else 1) = et p * et (a + n) := by
    rw [qY]; refine n0 ?_; unfold cK; (repeat' split) <;> omega
   rw [e2];show et p * M p 0 * (et (a + n) * M (cK p a) (n + 1) * D) = _
   ac_rfl
  have h2 : (sm (n + 2) fun i => et (i + (n + 1)) * M i (n + 1) * aS (n + 1) fun a b => M (cK i a) b) = sm (n + 2) fun q => sm (n + 2) fun p => if p = q then 0 else pZ n M p q := by
   refine ak fun q hq => ?_;rw [aS, <- bQ, <- tB hq];refine ak fun a ha => ?_;have e : minor (fun a b => M (cK q a) b) a = fun a' b => M (u4 (cK q a) q a') (b + 1) := by
    funext a' b;show M (cK q (cK a a')) (b + 1) = _;rw [qP, rD]
   rw [e];unfold pZ;generalize aS n (fun a' b => M (u4 (cK q a) q a') (b + 1)) = D;have e2 : et (cK q a + q + n + if q < cK q a then 0 else 1) = et (q + (n + 1)) * et a := by
    rw [qY]; refine n0 ?_; unfold cK; (repeat' split) <;> omega
   rw [e2]
   ac_rfl
  rw [h1, h2, jN];refine ak fun q _ => ak fun p _ => ?_;by_cases h : q = p
  . rw [if_pos h, if_pos h.symm]
  . rw [if_neg h, if_neg (fun e => h e.symm)]
theorem sB : ∀ (n t : Nat) (M : Mx), t < n -> (∀ a, a < n + 1 -> M a t = M a n) -> aS (n + 1) M = 0
 | n + 1, 0, M, _, h => by
  have h1 : aS (n + 2) M = sm (n + 2) fun p => sm (n + 2) fun q => if q = p then 0 else pZ n M p q := by
   rw [aS];refine ak fun p hp => ?_;rw [nK n (minor M p), <- bQ, <- tB hp];refine ak fun a ha => ?_;have e : (fun a' b => minor M p (cK a a') b) = fun a' b => M (u4 p (cK p a) a') (b + 1) := by
    funext a' b;show M (cK p (cK a a')) (b + 1) = _;rw [qP]
   rw [e];unfold pZ;generalize aS n (fun a' b => M (u4 p (cK p a) a') (b + 1)) = D;have e2 : et (p + cK p a + n + if cK p a < p then 0 else 1) = et p * et (a + n) := by
    rw [qY]; refine n0 ?_; unfold cK; (repeat' split) <;> omega
   rw [e2];show et p * M p 0 * (et (a + n) * M (cK p a) (n + 1) * D) = _
   ac_rfl
  have h2 : (sm (n + 2) fun p => sm (n + 2) fun q => if q = p then 0 else pZ n M p q) = - sm (n + 2) fun p => sm (n + 2) fun q => if q = p then 0 else pZ n M p q := by
   conv => lhs; rw [jN]
   have e : ∀ f : Nat -> Int, - sm (n + 2) f = sm (n + 2) fun i => (-1) * f i := fun f => by rw [bQ]; omega
   rw [e];refine ak fun p hp => ?_;rw [<- bQ];refine ak fun q hq => ?_;by_cases hpq : p = q
   . rw [if_pos hpq, if_pos hpq.symm]; rfl
   . rw [if_neg hpq, if_neg (fun e => hpq e.symm)];unfold pZ;have eD : (fun a b => M (u4 q p a) (b + 1)) = fun a b => M (u4 p q a) (b + 1) := by funext a b; rw [rD]
     rw [eD];generalize aS n (fun a b => M (u4 p q a) (b + 1)) = D;have es : et (q + p + n + if p < q then 0 else 1) = - et (p + q + n + if q < p then 0 else 1) := by
      rw [<- kV]; refine n0 ?_; (repeat' split) <;> omega
     rw [es, <- h p Cp, h q Cp];rw [Du, Du, Du, Int.neg_one_mul, CH (et _) (M q _), Dc (M q _), <- CH (et _)]
  rw [h1]; omega
 | n + 1, t + 1, M, ht, h => by
  rw [aS];refine bR fun p hp => ?_;rw [sB n t (minor M p) Cp fun a ha => h _ (by unfold cK; split <;> omega), CS]
theorem lT : ∀ (k m : Nat) (M : Mx), (∀ a, k <= a -> a < k + m -> ∀ b < k, M a b = 0) -> aS (k + m) M = aS k M * aS m fun a b => M (k + a) (k + b)
 | 0, m, M, _ => by
  rw [Db];show aS m M = 1 * _;rw [Em];exact aP m fun a _ b _ => by rw [Db, Db]
 | k + 1, m, M, h => by
  rw [show k + 1 + m = k + m + 1 by omega, aS, show k + m + 1 = k + 1 + m by omega, iH (k + 1) m];have e0 : (sm m fun i => et (k + 1 + i) * M (k + 1 + i) 0 * aS (k + m) (minor M (k + 1 + i))) = 0 := bR fun i hi => by
   rw [h (k + 1 + i) Cp Cp 0 Cp, CS, De]
  rw [e0, EW, aS, <- ff];refine ak fun i hi => ?_;have e : (aS m fun a b => minor M i (k + a) (k + b)) = aS m fun a b => M (k + 1 + a) (k + 1 + b) := aP m fun a _ b _ => by
   show M (cK i (k + a)) (k + b + 1) = _;unfold cK;rw [if_neg Cp, show k + a + 1 = k + 1 + a by omega, show k + b + 1 = k + 1 + b by omega]
  rw [lT k m (minor M i) fun a h1 h2 b hb => h _ (by unfold cK; split <;> omega) (by unfold cK; split <;> omega) _ Cp, e]
  ac_rfl
theorem det2 (M : Mx) : aS 2 M = M 0 0 * M 1 1 - M 1 0 * M 0 1 := by
 simp [aS, sm, et, minor, cK, Du];omega
def mn (k : Nat) (A : Mx) (nu cs : Nat -> Nat) (i j : Nat) : Int := aS (k + 1) fun a b => A (if a < k then nu a else i) (if b < k then cs b else j)
def dn (k : Nat) (A : Mx) (nu cs : Nat -> Nat) : Int := aS k fun a b => A (nu a) (cs b)
section
variable {A : Mx} {nu cs : Nat -> Nat} {k : Nat}
theorem j3 (k : Nat) (A : Mx) (nu cs : Nat -> Nat) (i : Nat) : ∃ y : Nat -> Int, ∀ j, mn k A nu cs i j = dn k A nu cs * A i j + sm k fun t => y t * A (nu t) j := by
 refine ⟨fun t => et (t + k) * aS k fun a b => A (if cK t a < k then nu (cK t a) else i) (cs b), fun j => ?_⟩;unfold mn;rw [nK, sm, Int.add_comm];congr 1
 . have e : (aS k fun a b => A (if cK k a < k then nu (cK k a) else i) (if b < k then cs b else j)) = dn k A nu cs := aP k fun a ha b hb => by
    have : cK k a = a := by unfold cK; rw [if_pos ha]
    rw [this, if_pos ha, if_pos hb]
   rw [e, if_neg (DA k), if_neg (DA k), show et (k + k) = 1 by unfold et; rw [if_pos Cp], Em, Dc]
 . refine ak fun t ht => ?_;rw [if_pos ht, if_neg (DA k)];have e : (aS k fun a b => A (if cK t a < k then nu (cK t a) else i) (if b < k then cs b else j)) = aS k fun a b => A (if cK t a < k then nu (cK t a) else i) (cs b) := aP k fun a _ b hb => by rw [if_pos hb]
   rw [e, Int.mul_right_comm]
theorem mW {t : Nat} (ht : t < k) (i : Nat) : mn k A nu cs i (cs t) = 0 := by
 unfold mn;exact sB k t _ ht fun a _ => by rw [if_pos ht, if_neg (DA k)]
theorem vu : dn (k + 1) A nu cs = mn k A nu cs (nu k) (cs k) := aP (k + 1) fun a ha b hb => by
 have e1 : (if a < k then nu a else nu k) = nu a := by split; rfl; rw [show a = k by omega]
 have e2 : (if b < k then cs b else cs k) = cs b := by split; rfl; rw [show b = k by omega]
 rw [e1, e2]
theorem gQ {nu' cs' : Nat -> Nat} (h1 : ∀ t < k, nu' t = nu t) (h2 : ∀ t < k, cs' t = cs t) (i j : Nat) : mn k A nu' cs' i j = mn k A nu cs i j := aP (k + 1) fun a _ b _ => by
 have e1 : (if a < k then nu' a else i) = if a < k then nu a else i := by split; exact h1 a ‹_›; rfl
 have e2 : (if b < k then cs' b else j) = if b < k then cs b else j := by split; exact h2 b ‹_›; rfl
 rw [e1, e2]
theorem rY {nu' cs' : Nat -> Nat} (h1 : ∀ t < k, nu' t = nu t) (h2 : ∀ t < k, cs' t = cs t) : dn k A nu' cs' = dn k A nu cs := aP k fun a ha b hb => by rw [h1 a ha, h2 b hb]
theorem nT (n : Nat) (M : Mx) {r : Nat} (hr : r < n) (d : Int) (y : Nat -> Int) {m : Nat} (hm : m <= r) : aS n (bU M r fun b => d * M r b + sm m fun t => y t * M t b) = d * aS n M := by
 have e : (fun b => d * M r b + sm m fun t => y t * M t b) = fun b => d * M r b + sm m fun t => (if t < m then y t else 0) * M t b := by
  funext b; congr 1; exact ak fun t ht => by rw [if_pos ht]
 rw [e, kG n M r hr (fun t => if t < m then y t else 0) (if_neg Cp) m Cp, iD n M r d _ hr, fG]
theorem Bx (h0 : dn k A nu cs ≠ 0) (i j : Nat) : dn k A nu cs * mn (k + 1) A nu cs i j = mn k A nu cs (nu k) (cs k) * mn k A nu cs i j - mn k A nu cs i (cs k) * mn k A nu cs (nu k) j := by
 obtain ⟨col, hcol⟩ : ∃ col : Nat -> Nat, ∀ b, col b = if b < k + 1 then cs b else j := ⟨fun b => if b < k + 1 then cs b else j, fun _ => rfl⟩;obtain ⟨M, hM⟩ : ∃ M : Mx, ∀ a b, M a b = A (if a < k + 1 then nu a else i) (col b) := ⟨fun a b => A (if a < k + 1 then nu a else i) (col b), fun _ _ => rfl⟩;have hN : mn (k + 1) A nu cs i j = aS (k + 2) M := aP (k + 2) fun a _ b _ => by rw [hM, hcol]
 obtain ⟨y, hy⟩ := j3 k A nu cs i;obtain ⟨z, hz⟩ := j3 k A nu cs (nu k);have hMt : ∀ t < k, ∀ b, M t b = A (nu t) (col b) := fun t ht b => by rw [hM, if_pos Cp]
 have e1 : (fun b => mn k A nu cs i (col b)) = fun b => dn k A nu cs * M (k + 1) b + sm k fun t => y t * M t b := by
  funext b;rw [hy, hM (k + 1), if_neg Cp];congr 1;exact ak fun t ht => by rw [hMt t ht]
 have d1 : aS (k + 2) (bU M (k + 1) fun b => mn k A nu cs i (col b)) = dn k A nu cs * aS (k + 2) M := by
  rw [e1]; exact nT (k + 2) M Cp _ y Cp
 obtain ⟨M1, hM1⟩ := Cs (bU M (k + 1) (fun b => mn k A nu cs i (col b)));rw [hM1] at d1;have hM1t : ∀ t < k + 1, ∀ b, M1 t b = M t b := fun t ht b => by rw [<- hM1, aZ _ Cp]
 have e2 : (fun b => mn k A nu cs (nu k) (col b)) = fun b => dn k A nu cs * M1 k b + sm k fun t => z t * M1 t b := by
  funext b;rw [hz, hM1t k Cp, hM k, if_pos Cp];congr 1;exact ak fun t ht => by rw [hM1t t Cp, hMt t ht]
 have d2 : aS (k + 2) (bU M1 k fun b => mn k A nu cs (nu k) (col b)) = dn k A nu cs * aS (k + 2) M1 := by
  rw [e2]; exact nT (k + 2) M1 Cp _ z (Ct k)
 obtain ⟨M2, hM2⟩ := Cs (bU M1 k (fun b => mn k A nu cs (nu k) (col b)));rw [hM2, d1] at d2;have r0 : ∀ b, M2 k b = mn k A nu cs (nu k) (col b) := fun b => by rw [<- hM2, bV]
 have r1 : ∀ b, M2 (k + 1) b = mn k A nu cs i (col b) := fun b => by rw [<- hM2, aZ _ Cp, <- hM1, bV]
 have hb := lT k 2 M2 fun a h1 h2 b hb => by
  have hc : col b = cs b := by rw [hcol, if_pos Cp]
  rcases (by omega : a = k \/ a = k + 1) with rfl | rfl
  . rw [r0, hc]; exact mW hb _
  . rw [r1, hc]; exact mW hb _
 have hd : aS k M2 = dn k A nu cs := aP k fun a ha b hb => by
  rw [<- hM2, aZ _ Cp, hM1t a Cp, hM, if_pos Cp, hcol, if_pos Cp]
 have c0 : col k = cs k := by rw [hcol, if_pos Cp]
 have c1 : col (k + 1) = j := by rw [hcol, if_neg Cp]
 rw [hb, hd, det2] at d2;simp only [Ea] at d2;rw [r0, r0, r1, r1, c0, c1] at d2;rw [hN];exact (DC h0 d2).symm
structure iV (n m : Nat) (A : Mx) (c k : Nat) (nu cs : Nat -> Nat) (R : Mx) (d : Int) : Prop where
 kn : k <= n
 cm : c <= m
 lt : ∀ i < n, nu i < n
 inj : ∀ i < n, ∀ j < n, nu i = nu j -> i = j
 inc : ∀ a b, a < b -> b < k -> cs a < cs b
 csl : ∀ t < k, cs t < c
 dE : d = dn k A nu cs
 d0 : d ≠ 0
 row : ∀ i, k <= i -> i < n -> ∀ j < m, R i j = mn k A nu cs (nu i) j
 z : ∀ i, k <= i -> i < n -> ∀ j < c, R i j = 0
 lz : ∀ t < k, ∀ j < cs t, mn t A nu cs (nu t) j = 0
 l0 : ∀ t < k, mn t A nu cs (nu t) (cs t) ≠ 0
end
section
variable {n m : Nat} {A : Mx} {c k : Nat} {nu cs : Nat -> Nat} {R : Mx} {d : Int}
theorem iV.start {n m : Nat} {A R : Mx} (cs : Nat -> Nat) (hR : ∀ i < n, ∀ j < m, R i j = A i j) : iV n m A 0 0 (fun i => i) cs R 1 :=
 ⟨Cx _, Cx _, fun _ h => h, fun _ _ _ _ e => e, fun _ _ _ h => by omega, fun _ h => by omega, rfl, by decide, fun i _ hi j hj => by rw [hR i hi j hj]; simp [mn, aS, sm, et], fun _ _ _ _ h => by omega, fun _ h => by omega, fun _ h => by omega⟩
theorem iV.skip (h : iV n m A c k nu cs R d) (hc : c < m) (h0 : ∀ i, k <= i -> i < n -> R i c = 0) : iV n m A (c + 1) k nu cs R d :=
 ⟨h.kn, hc, h.lt, h.inj, h.inc, fun t ht => by have := h.csl t ht; omega, h.dE, h.d0, h.row, fun i h1 h2 j hj => by
  rcases (by omega : j < c \/ j = c) with q | rfl
  . exact h.z i h1 h2 j q
  . exact h0 i h1 h2, h.lz, h.l0⟩
def mb (k p i : Nat) : Nat := if i = k then p else if i = p then k else i
theorem ie {n k p i : Nat} (hk : k < n) (hp : p < n) (hi : i < n) : mb k p i < n := by unfold mb; (repeat' split) <;> omega
theorem wX {k p i : Nat} (hp : k <= p) (hi : k <= i) : k <= mb k p i := by unfold mb; (repeat' split) <;> omega
theorem zZ {k p i : Nat} (hp : k <= p) (hi : i < k) : mb k p i = i := by unfold mb; rw [if_neg Cp, if_neg Cp]
theorem uT {k p i j : Nat} (h : mb k p i = mb k p j) : i = j := by unfold mb at h; (repeat' split at h) <;> omega
theorem iV.swap {p : Nat} {R' : Mx} (h : iV n m A c k nu cs R d) (hp : k <= p) (hpn : p < n) (hR : ∀ i, k <= i -> i < n -> ∀ j < m, R' i j = R (mb k p i) j) : iV n m A c k (fun i => nu (mb k p i)) cs R' d := by
 have hk : k < n := by omega
 have hl : ∀ t < k, nu (mb k p t) = nu t := fun t ht => by rw [zZ hp ht]
 refine ⟨h.kn, h.cm, fun i hi => h.lt _ (ie hk hpn hi), fun i hi j hj e => uT (h.inj _ (ie hk hpn hi) _ (ie hk hpn hj) e), h.inc, h.csl, ?_, h.d0, fun i h1 h2 j hj => ?_, fun i h1 h2 j hj => ?_, fun t ht j hj => ?_, fun t ht => ?_⟩
 . rw [rY (cs' := cs) hl (fun _ _ => rfl)]; exact h.dE
 . rw [hR i h1 h2 j hj, h.row _ (wX hp h1) (ie hk hpn h2) j hj, gQ (nu := nu) (cs := cs) hl (fun _ _ => rfl)]
 . have := h.cm;rw [hR i h1 h2 j Cp]; exact h.z _ (wX hp h1) (ie hk hpn h2) j hj
 . rw [gQ (nu := nu) (cs := cs) (fun s hs => hl s Cp) (fun _ _ => rfl), hl t ht]; exact h.lz t ht j hj
 . rw [gQ (nu := nu) (cs := cs) (fun s hs => hl s Cp) (fun _ _ => rfl), hl t ht]; exact h.l0 t ht
def mF (cs : Nat -> Nat) (k c : Nat) : Nat -> Nat := fun t => if t = k then c else cs t
theorem eC {t : Nat} (ht : t < k) : mF cs k c t = cs t := by unfold mF; rw [if_neg Cp]
theorem kC : mF cs k c k = c := by unfold mF; rw [if_pos rfl]
theorem iV.exact (h : iV n m A c k nu cs R d) (hc : c < m) {i j : Nat} (hi : k < i) (hin : i < n) (hj : j < m) : R k c * R i j - R i c * R k j = d * mn (k + 1) A nu (mF cs k c) (nu i) j := by
 have hcg : ∀ i j, mn k A nu (mF cs k c) i j = mn k A nu cs i j := fun i j => gQ (fun _ _ => rfl) (fun t ht => eC ht) i j;have hdg : dn k A nu (mF cs k c) = d := by rw [h.dE]; exact rY (fun _ _ => rfl) (fun t ht => eC ht)
 have := Bx (A := A) (nu := nu) (cs := mF cs k c) (k := k) (by rw [hdg]; exact h.d0) (nu i) j;rw [hdg, kC, hcg, hcg, hcg, hcg] at this;rw [this, h.row k (Ct _) Cp c hc, h.row i Cp hin j hj, h.row i Cp hin c hc, h.row k (Ct _) Cp j hj]
theorem iV.take {R' : Mx} (h : iV n m A c k nu cs R d) (hc : c < m) (hk : k < n) (hp : R k c ≠ 0) (hR : ∀ i, k < i -> i < n -> ∀ j < m, R' i j = if c < j then mn (k + 1) A nu (mF cs k c) (nu i) j else 0) : iV n m A (c + 1) (k + 1) nu (mF cs k c) R' (R k c) := by
 have hcg : ∀ i j, mn k A nu (mF cs k c) i j = mn k A nu cs i j := fun i j => gQ (fun _ _ => rfl) (fun t ht => eC ht) i j;have hz : ∀ i, k < i -> i < n -> ∀ j, j <= c -> mn (k + 1) A nu (mF cs k c) (nu i) j = 0 := fun i h1 h2 j hj => by
  have e := h.exact hc h1 h2 (j := j) Cp;rcases (by omega : j < c \/ j = c) with q | rfl
  . rw [h.z i Cp h2 j q, h.z k (Ct _) hk j q, CS, CS, Int.sub_zero] at e;exact (Int.mul_eq_zero.1 e.symm).resolve_left h.d0
  . rw [Dc, Int.sub_self] at e;exact (Int.mul_eq_zero.1 e.symm).resolve_left h.d0
 refine ⟨hk, hc, h.lt, h.inj, fun a b hab hb => ?_, fun t ht => ?_, ?_, hp, fun i h1 h2 j hj => ?_, fun i h1 h2 j hj => ?_, fun t ht j hj => ?_, fun t ht => ?_⟩
 . rcases (by omega : b < k \/ b = k) with q | rfl
   . rw [eC Cp, eC q]; exact h.inc a b hab q
   . rw [eC hab, kC]; exact h.csl a hab
 . rcases (by omega : t < k \/ t = k) with q | rfl
   . rw [eC q]; have := h.csl t q; omega
   . rw [kC]; omega
 . rw [vu, kC, hcg]; exact h.row k (Ct _) hk c hc
 . rw [hR i Cp h2 j hj];split
   . rfl
   . exact (hz i Cp h2 j Cp).symm
 . rw [hR i Cp h2 j Cp, if_neg Cp]
 . rcases (by omega : t < k \/ t = k) with q | rfl
   . rw [eC q] at hj;rw [gQ (nu := nu) (cs := cs) (fun _ _ => rfl) (fun s hs => eC Cp)]; exact h.lz t q j hj
   . rw [kC] at hj;rw [hcg, <- h.row t (Ct _) hk j Cp]; exact h.z t (Ct _) hk j hj
 . rcases (by omega : t < k \/ t = k) with q | rfl
   . rw [eC q, gQ (nu := nu) (cs := cs) (fun _ _ => rfl) (fun s hs => eC Cp)]; exact h.l0 t q
   . rw [kC, hcg, <- h.row t (Ct _) hk c hc]; exact hp
theorem mn_bd {B : Nat} (hA : ∀ i j, (A i j).natAbs <= B) (k i j : Nat) : (mn k A nu cs i j).natAbs <= ((k + 1) * B) ^ (k + 1) := tK (k + 1) _ fun _ _ => hA _ _
theorem iV.aS {s : Int} (h : iV n n A n n nu cs R d) : d = Go.Proofs.YtjjlmfmoihooiaaGreat.aS n fun a b => A (nu a) b := by
 have hc : ∀ t < n, cs t = t := by
  intro t ht;have h1 : ∀ s, s < n -> s <= cs s := by
   intro s;induction s with
   | zero => intro _; exact Cx _
   | succ s ih => intro hs; have := ih Cp; have := h.inc s (s + 1) Cp hs; omega
  have h2 : ∀ e s, s + e + 1 = n -> cs s <= s := by
   intro e;induction e with
   | zero => intro s hs; have := h.csl s Cp; omega
   | succ e ih => intro s hs; have := ih (s + 1) Cp; have := h.inc s (s + 1) Cp Cp; omega
  have := h1 t ht;have := h2 (n - t - 1) t Cp;omega
 rw [h.dE];exact aP n fun a _ b hb => by rw [hc b hb]
theorem iV.det0 (h : iV n n A k k nu cs R d) (hk : k < n) (h0 : ∀ i, k <= i -> i < n -> R i k = 0) : (Go.Proofs.YtjjlmfmoihooiaaGreat.aS n fun a b => A (nu a) b) = 0 := by
 have hc : ∀ t < k, cs t = t := by
  intro t ht;have h1 : ∀ s, s < k -> s <= cs s := by
   intro s;induction s with
   | zero => intro _; exact Cx _
   | succ s ih => intro hs; have := ih Cp; have := h.inc s (s + 1) Cp hs; omega
  have h2 : ∀ e s, s + e + 1 = k -> cs s <= s := by
   intro e;induction e with
   | zero => intro s hs; have := h.csl s Cp; omega
   | succ e ih => intro s hs; have := ih (s + 1) Cp; have := h.inc s (s + 1) Cp Cp; omega
  have := h1 t ht;have := h2 (k - t - 1) t Cp;omega
 have hch : ∀ i, ∃ y : Nat -> Int, ∀ j, mn k A nu cs (nu i) j = dn k A nu cs * A (nu i) j + sm k fun t => y t * A (nu t) j := fun i => j3 k A nu cs (nu i);obtain ⟨y, hy⟩ := DT hch;obtain ⟨B, hB⟩ : ∃ B : Mx, ∀ i j, B i j = if i < k then A (nu i) j else mn k A nu cs (nu i) j := ⟨fun i j => if i < k then A (nu i) j else mn k A nu cs (nu i) j, fun _ _ => rfl⟩;have hr := xC n (fun a b => A (nu a) b) B (fun i => if i < k then 1 else d) (fun _ => 1) (fun i t => if i < k then 0 else if t < k then y i t else 0) fun i hi j => by
  by_cases q : i < k
  . simp only [q, if_true];rw [hB, if_pos q, bR fun t _ => De _, EW]
  . simp only [q, if_false];rw [hB, if_neg q, hy, Em, <- h.dE];congr 1;obtain ⟨e, rfl⟩ : ∃ e, i = k + e := ⟨i - k, by omega⟩;rw [iH k e, bR (n := e) fun t _ => by rw [if_neg Cp, De], EW];exact ak fun t ht => by rw [if_pos ht, hB, if_pos ht]
 obtain ⟨e, rfl⟩ : ∃ e, n = k + (e + 1) := ⟨n - k - 1, by omega⟩;have hb := lT k (e + 1) B fun a h1 h2 b hb => by rw [hB, if_neg Cp, <- h.row a h1 h2 b Cp]; exact h.z a h1 h2 b hb
 have hz : (Go.Proofs.YtjjlmfmoihooiaaGreat.aS (e + 1) fun a b => B (k + a) (k + b)) = 0 := by
  rw [Go.Proofs.YtjjlmfmoihooiaaGreat.aS];exact bR fun a ha => by
   show et a * B (k + a) (k + 0) * _ = 0;rw [Ea, hB, if_neg Cp, <- h.row (k + a) Cp Cp k Cp, h0 (k + a) Cp Cp, CS, De]
 rw [hb, hz, CS, CS] at hr;refine (Int.mul_eq_zero.1 hr.symm).resolve_left (sZ _ fun i hi => ?_);split
 . decide
 . exact h.d0
theorem zM {k p : Nat} (hk : k < n) (hp : p < n) (hkp : k ≠ p) (B : Mx) : (Go.Proofs.YtjjlmfmoihooiaaGreat.aS n fun a b => B (mb k p a) b) = - Go.Proofs.YtjjlmfmoihooiaaGreat.aS n B := by
 have e1 : (fun a b => B (mb k p a) b) = bU (bU B k (B p)) p (B k) := by
  funext a b;unfold mb bU;by_cases h1 : a = k
  . subst h1; rw [if_pos rfl, if_neg hkp, if_pos rfl]
  . rw [if_neg h1];by_cases h2 : a = p
    . rw [if_pos h2, if_pos h2]
    . rw [if_neg h2, if_neg h2, if_neg h1]
 have e2 : bU (bU B k (B k)) p (B p) = B := by rw [fG, fG]
 rw [e1, rF n B hk hp hkp, e2]
theorem iV.leads {r c' : Nat} {E : Mx} {l : Nat -> Nat} (h : iV n m A m k nu cs R d) (hA : ∀ i j, m <= j -> A i j = 0) (hE : Ech r c' E l) (hs : bc r E n A) : k = r /\ ∀ t < k, cs t = l t := by
 obtain ⟨T, hT⟩ : ∃ T : Mx, ∀ t j, T t j = mn t A nu cs (nu t) j := ⟨fun t j => mn t A nu cs (nu t) j, fun _ _ => rfl⟩;have hst : oZ k T cs := ⟨fun i hi => by rw [hT]; exact h.l0 i hi, fun i hi j hj => by rw [hT]; exact h.lz i hi j hj, fun a ha i hi => by rw [hT]; exact mW hi _⟩;have hkn := h.kn;have hTA : ∀ t < k, Sp n A (T t) := fun t ht => by
  obtain ⟨y, hy⟩ := j3 t A nu cs (nu t);have h1 : Sp n A fun j => dn t A nu cs * A (nu t) j := (Sp.row A (h.lt t Cp)).smul _;have h2 : Sp n A fun j => sm t fun s => y s * A (nu s) j := Sp.sm (F := fun s => A (nu s)) (x := y) fun s hs => Sp.row A (h.lt s Cp);exact (h1.add h2).congr fun j => by rw [hT, hy]
 have hdt : ∀ t < k + 1, dn t A nu cs ≠ 0 := fun t ht => by
  rcases (by omega : t < k \/ t = k) with q | rfl
  . cases t with
    | zero => simp [dn, Go.Proofs.YtjjlmfmoihooiaaGreat.aS]
    | succ t => rw [vu]; exact h.l0 t Cp
  . rw [<- h.dE]; exact h.d0
 have hlow : ∀ s, s < k -> ∃ N : Int, N ≠ 0 /\ Sp k T fun j => N * A (nu s) j := by
  intro s;induction s using Nat.strongRecOn with
  | _ s ih =>
   intro hs';obtain ⟨y, hy⟩ := j3 s A nu cs (nu s);obtain ⟨N, hN, hsp⟩ := ta (R := T) (A := fun t => A (nu t)) (n := s) (k := k) (fun i hi => ih i hi Cp) (v := fun j => sm s fun t => y t * A (nu t) j) ⟨y, fun _ => rfl⟩;refine ⟨N * dn s A nu cs, EI hN (hdt s Cp), ((((Sp.row T hs').smul N).sub hsp)).congr fun j => ?_⟩;rw [hT, hy, DB, CH]; omega
 have hall : ∀ i < n, ∃ N : Int, N ≠ 0 /\ Sp k T fun j => N * A i j := fun i hi => by
  obtain ⟨s, hsn, rfl⟩ := yU n nu h.lt h.inj i hi;by_cases q : s < k
  . exact hlow s q
  . obtain ⟨y, hy⟩ := j3 k A nu cs (nu s);obtain ⟨N, hN, hsp⟩ := ta (R := T) (A := fun t => A (nu t)) (n := k) (k := k) hlow (v := fun j => sm k fun t => y t * A (nu t) j) ⟨y, fun _ => rfl⟩;refine ⟨N * dn k A nu cs, EI hN (hdt k Cp), (hsp.smul (-1)).congr fun j => ?_⟩;have h0 : mn k A nu cs (nu s) j = 0 := by
     by_cases hj : j < m
     . rw [<- h.row s Cp hsn j hj]; exact h.z s Cp hsn j hj
     . rw [hy, hA _ _ Cp, CS, Ed]; exact bR fun t _ => by rw [hA _ _ Cp, CS]
    have h1 := hy j;rw [h0] at h1;rw [CH];generalize dn k A nu cs * A (nu s) j = u at *;generalize sm k (fun t => y t * A (nu t) j) = v at *;obtain rfl : u = -v := by omega
    rw [Ew]; omega
 have hkr := sJ hst hE hs hall fun i hi => ⟨1, by decide, (hTA i hi).congr fun j => Em _⟩;refine ⟨hkr, ?_⟩;have hq : ∀ t, ∃ q, t < k -> q < r /\ l q = cs t := fun t => by
  by_cases ht : t < k
  . obtain ⟨q, h1, h2, _⟩ := hE.lead ((hTA t ht).trans hs.2) (q := cs t) (hst.at_ t ht) (hst.zero t ht);exact ⟨q, fun _ => ⟨h1, h2⟩⟩
  . exact ⟨0, fun h => absurd h ht⟩
 obtain ⟨q, hq⟩ := DT hq;have hmono : ∀ s t, s < t -> t < k -> q s < q t := fun s t hst' ht => by
  refine Nat.lt_of_not_le fun hle => ?_;have h1 := h.inc s t hst' ht;rw [<- (hq s Cp).2, <- (hq t ht).2] at h1;rcases EE hle with h2 | h2
  . have := hE.inc (q t) (q s) h2 (hq s Cp).1; omega
  . rw [h2] at h1; omega
 have up : ∀ s, s < k -> s <= q s := by
  intro s;induction s with
  | zero => intro _; exact Cx _
  | succ s ih => intro hs'; have := ih Cp; have := hmono s (s + 1) Cp hs'; omega
 have dw : ∀ e s, s + e + 1 = k -> q s <= s := by
  intro e;induction e with
  | zero => intro s hs'; have := (hq s Cp).1; omega
  | succ e ih => intro s hs'; have := ih (s + 1) Cp; have := hmono s (s + 1) Cp Cp; omega
 intro t ht;have h1 := up t ht;have h2 := dw (k - t - 1) t Cp;have h3 : q t = t := by omega
 rw [<- (hq t ht).2, h3]
end
theorem sT {mw k : Nat} (hk : k <= 64) : (k * W ^ mw) ^ k < W ^ (64 * (mw + 1)) := by
 have h1 : k * W ^ mw < W ^ (mw + 1) := by
  rw [Dd, CE (W ^ mw)];exact EA (CT hk (by unfold W; omega)) (DF (by unfold W; omega))
 rcases Dn k with rfl | h0
 . exact Nat.one_lt_pow Cp (by unfold W; omega)
 . refine CK (Nat.pow_lt_pow_left h1 Cp) ?_;rw [<- Nat.pow_mul];exact CU (by unfold W; omega) (by rw [CE]; exact Cy _ hk)
theorem j7 (n : Nat) (f : Nat -> Int) : sm (n + 1) f = f 0 + sm n fun k => f (k + 1) := by
 rw [Ez n 1, iH];show 0 + f 0 + _ = _;rw [Ed];exact congrArg _ (ak fun k _ => by rw [Ez])
theorem vf : ∀ (n : Nat) (M : Mx), aS (n + 1) M = sm (n + 1) fun j => et j * M 0 j * aS n fun a b => M (a + 1) (cK j b)
 | 0, M => by
  show 0 + et 0 * M 0 0 * 1 = 0 + et 0 * M 0 0 * 1;rfl
 | n + 1, M => by
  have h1 : aS (n + 2) M = et 0 * M 0 0 * aS (n + 1) (minor M 0) + sm (n + 1) fun i => et (i + 1) * M (i + 1) 0 * aS (n + 1) (minor M (i + 1)) := j7 (n + 1) _;rw [h1, j7 (n + 1)];have e0 : aS (n + 1) (minor M 0) = aS (n + 1) fun a b => M (a + 1) (cK 0 b) := aP _ fun a _ b _ => by simp [minor, cK]
  rw [e0];refine congrArg _ ?_;have e1 : (sm (n + 1) fun i => et (i + 1) * M (i + 1) 0 * aS (n + 1) (minor M (i + 1))) = sm (n + 1) fun i => sm (n + 1) fun j => et (i + 1) * et j * M (i + 1) 0 * M 0 (j + 1) * aS n fun a b => M (cK i a + 1) (cK j b + 1) := ak fun i _ => by
   rw [vf n (minor M (i + 1)), <- bQ];refine ak fun j _ => ?_;have e2 : (aS n fun a b => minor M (i + 1) (a + 1) (cK j b)) = aS n fun a b => M (cK i a + 1) (cK j b + 1) := aP _ fun a _ b _ => by
    show M (cK (i + 1) (a + 1)) (cK j b + 1) = _;have : cK (i + 1) (a + 1) = cK i a + 1 := by unfold cK; (repeat' split) <;> omega
    rw [this]
   rw [e2];have e3 : minor M (i + 1) 0 j = M 0 (j + 1) := by
    show M (cK (i + 1) 0) (j + 1) = _;have : cK (i + 1) 0 = 0 := by unfold cK; rw [if_pos Cp]
    rw [this]
   rw [e3]
   ac_rfl
  have f1 : (sm (n + 1) fun j => et (j + 1) * M 0 (j + 1) * aS (n + 1) fun a b => M (a + 1) (cK (j + 1) b)) = sm (n + 1) fun j => sm (n + 1) fun i => et (i + 1) * et j * M (i + 1) 0 * M 0 (j + 1) * aS n fun a b => M (cK i a + 1) (cK j b + 1) := ak fun j _ => by
   have f2 : (aS (n + 1) fun a b => M (a + 1) (cK (j + 1) b)) = sm (n + 1) fun i => et i * M (i + 1) 0 * aS n fun a b => M (cK i a + 1) (cK j b + 1) := by
    show (sm (n + 1) fun i => et i * M (i + 1) (cK (j + 1) 0) * aS n (minor (fun a b => M (a + 1) (cK (j + 1) b)) i)) = _;refine ak fun i _ => ?_;have g1 : cK (j + 1) 0 = 0 := by unfold cK; rw [if_pos Cp]
    rw [g1];congr 1;refine aP _ fun a _ b _ => ?_;show M (cK i a + 1) (cK (j + 1) (b + 1)) = _;have : cK (j + 1) (b + 1) = cK j b + 1 := by unfold cK; (repeat' split) <;> omega
    rw [this]
   rw [f2, <- bQ];refine ak fun i _ => ?_;rw [kV j, kV i];simp only [Du, Ew];refine congrArg _ ?_
   ac_rfl
  rw [e1, f1, jN]
theorem qi : ∀ (n : Nat) (M : Mx), aS n (tp M) = aS n M
 | 0, _ => rfl
 | n + 1, M => by
  rw [vf n M];show (sm (n + 1) fun i => et i * tp M i 0 * aS n (minor (tp M) i)) = _;refine ak fun i _ => ?_;rw [<- qi n fun a b => M (a + 1) (cK i b)];rfl
theorem Mn.tp {k : Nat} {x : Int} {r c : Nat} {A : Mx} (h : Mn k x r c A) : Mn k x c r (tp A) := fun σ τ hσ hτ => by
 rw [<- qi];exact h τ σ hτ hσ
theorem pig (k q : Nat) (hk : k < q) (σ : Nat -> Nat) (h : ∀ a < q, σ a < k) : ∃ a b, a < b /\ b < q /\ σ a = σ b := DG fun hn => by
 obtain ⟨i, hi, e⟩ := yU k σ (fun i hi => h i Cp) (fun i hi j hj e => DG fun hij => by
  rcases EV hij with q' | q'
  . exact hn ⟨i, j, q', by omega, e⟩
  . exact hn ⟨j, i, q', by omega, e.symm⟩) (σ k) (h k hk)
 exact hn ⟨i, k, hi, hk, e⟩
theorem oO (n : Nat) (D : Int) (B : Mx) : ∀ s, s <= n -> aS n (fun a b => if a < s then D * B a b else B a b) = D ^ s * aS n B
 | 0, _ => by simp
 | s + 1, hs => by
  have e : (fun a b => if a < s + 1 then D * B a b else B a b) = bU (fun a b => if a < s then D * B a b else B a b) s (fun b => D * B s b) := by
   funext a b;unfold bU;by_cases h : a = s
   . subst h; simp
   . rw [if_neg h];show _ = if a < s then D * B a b else B a b;by_cases h2 : a < s
     . rw [if_pos h2, if_pos Cp]
     . rw [if_neg h2, if_neg Cp]
  have e2 : bU (fun a b => if a < s then D * B a b else B a b) s (B s) = fun a b => if a < s then D * B a b else B a b := by
   funext a b;unfold bU;by_cases h : a = s
   . subst h; simp
   . rw [if_neg h]
  rw [e, iD n _ s D (B s) Cp, e2, oO n D B s Cp, EC]
  ac_rfl
theorem kJ (n : Nat) (D : Int) (B : Mx) : aS n (fun a b => D * B a b) = D ^ n * aS n B := by
 rw [<- oO n D B n (Ct _)];exact aP n fun a ha b _ => by rw [if_pos ha]
theorem yY {k q : Nat} {D : Int} (hD : D ≠ 0) (hk : k < q) {A B : Mx} (h : ∀ a < q, Sp k A fun j => D * B a j) : aS q B = 0 := by
 have h1 : (0 : Int) ∣ aS q fun a b => D * B a b := tq (A := A) (r := k) (fun σ hσ => by
  obtain ⟨a, b, hab, hb, e⟩ := pig k q hk σ hσ;exact Int.zero_dvd.2 (gv q _ (k := a) (l := b) Cp hb Cp fun j => by rw [e])) h
 have h2 := Int.zero_dvd.1 h1;rw [kJ] at h2;rcases Int.mul_eq_zero.1 h2 with e | e
 . exact absurd e (Int.pow_ne_zero hD)
 . exact e
theorem xd {k : Nat} {D : Int} (hD : D ≠ 0) {A B : Mx} (h : ∀ a < k, Sp k A fun j => D * B a j) (hA : aS k A = 0) : aS k B = 0 := by
 have h1 : (0 : Int) ∣ aS k fun a b => D * B a b := tq (A := A) (r := k) (fun σ hσ => by
  by_cases hi : ∀ i < k, ∀ j < k, σ i = σ j -> i = j
  . rcases nR k A k σ hσ (fun i h0 => by omega) (Ct _) with e | e
    . exact Int.zero_dvd.2 e
    . rw [hA] at e;exact Int.zero_dvd.2 (Int.natAbs_eq_zero.1 e)
  . exact Int.zero_dvd.2 (DG fun hn => hi fun i h1 j h2 e => DG fun hij => hn (gv k _ h1 h2 hij fun b => by rw [e]))) h
 have h2 := Int.zero_dvd.1 h1;rw [kJ] at h2;rcases Int.mul_eq_zero.1 h2 with e | e
 . exact absurd e (Int.pow_ne_zero hD)
 . exact e
section
variable {n m : Nat} {A : Mx} {k : Nat} {nu cs : Nat -> Nat} {R : Mx} {d : Int}
theorem iV.span (h : iV n m A m k nu cs R d) (hA : ∀ i j, m <= j -> A i j = 0) {i : Nat} (hi : i < n) : Sp k (fun t => A (nu t)) fun j => d * A i j := by
 obtain ⟨s, hs, e⟩ := yU n nu h.lt h.inj i hi;by_cases hk : s < k
 . refine ⟨fun t => if t = s then d else 0, fun j => ?_⟩;rw [eH s hk fun t _ hn => by show (if t = s then d else 0) * _ = 0; rw [if_neg hn, De]];show d * A i j = (if s = s then d else 0) * A (nu s) j;rw [if_pos rfl, e]
 . obtain ⟨y, hy⟩ := j3 k A nu cs i;refine ⟨fun t => - y t, fun j => ?_⟩;have h1 : mn k A nu cs i j = 0 := by
    by_cases hj : j < m
    . have h2 := h.row s Cp hs j hj;rw [h.z s Cp hs j hj, e] at h2;exact h2.symm
    . have h3 := hy j;rw [hA i j Cp, CS, Ed] at h3;rw [h3];exact bR fun t _ => by rw [hA _ j Cp, CS]
   have h4 := hy j;rw [h1, <- h.dE] at h4;have h5 : (sm k fun t => - y t * A (nu t) j) = - sm k fun t => y t * A (nu t) j := by
    have := bQ k (-1) fun t => y t * A (nu t) j;rw [show (-1 : Int) * (sm k fun t => y t * A (nu t) j) = - sm k fun t => y t * A (nu t) j by omega] at this;rw [<- this];exact ak fun t _ => by rw [Du]; omega
   show d * A i j = _;rw [h5]; omega
theorem iV.some (h : iV n m A m k nu cs R d) : ¬ Mn k 0 n m A := fun q =>
 h.d0 (h.dE.trans (Int.zero_dvd.1 (q nu cs (fun a ha => h.lt a (by have := h.kn; omega)) fun b hb => h.csl b hb)))
theorem iV.none (h : iV n m A m k nu cs R d) (hA : ∀ i j, m <= j -> A i j = 0) {q : Nat} (hq : k < q) : Mn q 0 n m A := fun σ τ hσ hτ =>
 Int.zero_dvd.2 (yY h.d0 hq (A := fun t b => A (nu t) (τ b)) fun a ha => by
  obtain ⟨y, hy⟩ := h.span hA (hσ a ha);exact ⟨y, fun b => hy (τ b)⟩)
theorem iV.turn {k' : Nat} {nu' cs' : Nat -> Nat} {R' : Mx} {d' : Int} (h : iV n m A m k nu cs R d) (h' : iV m n (tp A) n k' nu' cs' R' d') (hA : ∀ i j, m <= j -> A i j = 0) (hA' : ∀ i j, n <= i -> A i j = 0) : k = k' := by
 rcases Dl k k' with q | q | q
 . exact absurd (h.none hA q).tp h'.some
 . exact q
 . exact absurd (h'.none (fun i j hj => hA' j i hj) q).tp h.some
theorem iV.AU (h : iV n m A m k nu cs R d) (hA : ∀ i j, m <= j -> A i j = 0) (hA' : ∀ i j, n <= i -> A i j = 0) {j : Nat} (hj : j < m) : Sp k (fun t => tp A (cs t)) fun i => d * tp A j i := by
 obtain ⟨y, hy⟩ := j3 k (tp A) cs nu j;have e0 : dn k (tp A) cs nu = d := by rw [h.dE]; exact qi k fun a b => A (nu a) (cs b)
 have e1 : ∀ i, mn k (tp A) cs nu j i = 0 := fun i => by
  by_cases hi : i < n
  . have h1 : mn k (tp A) cs nu j i = mn k A nu cs i j := qi (k + 1) fun a b => A (if a < k then nu a else i) (if b < k then cs b else j);rw [h1];exact Int.zero_dvd.1 (h.none hA (Dw k) (fun a => if a < k then nu a else i) (fun b => if b < k then cs b else j) (fun a ha => by
     have := h.kn;show (if a < k then nu a else i) < n;split
     . exact h.lt a Cp
     . exact hi) fun b hb => by
     show (if b < k then cs b else j) < m;split
     . exact h.csl b (by assumption)
     . exact hj)
  . have h3 := hy i;rw [show tp A j i = 0 from hA' i j Cp, CS, Ed] at h3;rw [h3];exact bR fun t _ => by rw [show tp A (cs t) i = 0 from hA' i _ Cp, CS]
 refine ⟨fun t => - y t, fun i => ?_⟩;have h4 := hy i;rw [e1, e0] at h4;have h5 : (sm k fun t => - y t * tp A (cs t) i) = - sm k fun t => y t * tp A (cs t) i := by
  have := bQ k (-1) fun t => y t * tp A (cs t) i;rw [show (-1 : Int) * (sm k fun t => y t * tp A (cs t) i) = - sm k fun t => y t * tp A (cs t) i by omega] at this;rw [<- this];exact ak fun t _ => by rw [Du]; omega
 show d * tp A j i = _;rw [h5]; omega
theorem iV.core {nu' cs' : Nat -> Nat} {R' : Mx} {d' : Int} (h : iV n m A m k nu cs R d) (h' : iV m n (tp A) n k nu' cs' R' d') (hA : ∀ i j, m <= j -> A i j = 0) (hA' : ∀ i j, n <= i -> A i j = 0) : (Go.Proofs.YtjjlmfmoihooiaaGreat.aS k fun a b => A (cs' a) (cs b)) ≠ 0 := fun h0 => by
 refine h.d0 (h.dE.trans (xd (D := d') h'.d0 (A := fun t b => A (cs' t) (cs b)) (B := fun a b => A (nu a) (cs b)) (fun a ha => ?_) h0));obtain ⟨y, hy⟩ := h'.AU (fun i j hj => hA' j i hj) (fun i j hi => hA j i hi) (j := nu a) (h.lt a (by have := h.kn; omega));exact ⟨y, fun b => hy (cs b)⟩
end
end Go.Proofs.YtjjlmfmoihooiaaGreat
namespace Go.Proofs.YtjjlmfmoihooiaaGreat
open Go.RowKit
theorem zn (aoA aoB : Option Addr) (lA cA lB cB : Nat) (xs ys : List Nat) (w : World) (hA : cX w aoA xs) (hB : cX w aoB ys) (hlA : lA = xs.length) (hlB : lB = ys.length) (hmA : lA <= 17592186044415) (hmB : lB <= 17592186044415) :
 Calls Tryz.prog 70 #[.slice aoA lA cA, .slice aoB lB cB] w fun e w' => e = .returned (.bool (decide (xs = ys))) /\ Below w.heap.size w w' := by
 subst hlA hlB;have HA := H5 hA; clear hA;have HB := H5 hB; clear hB;go_enter Tryz.func70, Tryz.ntmps70;by_cases hs : xs.length = ys.length
 . have hb : (((xs.length : Nat) : Int) != ((ys.length : Nat) : Int)) = false := by rw [hs]; simp
   have Hs := H5 hs; clear hs;go_wp2;go_loopw [5] (fun i wr => ∃ k : Nat, k <= xs.length /\ i = .int .i64 (k : Int) /\ Hid (∀ j, j < k -> gw xs j = gw ys j) /\ Below w.heap.size w wr) (fun i _ => xs.length - (intOf i).toNat)
   case atStart => exact ⟨0, Cx _, rfl, H5 (fun j hj => by omega), Below.refl _ _⟩
   case round =>
    obtain ⟨k, hk, rfl, hag, hbl⟩ := hrel;by_cases h0 : k < xs.length
    . have h01 : (k : Int) < (xs.length : Int) := by omega
      have h02 : (k : Int) < (ys.length : Int) := by have := Hs.out; omega
      obtain ⟨b1, o1, rfl, hb1, hc1⟩ := (HA.out.below hbl).pos Cp;obtain ⟨b2, o2, rfl, hb2, hc2⟩ := (HB.out.below hbl).pos Cp;have e1 := hc1 k h0;have e2 := hc2 k Cp;clear hc1 hc2;by_cases hne : gw xs k = gw ys k
      . have t1 : (((gw xs k : Nat) : Int) != ((gw ys k : Nat) : Int)) = false := by rw [hne]; simp
        have HN := H5 hne; clear hne;go_wp2
        go_quiet (fail)
        go_wp2;go_roundw
        case rel => exact ⟨k + 1, by omega, by go_num, H5 (fun j hj => by
         by_cases e : j = k
         . subst e; exact HN.out
         . exact hag.out j Cp), below_drewN hbl _⟩
        case measure => simp [intOf]; omega
      . have t1 : (((gw xs k : Nat) : Int) != ((gw ys k : Nat) : Int)) = true := by rw [bne_iff_ne]; omega
        have hd : decide (xs = ys) = false := by
         rw [decide_eq_false_iff_not]; intro e; exact hne (by rw [e])
        have HD := H5 hd; clear hd hne;go_wp2
        go_quiet (fail)
        go_wp2;go_ret;exact ⟨by rw [HD.out]; rfl, below_drewN hbl _⟩
    . obtain rfl : k = xs.length := by omega
      have hd : decide (xs = ys) = true := by
       rw [decide_eq_true_iff];refine Dx Hs.out fun j h1 h2 => ?_;have := hag.out j h1;unfold gw at this;simpa [h1, h2] using this
      have HD := H5 hd; clear hd;go_wp2;go_ret;exact ⟨by rw [HD.out]; rfl, hbl⟩
 . have hb : (((xs.length : Nat) : Int) != ((ys.length : Nat) : Int)) = true := by rw [bne_iff_ne]; omega
   have hd : decide (xs = ys) = false := by
    rw [decide_eq_false_iff_not]; intro e; exact hs (by rw [e])
   have HD := H5 hd; clear hd hs;go_wp2;go_ret;exact ⟨by rw [HD.out]; rfl, Below.refl _ _⟩
theorem ug (x y : Int) : (decide (fM x.natAbs = fM y.natAbs) && (decide (x < 0) == decide (y < 0))) = decide (x = y) := by
 have h1 : fM x.natAbs = fM y.natAbs ↔ x.natAbs = y.natAbs := ⟨fun h => by rw [<- dh x.natAbs, h, dh], fun h => by rw [h]⟩;rw [Bool.eq_iff_iff];simp only [CO, decide_eq_true_eq, beq_iff_eq, h1, decide_eq_decide];omega
theorem jc {fn : Func} {p q : Tmp} (h : fn.results = #[.cell p 24, .tmp q]) (tmps : Array Value) (w : World) (g : Nat) (a b c : Value) (hp : tmps.getD p undef = .pointer (some ⟨g, 0, none⟩)) (hr : aa w g 24 [a, b, c]) :
 (results fn tmps).run Tryz.prog w = .ok (.tuple #[.agg #[a, b, c], tmps.getD q undef]) w := by
 have hp' : tmps[p]?.getD undef = .pointer (some ⟨g, 0, none⟩) := by simpa using hp
 simp [results, h, hp', asAddr, run_loadVar_row w g 24 24 #[a, b, c] (0, 0) _ hr Tryz.underlying24 rfl (by kernel_rfl)]
theorem aa.BY {w : World} {b : Nat} {t : TypeId} {x y z : Value} (h : aa w b t [x, y, z]) (u v s : Value) : aa (((w.setCell ⟨b, 0, none⟩ u).setCell ⟨b, 1, none⟩ v).setCell ⟨b, 2, none⟩ s) b t [u, v, s] := by
 have := ((h.set 0 u).set 1 v).set 2 s;exact this
theorem aN.dU (a b : Int) (ao : Option Addr) (l k : Nat) : aN [.int .i64 a, .int .i64 b, .slice ao l k] := aN.i64 (aN.i64 (aN.slice aN.nil))
theorem aO.tE {w : World} {b : Nat} {xs : List Int} (h : aO w b xs) {g : Nat} {x y : Int} {ao : Option Addr} {l k : Nat} (hr : aa w g 24 [.int .i64 x, .int .i64 y, .slice ao l k]) (u v : Int) (ao' : Option Addr) (l' k' : Nat) : aO (((w.setCell ⟨g, 0, none⟩ (.int .i64 u)).setCell ⟨g, 1, none⟩ (.int .i64 v)).setCell ⟨g, 2, none⟩ (.slice ao' l' k')) b xs := by
 have h1 := h.kK hr Cr (aN.dU x y ao l k) 0 (.int .i64 u);have r1 : aa _ g 24 [.int .i64 u, .int .i64 y, .slice ao l k] := hr.set 0 (.int .i64 u);have h2 := h1.kK r1 Cr (aN.dU u y ao l k) 1 (.int .i64 v);have r2 : aa _ g 24 [.int .i64 u, .int .i64 v, .slice ao l k] := r1.set 1 (.int .i64 v);exact h2.kK r2 Cr (aN.dU u v ao l k) 2 (.slice ao' l' k')
theorem xg (r c : Int) (ao : Option Addr) (len cap : Nat) (xs : List Int) (w : World) (hr : -9223372036854775808 <= r /\ r <= 9223372036854775807) (hc : -9223372036854775808 <= c /\ c <= 9223372036854775807) (h : aQ w 17592186044415 ao xs) (hl : len = xs.length) (hs : ba r c len = true) (hlen : xs.length <= 8796093022208) :
 Calls Tryz.prog 88 #[.agg #[.int .i64 r, .int .i64 c, .slice ao len cap]] w fun e w' => (∃ b, e = .returned (.tuple #[.agg #[.int .i64 r, .int .i64 c, .slice (some ⟨b, 0, none⟩) xs.length xs.length], .int .i64 0]) /\ w.heap.size <= b /\ aO w' b xs) /\ Below w.heap.size w w' := by
 subst hl;have HL := H5 h; clear h;have HS := H5 (dv hs); clear hs;go_enter Tryz.func88, Tryz.ntmps88;go_wp2_with fail
 obtain ⟨r1, r2, hb⟩ := fR w #[.int .i64 r, .int .i64 c, .slice ao xs.length cap] #[.int .i64 0, .int .i64 0, .slice none 0 0] 24 24;generalize (w.alloc (.cells #[.int .i64 r, .int .i64 c, .slice ao xs.length cap] 24)).alloc (.cells #[.int .i64 0, .int .i64 0, .slice none 0 0] 24) = w2 at *;refine (cW r c ao xs.length cap _ hr hc).mono ?_;rintro e w3 ⟨rfl, hb3⟩;rw [HS.out];have R1 := r1.below hb3 r1.lt;have R2 := H5 (r2.below hb3 r2.lt);have L3 := H5 ((HL.out.below hb).below hb3);have B3 := H5 (hb.trans (hb3.mono hb.size));have hs2 : w.heap.size + 1 < w3.heap.size := R2.out.lt;have e0 : w3.cell? ⟨w.heap.size, 0, none⟩ = some (.int .i64 r) := R1.cell 0;have e1 : w3.cell? ⟨w.heap.size, 1, none⟩ = some (.int .i64 c) := R1.cell 1;have e2 : w3.cell? ⟨w.heap.size, 2, none⟩ = some (.slice ao xs.length cap) := R1.cell 2;have hne : ¬ w.heap.size + 1 = w.heap.size := by omega
 have hlt : w.heap.size < w3.heap.size := by omega
 clear r1 r2 hb hb3 R1;go_wp2
 go_region_held3 (fun w' => w'.cell? ⟨w.heap.size, 0, none⟩ = some (.int .i64 r) /\ w'.cell? ⟨w.heap.size, 1, none⟩ = some (.int .i64 c) /\ w'.cell? ⟨w.heap.size, 2, none⟩ = some (.slice ao xs.length cap))
  (first
   | exact ⟨e0, e1, e2⟩
   | exact ⟨k0, k1, k2⟩
   | exact ⟨m0, m1, m2⟩)
  (first
   | (go_at_call 67; (refine (jt ao cap xs _ (aQ.below (w := w3) L3.out (Below.refl _ _).drew) hlen).mono ?_); rintro e w4 ⟨⟨b, rfl, hbl, hRb⟩, hb4⟩; have k0 := (hb4.cell (p := ⟨w.heap.size, 0, none⟩) hlt).trans e0; have k1 := (hb4.cell (p := ⟨w.heap.size, 1, none⟩) hlt).trans e1; have k2 := (hb4.cell (p := ⟨w.heap.size, 2, none⟩) hlt).trans e2; have hR4 := aa.below (w := w3.drew) R2.out hb4 R2.out.lt; have z0 := hR4.cell 0; have z1 := hR4.cell 1; have z2 := hR4.cell 2; have y0 := hR4.free 0; have y1 := hR4.free 1; have y2 := hR4.free 2; have m0 := ((World.cell?_setCell_far _ ⟨w.heap.size + 1, 2, none⟩ ⟨w.heap.size, 0, none⟩ (.slice (some ⟨b, 0, none⟩) xs.length xs.length) hne).trans ((World.cell?_setCell_far _ ⟨w.heap.size + 1, 1, none⟩ ⟨w.heap.size, 0, none⟩ (.int .i64 c) hne).trans ((World.cell?_setCell_far w4 ⟨w.heap.size + 1, 0, none⟩ ⟨w.heap.size, 0, none⟩ (.int .i64 r) hne).trans k0))); have m1 := ((World.cell?_setCell_far _ ⟨w.heap.size + 1, 2, none⟩ ⟨w.heap.size, 1, none⟩ (.slice (some ⟨b, 0, none⟩) xs.length xs.length) hne).trans ((World.cell?_setCell_far _ ⟨w.heap.size + 1, 1, none⟩ ⟨w.heap.size, 1, none⟩ (.int .i64 c) hne).trans ((World.cell?_setCell_far w4 ⟨w.heap.size + 1, 0, none⟩ ⟨w.heap.size, 1, none⟩ (.int .i64 r) hne).trans k1))); have m2 := ((World.cell?_setCell_far _ ⟨w.heap.size + 1, 2, none⟩ ⟨w.heap.size, 2, none⟩ (.slice (some ⟨b, 0, none⟩) xs.length xs.length) hne).trans ((World.cell?_setCell_far _ ⟨w.heap.size + 1, 1, none⟩ ⟨w.heap.size, 2, none⟩ (.int .i64 c) hne).trans ((World.cell?_setCell_far w4 ⟨w.heap.size + 1, 0, none⟩ ⟨w.heap.size, 2, none⟩ (.int .i64 r) hne).trans k2)))))
 go_wp2;have hs4 := hb4.size;have hbl : w3.heap.size <= b := hbl;have hbw : Below w.heap.size w w4 := B3.out.drew.trans (hb4.mono B3.out.size);refine bodyPost_ret (jc (p := 2) (q := 3) (by kernel_rfl) _ _ (w.heap.size + 1) _ _ _ rfl (hR4.BY (.int .i64 r) (.int .i64 c) (.slice (some ⟨b, 0, none⟩) xs.length xs.length))) rfl ?_;exact ⟨⟨b, rfl, by omega, hRb.tE hR4 r c _ _ _⟩, ((hbw.setCell (p := ⟨w.heap.size + 1, 0, none⟩) (Ev _) _).setCell (p := ⟨w.heap.size + 1, 1, none⟩) (Ev _) _).setCell (p := ⟨w.heap.size + 1, 2, none⟩) (Ev _) _⟩
theorem sU (r c : Int) (ao : Option Addr) (len cap : Nat) (xs : List Int) (w : World) (hr : -9223372036854775808 <= r /\ r <= 9223372036854775807) (hc : -9223372036854775808 <= c /\ c <= 9223372036854775807) (h : aQ w 17592186044415 ao xs) (hl : len = xs.length) (hs : ba r c len = true) (hlen : xs.length <= 8796093022208) :
 Calls Tryz.prog 63 #[.agg #[.int .i64 r, .int .i64 c, .slice ao len cap]] w fun e w' => (∃ g b, e = .returned (.func (.func 89) #[] #[.pointer (some ⟨g, 0, none⟩)]) /\ w.heap.size <= g /\ w.heap.size <= b /\ aa w' g 24 [.int .i64 r, .int .i64 c, .slice (some ⟨b, 0, none⟩) xs.length xs.length] /\ aO w' b xs) /\ Below w.heap.size w w' := by
 subst hl;have HL := H5 h; clear h;have hb0 : Below w.heap.size w (w.alloc (.cells #[.int .i64 r, .int .i64 c, .slice ao xs.length cap] 24)) := (Below.refl _ _).alloc (Ct _) _;have HB0 := H5 hb0; clear hb0;go_enter Tryz.func63, Tryz.ntmps63;go_wp2_with fail
 generalize w.alloc (.cells #[.int .i64 r, .int .i64 c, .slice ao xs.length cap] 24) = w1 at *;refine (xg r c ao xs.length cap xs _ hr hc (HL.out.below HB0.out) rfl hs hlen).mono ?_;rintro e w2 ⟨⟨b, rfl, hb, hR⟩, hb2⟩;have hbw : Below w.heap.size w w2 := HB0.out.trans (hb2.mono HB0.out.size);have hs1 := HB0.out.size;have HBW := H5 hbw; clear hbw;have HR := H5 hR; clear hR;have hs2 := hb2.size;clear hb2;go_wp2;go_ret;have hb3 : Below w2.heap.size w2 (w2.alloc (.cells #[.int .i64 r, .int .i64 c, .slice (some ⟨b, 0, none⟩) xs.length xs.length] 24)) := (Below.refl _ _).alloc (Ct _) _;have hr3 := aa.new w2 #[.int .i64 r, .int .i64 c, .slice (some ⟨b, 0, none⟩) xs.length xs.length] 24;have hsz := HBW.out.size;exact ⟨⟨w2.heap.size, b, rfl, by omega, by omega, hr3, HR.out.below hb3⟩, HBW.out.trans (hb3.mono Cp)⟩
def lead : List Int -> Nat
 | [] => 0
 | x :: xs => if x = 0 then lead xs + 1 else 0
theorem qv : ∀ xs : List Int, lead xs <= xs.length
 | [] => Ct _
 | x :: xs => by
  unfold lead; split
  . have := qv xs; simp; omega
  . simp
theorem uV : ∀ (xs : List Int) (k : Nat) (h : k < xs.length), (∀ i (h' : i < k), xs[i]'Cp = 0) -> xs[k] ≠ 0 -> lead xs = k
 | x :: xs, 0, _, _, hn => by unfold lead; rw [if_neg]; simpa using hn
 | x :: xs, k + 1, h, hz, hn => by
  have h0 : x = 0 := hz 0 Cp;unfold lead; rw [if_pos h0, uV xs k (by simpa using h) (fun i hi => by have := hz (i + 1) Cp; simpa using this) (by simpa using hn)]
theorem th : ∀ (xs : List Int), (∀ i (h : i < xs.length), xs[i] = 0) -> lead xs = xs.length
 | [], _ => rfl
 | x :: xs, hz => by
  have h0 : x = 0 := hz 0 Cq;unfold lead; rw [if_pos h0, th xs (fun i hi => by have := hz (i + 1) (by simpa using hi); simpa using this)]; rfl
theorem kI (b cap : Nat) (xs : List Int) (w : World) (hR : aO w b xs) (hL : ∀ x ∈ xs, ag x.natAbs <= 17592186044415) (hlen : xs.length <= 9223372036854775807) :
 Calls Tryz.prog 44 #[.slice (some ⟨b, 0, none⟩) xs.length cap] w fun e w' => e = .returned (.int .i64 (lead xs : Nat)) /\ Below w.heap.size w w' := by
 have HL := H5 hL; clear hL;have HR := H5 hR; clear hR;go_enter Tryz.func44, Tryz.ntmps44;go_wp2;go_loopw [7] (fun i wr => ∃ k : Nat, k <= xs.length /\ i = .int .i64 (k : Int) /\ Hid (∀ j (h : j < k) (h' : j < xs.length), xs[j] = 0) /\ Below w.heap.size w wr) (fun i _ => xs.length - (intOf i).toNat)
 case atStart => exact ⟨0, Cx _, rfl, fun j h => by omega, Below.refl _ _⟩
 case round =>
  obtain ⟨k, hk, rfl, hz, hb⟩ := hrel;by_cases hkl : k < xs.length
  . have hR2 := HR.out.below hb;obtain ⟨p, hc0, hc1, hn⟩ := hR2.get hkl;have hkl' : (k : Int) < (xs.length : Int) := by omega
    have HN := H5 hn;clear hn;go_wp2_with fail
    have hb1 : Below wr.heap.size wr (wr.alloc (.cells #[.bool p.fst, .slice p.snd.fst p.snd.snd.fst p.snd.snd.snd] 37)) := (Below.refl _ _).alloc (Ct _) _;refine (cO (av p) xs[k] _ ((HN.out.int (HL.out _ (Cu hkl))).below hb1)).mono ?_;rintro e w2 ⟨rfl, hb2⟩;have hb3 : Below w.heap.size w w2 := hb.trans ((hb1.trans (hb2.mono hb1.size)).mono hb.size);have HB3 := H5 hb3;clear hb1 hb2 hb3 hc0 hc1;by_cases h0 : xs[k] = 0
    . have hz0 : aV xs[k] = 0 := dm.2 h0;rw [hz0];have H0 := H5 h0;clear h0 hz0;go_wp2;go_roundw
      case rel => exact ⟨k + 1, by omega, by go_num, H5 (fun j hj hj' => (Nat.lt_succ_iff_lt_or_eq.1 hj).elim (fun h => hz.out j h hj') (fun h => by subst h; exact H0.out)), HB3.out⟩
      case measure => simp [intOf]; omega
    . have hn0 : ¬ aV xs[k] = 0 := fun h => h0 (dm.1 h);have hle := uV xs k hkl (fun i h' => hz.out i h' Cp) h0;have HLE := H5 hle;obtain ⟨s, hs⟩ := Cs (aV xs[k]);rw [hs] at hn0 |-;have hb0 : (s != 0) = true := by simpa using hn0
      clear h0 hle hs;go_wp2;go_ret;rw [HLE.out];exact ⟨rfl, HB3.out⟩
  . obtain rfl : k = xs.length := by omega
    have hle := th xs (fun i h => hz.out i h h);have HLE := H5 hle;clear hle;go_wp2;go_ret;rw [HLE.out];exact ⟨rfl, hb⟩
def fO (k : Int) (xs ys : List Int) : List Int := List.zipWith (fun x y => k * y + x) xs ys
def jd (k : Int) (xs ys cu : List Int) (m : Nat) : Prop := cu.length = xs.length /\ (∀ j (h : j < cu.length) (h1 : j < xs.length) (h2 : j < ys.length), j < m -> cu[j] = k * ys[j] + xs[j]) /\ (∀ j (h : j < cu.length) (h1 : j < xs.length), m <= j -> cu[j] = xs[j])
theorem jd.start (k : Int) (xs ys : List Int) : jd k xs ys xs 0 := ⟨rfl, fun _ _ _ _ h => by omega, fun _ _ _ _ => rfl⟩
theorem jd.next {k : Int} {xs ys cu : List Int} {m : Nat} (h : jd k xs ys cu m) (hm : m < xs.length) (hl : xs.length = ys.length) : jd k xs ys (cu.set m (k * ys[m] + xs[m])) (m + 1) := by
 obtain ⟨h1, h2, h3⟩ := h;refine ⟨by simpa using h1, fun j hj hx hy hjm => ?_, fun j hj hx hjm => ?_⟩
 . rw [DL];split
   . rename_i e; subst e; rfl
   . exact h2 j (by simpa using hj) hx hy Cp
 . rw [DL, if_neg Cp];exact h3 j (by simpa using hj) hx Cp
theorem jd.skip {k : Int} {xs ys cu : List Int} {m : Nat} (h : jd k xs ys cu m) (hm : m < xs.length) (hl : xs.length = ys.length) (h0 : ys[m] = 0) : jd k xs ys cu (m + 1) := by
 obtain ⟨h1, h2, h3⟩ := h;refine ⟨h1, fun j hj hx hy hjm => ?_, fun j hj hx hjm => h3 j hj hx Cp⟩;by_cases e : j = m
 . subst e; rw [h3 j hj hx (Ct _), h0]; simp
 . exact h2 j hj hx hy Cp
theorem jd.all {k : Int} {xs ys cu : List Int} (h : jd k xs ys cu xs.length) (hl : xs.length = ys.length) : cu = fO k xs ys := by
 obtain ⟨h1, h2, h3⟩ := h;refine Dx (by simp [fO, h1, <- hl]) fun j hj hj' => ?_;rw [h2 j hj Cp Cp Cp];simp [fO]
theorem BD (bx by_ cx cy LA LB : Nat) (xs ys : List Int) (kv : Value) (k : Int) (w : World) (hX : aO w bx xs) (hY : aO w by_ ys) (hK : ah w LA kv k) (hne : bx ≠ by_) (hl : xs.length = ys.length)
 (hxL : ∀ x ∈ xs, ag x.natAbs <= 17592186044415) (hyL : ∀ y ∈ ys, ag y.natAbs <= LB) (hLab : LA + LB <= 17592186044415) (hlen : xs.length <= 4611686018427387903) :
 Calls Tryz.prog 114 #[.slice (some ⟨bx, 0, none⟩) xs.length cx, .slice (some ⟨by_, 0, none⟩) ys.length cy, kv] w fun e w' => e = .returned (.tuple #[]) /\ aO w' bx (fO k xs ys) /\ aU (· = bx) w w' := by
 obtain ⟨kp, rfl⟩ := hK.parts;have HX := H5 hX; clear hX;have HY := H5 hY; clear hY;have HK := H5 hK; clear hK;have HXL := H5 hxL; clear hxL;have HYL := H5 hyL; clear hyL;have Hl := H5 hl; clear hl;go_enter Tryz.func114, Tryz.ntmps114;unfold av at *;go_wp2;have hb1 : Below w.heap.size w (w.alloc (.cells #[.bool kp.1, .slice kp.2.1 kp.2.2.1 kp.2.2.2] 37)) := (Below.refl _ _).alloc (Ct _) _;have hr1 := aa.new w #[.bool kp.1, .slice kp.2.1 kp.2.2.1 kp.2.2.2] 37;generalize w.alloc (.cells #[.bool kp.1, .slice kp.2.1 kp.2.2.1 kp.2.2.2] 37) = w1 at *;have HB1 := H5 (aU.bC (S := (· = bx)) hb1);have HX1 := H5 (HX.out.below hb1);have HY1 := H5 (HY.out.below hb1);have HK1 := H5 (HK.out.below hb1);have HR1 := H5 hr1;have hs1 : w.heap.size < w1.heap.size := hr1.lt;have hbx := HX.out.lt;have hby := HY.out.lt;clear hr1 hb1;go_loopw [9] (fun i wr => ∃ (m : Nat) (cu : List Int), m <= xs.length /\ i = .int .i64 (m : Int) /\ Hid (jd k xs ys cu m) /\ Hid (aO wr bx cu) /\ Hid (aO wr by_ ys) /\ Hid (aa wr w.heap.size 37 [.bool kp.1, .slice kp.2.1 kp.2.2.1 kp.2.2.2]) /\ Hid (ah wr LA (av kp) k) /\ Hid (aU (· = bx) w wr)) (fun i _ => xs.length - (intOf i).toNat)
 case atStart => exact ⟨0, xs, Cx _, rfl, jd.start .., HX1, HY1, HR1, HK1, HB1⟩
 case round =>
  obtain ⟨m, cu, hm, rfl, HA, hX, hY, hR, hK, hC⟩ := hrel;by_cases hml : m < xs.length
  . have hmy : m < ys.length := by have := Hl.out; omega
    have hmx : m < cu.length := by rw [HA.out.1]; exact hml
    have hm1 : (m : Int) < (ys.length : Int) := by omega
    have hm2 : (m : Int) < (xs.length : Int) := by omega
    obtain ⟨py, cy0, cy1, hny⟩ := hY.out.get hmy;have Hny := H5 hny; clear hny;go_wp2_with fail
    refine (cO (av py) ys[m] _ (Hny.out.int (by have := HYL.out _ (Cu hmy); omega))).mono ?_;rintro e w2 ⟨rfl, hb2⟩;clear cy0 cy1;have X2 := H5 (hX.out.below hb2);have Y2 := H5 (hY.out.below hb2);have R2 := H5 (hR.out.below hb2 hR.out.lt);have K2 := H5 (hK.out.below hb2);have C2 := H5 (hC.out.below hb2);have N2 := H5 (Hny.out.below hb2);have hsw := hC.out.size;have hsw2 := hb2.size;have hswr := hR.out.lt;clear hX hY hR hK hC Hny hb2;by_cases h0 : ys[m] = 0
    . have hz0 : aV ys[m] = 0 := dm.2 h0;rw [hz0];have H0 := H5 h0;clear h0 hz0;go_wp2;go_roundw
      case rel => exact ⟨m + 1, cu, by omega, by go_num, HA.out.skip hml Hl.out H0.out, X2, Y2, R2, K2, C2⟩
      case measure => simp [intOf]; omega
    . have hn0 : ¬ aV ys[m] = 0 := fun h => h0 (dm.1 h);obtain ⟨s, hs⟩ := Cs (aV ys[m]);rw [hs] at hn0 |-;have hb0 : (s != 0) = true := by simpa using hn0
      clear h0 hs;go_wp2;clear hb0 hn0;obtain ⟨px, cx0, cx1, hnx⟩ := X2.out.get hmx;obtain ⟨py, cy0, cy1, hny⟩ := Y2.out.get hmy;have ck0 : w2.cell? ⟨w.heap.size, 0, none⟩ = some (.bool kp.1) := R2.out.cell 0;have ck1 : w2.cell? ⟨w.heap.size, 1, none⟩ = some (.slice kp.2.1 kp.2.2.1 kp.2.2.2) := R2.out.cell 1;have hbx2 := X2.out.lt;have hby2 := Y2.out.lt;have hsk2 := R2.out.lt;have hxe : cu[m] = xs[m] := HA.out.2.2 m hmx hml (Ct _);have hxw : ag (cu[m]).natAbs <= 17592186044415 := by rw [hxe]; exact HXL.out _ (Cu hml)
      have hyw : ag (ys[m]).natAbs <= LB := HYL.out _ (Cu hmy);have HXE := H5 hxe; clear hxe;have Hnx := H5 (hnx.int hxw); clear hnx;have Hny := H5 (hny.int hyw); clear hny;clear N2;refine dV ⟨13, fun q_ => [18, 19, 20, 21, 22, 23, 24, 25, 26, 27, 28, 29, 30].getD q_ 0,
       fun q_ => [.val (.slice (some ⟨bx, 0, none⟩) xs.length cx), .val (.int .i64 (m : Int)), .val (.agg #[.bool kp.1, .slice kp.2.1 kp.2.2.1 kp.2.2.2]), .val (.slice (some ⟨by_, 0, none⟩) ys.length cy), .val (.int .i64 (m : Int)), .val (.pointer (some ⟨by_, m * 2, none⟩)), .val (.agg #[.bool py.1, .slice py.2.1 py.2.2.1 py.2.2.2]), .val (.slice (some ⟨bx, 0, none⟩) xs.length cx), .val (.int .i64 (m : Int)), .val (.pointer (some ⟨bx, m * 2, none⟩)), .val (.agg #[.bool px.1, .slice px.2.1 px.2.2.1 px.2.2.2]), .int 0 (k * ys[m] + cu[m]), .val (.pointer (some ⟨bx, m * 2, none⟩))].getD q_ .any,
       [],
       [(.agg #[.bool kp.1, .slice kp.2.1 kp.2.2.1 kp.2.2.2], .at_ LA k), (.agg #[.bool py.1, .slice py.2.1 py.2.2.1 py.2.2.2], .at_ LB ys[m]), (.agg #[.bool px.1, .slice px.2.1 px.2.2.1 px.2.2.2], .at_ 17592186044415 cu[m])],
       [],
       [], [(⟨w.heap.size, 0, none⟩, .bool kp.1), (⟨w.heap.size, 1, none⟩, .slice kp.2.1 kp.2.2.1 kp.2.2.2), (⟨by_, m * 2, none⟩, .bool py.1), (⟨by_, m * 2 + 1, none⟩, .slice py.2.1 py.2.2.1 py.2.2.2), (⟨bx, m * 2, none⟩, .bool px.1), (⟨bx, m * 2 + 1, none⟩, .slice px.2.1 px.2.2.1 px.2.2.2)], []⟩ [18, 19, 20, 21, 22, 23, 24, 25, 26, 27, 28, 29, 30] (w2.heap.size) (by kernel_rfl) (by kernel_rfl) (by kernel_rfl) (by kernel_rfl) (by kernel_rfl) ?_ ?_ ?_ ?_ ?_ ?_
      . exact bO (K2.out) (bO (Hny.out) (bO (Hnx.out) bf))
      . exact bf
      . exact bO (⟨ck0, by dsimp only; omega, bf⟩) (bO (⟨ck1, by dsimp only; omega, bf⟩) (bO (⟨cy0, by dsimp only; omega, bf⟩) (bO (⟨cy1, by dsimp only; omega, bf⟩) (bO (⟨cx0, by dsimp only; omega, bf⟩) (bO (⟨cx1, by dsimp only; omega, bf⟩) bf)))))
      . exact bf
      . refine aj ?_ (aj ?_ (aj ?_ (aj ?_ (aj ?_ (aj ?_ (aj ?_ (aj ?_ (aj ?_ (aj ?_ (aj ?_ (aj ?_ (aj ?_ lk))))))))))));any_goals (first | (intro L fx w' hJ hL hp hcl; have _ := tN hp (by decide +kernel); refine aX rfl fun K hK => ?_; go_simp; exact hJ.q hK (by kernel_rfl) rfl) | fail)
        . intro L fx w' hJ hL hp hcl;refine aX rfl fun K hK => ?_;have cl0 := (hJ.cells _ gM).1;have cl1 := (hJ.cells _ jk).1;try dsimp only at cl0 cl1
          go_simp;exact hJ.q hK (by kernel_rfl) rfl
        . intro L fx w' hJ hL hp hcl;have e3 := hJ.pt 3 21 (.slice (some ⟨by_, 0, none⟩) ys.length cy) rfl rfl rfl (hp 3 Cr);rw [e3] at hJ |-; clear e3;have e4 := hJ.pt 4 22 (.int .i64 (m : Int)) rfl rfl rfl (hp 4 Cr);rw [e4] at hJ |-; clear e4;refine aX rfl fun K hK => ?_;go_simp;exact hJ.q hK (by kernel_rfl) rfl
        . intro L fx w' hJ hL hp hcl;have e5 := hJ.pt 5 23 (.pointer (some ⟨by_, m * 2, none⟩)) rfl rfl rfl (hp 5 Cr);rw [e5] at hJ |-; clear e5;refine aX rfl fun K hK => ?_;have cl0 := (hJ.cells _ r8).1;have cl1 := (hJ.cells _ wR).1;try dsimp only at cl0 cl1
          go_simp;exact hJ.q hK (by kernel_rfl) rfl
        . intro L fx w' hJ hL hp hcl;have e7 := hJ.pt 7 25 (.slice (some ⟨bx, 0, none⟩) xs.length cx) rfl rfl rfl (hp 7 Cr);rw [e7] at hJ |-; clear e7;have e8 := hJ.pt 8 26 (.int .i64 (m : Int)) rfl rfl rfl (hp 8 Cr);rw [e8] at hJ |-; clear e8;refine aX rfl fun K hK => ?_;go_simp;exact hJ.q hK (by kernel_rfl) rfl
        . intro L fx w' hJ hL hp hcl;have e9 := hJ.pt 9 27 (.pointer (some ⟨bx, m * 2, none⟩)) rfl rfl rfl (hp 9 Cr);rw [e9] at hJ |-; clear e9;refine aX rfl fun K hK => ?_;have cl0 := (hJ.cells _ mm4).1;have cl1 := (hJ.cells _ mm5).1;try dsimp only at cl0 cl1
          go_simp;exact hJ.q hK (by kernel_rfl) rfl
        . intro L fx w' hJ hL hp hcl;have e2 := hJ.pt 2 20 (.agg #[.bool kp.1, .slice kp.2.1 kp.2.2.1 kp.2.2.2]) rfl rfl rfl (hp 2 Cr);rw [e2] at hJ |-; clear e2;have e6 := hJ.pt 6 24 (.agg #[.bool py.1, .slice py.2.1 py.2.2.1 py.2.2.2]) rfl rfl rfl (hp 6 Cr);rw [e6] at hJ |-; clear e6;have e10 := hJ.pt 10 28 (.agg #[.bool px.1, .slice px.2.1 px.2.2.1 px.2.2.2]) rfl rfl rfl (hp 10 Cr);rw [e10] at hJ |-; clear e10;refine aX rfl fun K hK => ?_;go_simp;go_at_call 94;refine (gj _ _ _ k ys[m] cu[m] LA LB _ (show ah w' (LA) (.agg #[.bool kp.1, .slice kp.2.1 kp.2.2.1 kp.2.2.2]) (k) from hJ.base _ gM) (show ah w' (LB) (.agg #[.bool py.1, .slice py.2.1 py.2.2.1 py.2.2.2]) (ys[m]) from hJ.base _ jk) (show ah w' (17592186044415) (.agg #[.bool px.1, .slice px.2.1 px.2.2.1 px.2.2.2]) (cu[m]) from hJ.base _ r8) hLab).mono ?_;rintro e w4 ⟨⟨v5, rfl, h5⟩, hb4⟩;try dsimp only
          exact hK _ _ ⟨_, by kernel_rfl, hJ.gC 11 rfl (by kernel_rfl) hb4 (ai.mono h5 (Cx _)) Cp⟩
        . intro L fx w' hJ hL hp hcl;have e0 := hJ.pt 0 18 (.slice (some ⟨bx, 0, none⟩) xs.length cx) rfl rfl rfl (hp 0 Cr);rw [e0] at hJ |-; clear e0;have e1 := hJ.pt 1 19 (.int .i64 (m : Int)) rfl rfl rfl (hp 1 Cr);rw [e1] at hJ |-; clear e1;refine aX rfl fun K hK => ?_;go_simp;exact hJ.q hK (by kernel_rfl) rfl
      . intro L x' w3 hL hJ;have hfr : Below w2.drew.heap.size w2.drew w3 := hJ.fr;have e11 : ai w3 0 (x' 29) (k * ys[m] + cu[m]) := hJ.slot 11 (by show 11 < 13; decide) (hL 11 (by show 11 < 13; decide));have e12 : x' 30 = .pointer (some ⟨bx, m * 2, none⟩) := hJ.slot 12 (by show 12 < 13; decide) (hL 12 (by show 12 < 13; decide));obtain ⟨pz, hpz⟩ := aL.parts e11.num;rw [hpz] at e11;unfold av at hpz;rw [aH (x := x') (d := 29) hpz];rw [aH (x := bD x' 29 (.agg #[.bool pz.1, .slice pz.2.1 pz.2.2.1 pz.2.2.2])) (d := 30) (v := .pointer (some ⟨bx, m * 2, none⟩)) e12];clear hJ hL;have X3 := H5 (aO.below (w := w2.drew) X2.out hfr);have Y3 := H5 (aO.below (w := w2.drew) Y2.out hfr);have R3 := H5 (aa.below (w := w2.drew) R2.out hfr R2.out.lt);have K3 := H5 (ah.below (w := w2.drew) K2.out hfr);have C3 := H5 (C2.out.drew.below hfr);obtain ⟨pq, q0, q1, _⟩ := X3.out.get hmx;have q2 := X3.out.free (m * 2);have q3 := X3.out.free (m * 2 + 1);refine aX rfl fun K hK => ?_;go_simp;refine hK _ _ ⟨⟨bD (bD x' 29 (.agg #[.bool pz.1, .slice pz.2.1 pz.2.2.1 pz.2.2.2])) 30 (.pointer (some ⟨bx, m * 2, none⟩)), by kernel_rfl⟩, ?_⟩;clear hK q0 q1 q2 q3;go_wp2;go_roundw
        case rel =>
         refine ⟨m + 1, _, by omega, by go_num, ?_, H5 (X3.out.set m e11.num), H5 (X3.out.qx Y3.out (fun e => hne e.symm) m pz), H5 ((R3.out.other (by show w.heap.size ≠ bx; omega) _).other (by show w.heap.size ≠ bx; omega) _), H5 (X3.out.ei K3.out m pz), H5 ((C3.out.set rfl _).set rfl _)⟩;rw [HXE.out];exact HA.out.next hml Hl.out
        case measure => simp [intOf]; omega
  . obtain rfl : m = xs.length := by omega
    have he := HA.out.all Hl.out;have HE := H5 he;clear he;go_wp2;refine bodyPost_end (results_none (by kernel_rfl) _ _ _) rfl ?_;rw [<- HE.out];exact ⟨rfl, hX.out, hC.out⟩
def CV.cells (cs : List Value) : CV := CV.free (fun _ v => v = cs) (fun h _ => h) (fun h _ _ _ _ _ _ => h)
def gL (a b : Int) (xs ys : List Int) : List Int := List.zipWith (fun u v => a * u + b * v) xs ys
def jC (a b : Int) (xs ys zs cu : List Int) (m : Nat) : Prop := cu.length = zs.length /\ (∀ j (h : j < cu.length) (h1 : j < xs.length) (h2 : j < ys.length), j < m -> cu[j] = a * xs[j] + b * ys[j]) /\ (∀ j (h : j < cu.length) (h1 : j < zs.length), m <= j -> cu[j] = zs[j])
theorem jC.start (a b : Int) (xs ys zs : List Int) : jC a b xs ys zs zs 0 := ⟨rfl, fun _ _ _ _ h => by omega, fun _ _ _ _ => rfl⟩
theorem jC.next {a b : Int} {xs ys zs cu : List Int} {m : Nat} (h : jC a b xs ys zs cu m) (hx : m < xs.length) (hy : m < ys.length) : jC a b xs ys zs (cu.set m (a * xs[m] + b * ys[m])) (m + 1) := by
 obtain ⟨h1, h2, h3⟩ := h;refine ⟨by simpa using h1, fun j hj hx hy hjm => ?_, fun j hj hx hjm => ?_⟩
 . rw [DL];split
   . rename_i e; subst e; rfl
   . exact h2 j (by simpa using hj) hx hy Cp
 . rw [DL, if_neg Cp];exact h3 j (by simpa using hj) hx Cp
theorem jC.all {a b : Int} {xs ys zs cu : List Int} (h : jC a b xs ys zs cu xs.length) (hl : xs.length = ys.length) (hz : xs.length = zs.length) : cu = gL a b xs ys := by
 obtain ⟨h1, h2, h3⟩ := h;refine Dx (by simp [gL, h1, <- hl, hz]) fun j hj hj' => ?_;rw [h2 j hj Cp Cp Cp];simp [gL]
theorem C0 (bx by_ cx cy LA LB : Nat) (xs ys : List Int) (p q r s : P4) (a b c d : Int) (w : World) (hX : aO w bx xs) (hY : aO w by_ ys) (hA : ah w LA (av p) a) (hB : ah w LA (av q) b) (hC : ah w LA (av r) c) (hD : ah w LA (av s) d) (hne : bx ≠ by_) (hl : xs.length = ys.length)
 (hxL : ∀ x ∈ xs, ag x.natAbs <= LB) (hyL : ∀ y ∈ ys, ag y.natAbs <= LB) (hLab : LA + LB <= 17592186044415) (hlen : xs.length <= 4611686018427387903) :
 Calls Tryz.prog 116 #[.slice (some ⟨bx, 0, none⟩) xs.length cx, .slice (some ⟨by_, 0, none⟩) ys.length cy, .agg #[.bool p.1, .slice p.2.1 p.2.2.1 p.2.2.2, .bool q.1, .slice q.2.1 q.2.2.1 q.2.2.2, .bool r.1, .slice r.2.1 r.2.2.1 r.2.2.2, .bool s.1, .slice s.2.1 s.2.2.1 s.2.2.2]] w
  fun e w' => e = .returned (.tuple #[]) /\ aO w' bx (gL a b xs ys) /\ aO w' by_ (gL c d xs ys) /\ aU (fun k => k = bx \/ k = by_) w w' := by
 have HX := H5 hX; clear hX;have HY := H5 hY; clear hY;have HA := H5 hA; clear hA;have HB := H5 hB; clear hB;have HC := H5 hC; clear hC;have HD := H5 hD; clear hD;have HXL := H5 hxL; clear hxL;have HYL := H5 hyL; clear hyL;have Hl := H5 hl; clear hl;go_enter Tryz.func116, Tryz.ntmps116;unfold av at *;go_wp2;have hb1 : Below w.heap.size w (w.alloc (.cells #[.bool p.1, .slice p.2.1 p.2.2.1 p.2.2.2, .bool q.1, .slice q.2.1 q.2.2.1 q.2.2.2, .bool r.1, .slice r.2.1 r.2.2.1 r.2.2.2, .bool s.1, .slice s.2.1 s.2.2.1 s.2.2.2] 138)) := (Below.refl _ _).alloc (Ct _) _;have hr1 := aa.new w #[.bool p.1, .slice p.2.1 p.2.2.1 p.2.2.2, .bool q.1, .slice q.2.1 q.2.2.1 q.2.2.2, .bool r.1, .slice r.2.1 r.2.2.1 r.2.2.2, .bool s.1, .slice s.2.1 s.2.2.1 s.2.2.2] 138;generalize w.alloc (.cells #[.bool p.1, .slice p.2.1 p.2.2.1 p.2.2.2, .bool q.1, .slice q.2.1 q.2.2.1 q.2.2.2, .bool r.1, .slice r.2.1 r.2.2.1 r.2.2.2, .bool s.1, .slice s.2.1 s.2.2.1 s.2.2.2] 138) = w1 at *;have HB1 := H5 (aU.bC (S := (fun k => k = bx \/ k = by_)) hb1);have HX1 := H5 (HX.out.below hb1);have HY1 := H5 (HY.out.below hb1);have HI1 : Hid (ah w1 LA (av p) a /\ ah w1 LA (av q) b /\ ah w1 LA (av r) c /\ ah w1 LA (av s) d) := H5 ⟨HA.out.below hb1, HB.out.below hb1, HC.out.below hb1, HD.out.below hb1⟩;have HR1 := H5 hr1;have hs1 : w.heap.size < w1.heap.size := hr1.lt;have hbx := HX.out.lt;have hby := HY.out.lt;clear hr1 hb1;go_loopw [11] (fun i wr => ∃ (m : Nat) (cu cv : List Int), m <= xs.length /\ i = .int .i64 (m : Int) /\ Hid (jC a b xs ys xs cu m) /\ Hid (jC c d xs ys ys cv m) /\ Hid (aO wr bx cu) /\ Hid (aO wr by_ cv) /\ Hid (aa wr w.heap.size 138 [.bool p.1, .slice p.2.1 p.2.2.1 p.2.2.2, .bool q.1, .slice q.2.1 q.2.2.1 q.2.2.2, .bool r.1, .slice r.2.1 r.2.2.1 r.2.2.2, .bool s.1, .slice s.2.1 s.2.2.1 s.2.2.2]) /\ Hid (ah wr LA (av p) a /\ ah wr LA (av q) b /\ ah wr LA (av r) c /\ ah wr LA (av s) d) /\ Hid (aU (fun k => k = bx \/ k = by_) w wr)) (fun i _ => xs.length - (intOf i).toNat)
 case atStart => exact ⟨0, xs, ys, Cx _, rfl, jC.start .., jC.start .., HX1, HY1, HR1, HI1, HB1⟩
 case round =>
  obtain ⟨m, cu, cv, hm, rfl, HU, HV, hX, hY, hR, hI, hC⟩ := hrel;by_cases hml : m < xs.length
  . have hmy : m < ys.length := by have := Hl.out; omega
    have hmx : m < cu.length := by rw [HU.out.1]; exact hml
    have hmv : m < cv.length := by rw [HV.out.1]; exact hmy
    have hm1 : (m : Int) < (ys.length : Int) := by omega
    have hm2 : (m : Int) < (xs.length : Int) := by omega
    go_wp2;obtain ⟨pu, cu0, cu1, hnu⟩ := hX.out.get hmx;obtain ⟨pv, cv0, cv1, hnv⟩ := hY.out.get hmv;have hxe : cu[m] = xs[m] := HU.out.2.2 m hmx hml (Ct _);have hye : cv[m] = ys[m] := HV.out.2.2 m hmv hmy (Ct _);rw [hxe] at hnu;rw [hye] at hnv;have hxw : ag (xs[m]).natAbs <= LB := HXL.out _ (Cu hml);have hyw : ag (ys[m]).natAbs <= LB := HYL.out _ (Cu hmy);have Hnu := H5 (hnu.int hxw);have Hnv := H5 (hnv.int hyw);clear hxe hye hnu hnv;have hbx2 := hX.out.lt;have hby2 := hY.out.lt;have hsk2 := hR.out.lt;have hswr := hC.out.size;refine eK ⟨12, fun q_ => [14, 15, 16, 17, 18, 19, 20, 21, 7, 8, 1010, 1011].getD q_ 0,
     fun q_ => [.val (.slice (some ⟨bx, 0, none⟩) xs.length cx), .val (.int .i64 (m : Int)), .val (.pointer (some ⟨bx, m * 2, none⟩)), .val (.agg #[.bool pu.1, .slice pu.2.1 pu.2.2.1 pu.2.2.2]), .val (.slice (some ⟨by_, 0, none⟩) ys.length cy), .val (.int .i64 (m : Int)), .val (.pointer (some ⟨by_, m * 2, none⟩)), .val (.agg #[.bool pv.1, .slice pv.2.1 pv.2.2.1 pv.2.2.2]), .ptr wr.heap.size 37 2, .ptr wr.heap.size 37 2, .any, .any].getD q_ .any,
     [],
     [],
     [],
     [(10, 7, 37, .cells [.bool pu.1, .slice pu.2.1 pu.2.2.1 pu.2.2.2]), (11, 8, 37, .cells [.bool pv.1, .slice pv.2.1 pv.2.2.1 pv.2.2.2])], [(⟨bx, m * 2, none⟩, .bool pu.1), (⟨bx, m * 2 + 1, none⟩, .slice pu.2.1 pu.2.2.1 pu.2.2.2), (⟨by_, m * 2, none⟩, .bool pv.1), (⟨by_, m * 2 + 1, none⟩, .slice pv.2.1 pv.2.2.1 pv.2.2.2)], [(8, 7), (9, 8)]⟩ [14, 15, 16, 17, 18, 19, 20, 21, 7, 8] (wr.heap.size) (by kernel_rfl) (by kernel_rfl) (by kernel_rfl) (by kernel_rfl) ?_ ?_ ?_ ?_ ?_ ?_
    . exact bf
    . exact bf
    . exact bO (⟨cu0, by dsimp only; omega, bf⟩) (bO (⟨cu1, by dsimp only; omega, bf⟩) (bO (⟨cv0, by dsimp only; omega, bf⟩) (bO (⟨cv1, by dsimp only; omega, bf⟩) bf)))
    . exact bf
    . refine aj ?_ (aj ?_ (aj ?_ (aj ?_ (aj ?_ (aj ?_ (aj ?_ (aj ?_ (aj ?_ (aj ?_ (aj ?_ (aj ?_ lk)))))))))));any_goals (first | (intro L fx w' hJ hL hp hcl; have _ := tN hp (by decide +kernel); refine aX rfl fun K hK => ?_; go_simp; exact hJ.q hK (by kernel_rfl) rfl) | fail)
      . intro L fx w' hJ hL hp hcl;have e0 := hJ.pt 0 14 (.slice (some ⟨bx, 0, none⟩) xs.length cx) rfl rfl rfl (hp 0 Cr);rw [e0] at hJ |-; clear e0;have e1 := hJ.pt 1 15 (.int .i64 (m : Int)) rfl rfl rfl (hp 1 Cr);rw [e1] at hJ |-; clear e1;refine aX rfl fun K hK => ?_;go_simp;exact hJ.q hK (by kernel_rfl) rfl
      . intro L fx w' hJ hL hp hcl;have e2 := hJ.pt 2 16 (.pointer (some ⟨bx, m * 2, none⟩)) rfl rfl rfl (hp 2 Cr);rw [e2] at hJ |-; clear e2;refine aX rfl fun K hK => ?_;have cl0 := (hJ.cells _ gM).1;have cl1 := (hJ.cells _ jk).1;try dsimp only at cl0 cl1
        go_simp;exact hJ.q hK (by kernel_rfl) rfl
      . intro L fx w' hJ hL hp hcl;have e4 := hJ.pt 4 18 (.slice (some ⟨by_, 0, none⟩) ys.length cy) rfl rfl rfl (hp 4 Cr);rw [e4] at hJ |-; clear e4;have e5 := hJ.pt 5 19 (.int .i64 (m : Int)) rfl rfl rfl (hp 5 Cr);rw [e5] at hJ |-; clear e5;refine aX rfl fun K hK => ?_;go_simp;exact hJ.q hK (by kernel_rfl) rfl
      . intro L fx w' hJ hL hp hcl;have e6 := hJ.pt 6 20 (.pointer (some ⟨by_, m * 2, none⟩)) rfl rfl rfl (hp 6 Cr);rw [e6] at hJ |-; clear e6;refine aX rfl fun K hK => ?_;have cl0 := (hJ.cells _ r8).1;have cl1 := (hJ.cells _ wR).1;try dsimp only at cl0 cl1
        go_simp;exact hJ.q hK (by kernel_rfl) rfl
      . intro L fx w' hJ hL hp hcl;have hg0 : wr.heap.size <= w'.heap.size := Cw (by omega : wr.heap.size <= wr.heap.size) hJ.size;refine aX rfl fun K hK => ?_;go_simp;exact hK _ _ ⟨_, by kernel_rfl, hJ.grow 8 (by show 8 < 12; decide) _ (by kernel_rfl) (by kernel_rfl) (by intro t ht; rcases mc ht with rfl | ht; exact ⟨by show 10 ≠ 8; decide, fun _ => by cases hh : L 10 with | false => rfl | true => have := hcl 10 (by show 10 < 12; decide) hh 8 Cr; rw [hL] at this; cases this⟩; rcases mc ht with rfl | ht; exact ⟨by show 11 ≠ 8; decide, fun h => absurd (show 8 = 7 from h) Cr⟩; cases ht) (by intro p hp; rcases mc hp with rfl | hp; exact ⟨⟨fun _ => rfl, fun _ => rfl⟩, fun _ q hq hne hLq => (by rcases mc hq with rfl | hq; exact absurd rfl hne; rcases mc hq with rfl | hq; (obtain ⟨g9, cs9, hx9, _, hr9, _⟩ := hJ.slot 9 (by show 9 < 12; decide) hLq; have hx9 : fx 8 = _ := hx9; show _ ≠ fx 8; rw [hx9]; intro e9; injection e9 with e9; injection e9 with e9; injection e9 with e9; exact absurd e9 (EX hr9.lt)); cases hq)⟩; rcases mc hp with rfl | hp; exact ⟨⟨fun h => absurd (show 9 = 8 from h) Cr, fun h => absurd (show 8 = 7 from h) Cr⟩, fun h => absurd (show 9 = 8 from h) Cr⟩; cases hp) ((Below.refl _ _).alloc (Ct _) _) ⟨w'.heap.size, _, rfl, hJ.size, aa.new _ _ _, aN.two _ _ _ _, rfl⟩ hg0⟩
      . intro L fx w' hJ hL hp hcl;have hg0 : wr.heap.size <= w'.heap.size := Cw (by omega : wr.heap.size <= wr.heap.size) hJ.size;refine aX rfl fun K hK => ?_;go_simp;exact hK _ _ ⟨_, by kernel_rfl, hJ.grow 9 (by show 9 < 12; decide) _ (by kernel_rfl) (by kernel_rfl) (by intro t ht; rcases mc ht with rfl | ht; exact ⟨by show 10 ≠ 9; decide, fun h => absurd (show 7 = 8 from h) Cr⟩; rcases mc ht with rfl | ht; exact ⟨by show 11 ≠ 9; decide, fun _ => by cases hh : L 11 with | false => rfl | true => have := hcl 11 (by show 11 < 12; decide) hh 9 Cr; rw [hL] at this; cases this⟩; cases ht) (by intro p hp; rcases mc hp with rfl | hp; exact ⟨⟨fun h => absurd (show 8 = 9 from h) Cr, fun h => absurd (show 7 = 8 from h) Cr⟩, fun h => absurd (show 8 = 9 from h) Cr⟩; rcases mc hp with rfl | hp; exact ⟨⟨fun _ => rfl, fun _ => rfl⟩, fun _ q hq hne hLq => (by rcases mc hq with rfl | hq; (obtain ⟨g9, cs9, hx9, _, hr9, _⟩ := hJ.slot 8 (by show 8 < 12; decide) hLq; have hx9 : fx 7 = _ := hx9; show _ ≠ fx 7; rw [hx9]; intro e9; injection e9 with e9; injection e9 with e9; injection e9 with e9; exact absurd e9 (EX hr9.lt)); rcases mc hq with rfl | hq; exact absurd rfl hne; cases hq)⟩; cases hp) ((Below.refl _ _).alloc (Ct _) _) ⟨w'.heap.size, _, rfl, hJ.size, aa.new _ _ _, aN.two _ _ _ _, rfl⟩ hg0⟩
      . intro L fx w' hJ hL hp hcl;have e8 := hJ.slot 8 (by show 8 < 12; decide) (hp 8 Cr);have e3 := hJ.pt 3 17 (.agg #[.bool pu.1, .slice pu.2.1 pu.2.2.1 pu.2.2.2]) rfl rfl rfl (hp 3 Cr);rw [e3] at hJ |-; clear e3;obtain ⟨g, cs, hx, hgB, hr0, hn0, hl0⟩ := e8;obtain ⟨z0, z1, rfl⟩ : ∃ z0 z1, cs = [z0, z1] := mo hl0;have hf0 := aa.free hr0 0;have hc0 := aa.cell hr0 0;have hf1 := aa.free hr0 1;have hc1 := aa.cell hr0 1;try dsimp only at hf0 hc0 hf1 hc1
        have hx1 := hx;rw [aH (x := (bD fx 17 (.agg #[.bool pu.1, .slice pu.2.1 pu.2.2.1 pu.2.2.2]))) (d := 7) hx] at hJ |-;refine aX rfl fun K hK => ?_;go_simp;exact hK _ _ ⟨_, by kernel_rfl, hJ.fD (us := [.bool pu.1, .slice pu.2.1 pu.2.2.1 pu.2.2.2]) 10 7 _ _ (by show 10 < 12; decide) rfl gM (by intro t ht h; rcases mc ht with rfl | ht; rfl; rcases mc ht with rfl | ht; exact absurd (show 11 = 10 from h) Cr; cases ht) (by intro t ht hne hLt; rcases mc ht with rfl | ht; exact absurd rfl hne; rcases mc ht with rfl | ht; exact hJ.apart (9, 8) jk (8, 7) gM (by show 9 ≠ 8; decide) (hcl 11 (by show 11 < 12; decide) hLt 9 Cr) (hp 8 Cr); cases ht) (by kernel_rfl) (by kernel_rfl) Cr (by rfl) hgB hr0 hn0 rfl (aN.two _ _ _ _) rfl Cp⟩
      . intro L fx w' hJ hL hp hcl;have e9 := hJ.slot 9 (by show 9 < 12; decide) (hp 9 Cr);have e7 := hJ.pt 7 21 (.agg #[.bool pv.1, .slice pv.2.1 pv.2.2.1 pv.2.2.2]) rfl rfl rfl (hp 7 Cr);rw [e7] at hJ |-; clear e7;obtain ⟨g, cs, hx, hgB, hr0, hn0, hl0⟩ := e9;obtain ⟨z0, z1, rfl⟩ : ∃ z0 z1, cs = [z0, z1] := mo hl0;have hf0 := aa.free hr0 0;have hc0 := aa.cell hr0 0;have hf1 := aa.free hr0 1;have hc1 := aa.cell hr0 1;try dsimp only at hf0 hc0 hf1 hc1
        have hx1 := hx;rw [aH (x := (bD fx 21 (.agg #[.bool pv.1, .slice pv.2.1 pv.2.2.1 pv.2.2.2]))) (d := 8) hx] at hJ |-;refine aX rfl fun K hK => ?_;go_simp;exact hK _ _ ⟨_, by kernel_rfl, hJ.fD (us := [.bool pv.1, .slice pv.2.1 pv.2.2.1 pv.2.2.2]) 11 8 _ _ (by show 11 < 12; decide) rfl jk (by intro t ht h; rcases mc ht with rfl | ht; exact absurd (show 10 = 11 from h) Cr; rcases mc ht with rfl | ht; rfl; cases ht) (by intro t ht hne hLt; rcases mc ht with rfl | ht; exact hJ.apart (8, 7) gM (9, 8) jk (by show 8 ≠ 9; decide) (hcl 10 (by show 10 < 12; decide) hLt 8 Cr) (hp 9 Cr); rcases mc ht with rfl | ht; exact absurd rfl hne; cases ht) (by kernel_rfl) (by kernel_rfl) Cr (by rfl) hgB hr0 hn0 rfl (aN.two _ _ _ _) rfl Cp⟩
    . intro L x' w3 hL hJ;have hfr : Below wr.drew.heap.size wr.drew w3 := hJ.fr;obtain ⟨g7, cs7, hx7, hg7, hr7, hcs7⟩ := hJ.new _ gM (hL 10 (by show 10 < 12; decide));obtain ⟨g8, cs8, hx8, hg8, hr8, hcs8⟩ := hJ.new _ jk (hL 11 (by show 11 < 12; decide));obtain rfl : cs7 = _ := hcs7;obtain rfl : cs8 = _ := hcs8;have hx7 : x' 7 = _ := hx7;have hx8 : x' 8 = _ := hx8;rw [aH (x := x') (d := 7) hx7];rw [aH (x := bD x' 7 (.pointer (some ⟨g7, 0, none⟩))) (d := 8) (v := .pointer (some ⟨g8, 0, none⟩)) hx8];have hg7 : wr.heap.size <= g7 := hg7;have hg8 : wr.heap.size <= g8 := hg8;have RG : Hid (aa w3 g7 37 [.bool pu.1, .slice pu.2.1 pu.2.2.1 pu.2.2.2]) := H5 hr7;have RH : Hid (aa w3 g8 37 [.bool pv.1, .slice pv.2.1 pv.2.2.1 pv.2.2.2]) := H5 hr8;clear hJ hL hx7 hx8 hr7 hr8 cu0 cu1 cv0 cv1;simp only [pN, Nat.reduceEqDiff, ↓reduceIte];go_wp2;have X3 := H5 (aO.below (w := wr.drew) hX.out hfr);have Y3 := H5 (aO.below (w := wr.drew) hY.out hfr);have R3 := H5 (aa.below (w := wr.drew) hR.out hfr hR.out.lt);have A3 := H5 (ah.below (w := wr.drew) hI.out.1 hfr);have B3 := H5 (ah.below (w := wr.drew) hI.out.2.1 hfr);have D3 := H5 (ah.below (w := wr.drew) hI.out.2.2.1 hfr);have E3 := H5 (ah.below (w := wr.drew) hI.out.2.2.2 hfr);have U3 := H5 (ah.below (w := wr.drew) Hnu.out hfr);have V3 := H5 (ah.below (w := wr.drew) Hnv.out hfr);have C3 := H5 (hC.out.drew.below hfr);have hs3 := hfr.size;have hs3' : wr.drew.heap.size = wr.heap.size := rfl;have hg7' := RG.out.lt;have hg8' := RH.out.lt;clear hX hY hR hI hC Hnu Hnv hfr;have hwb : ag b.natAbs <= LA := HB.out.ag;have hwd : ag d.natAbs <= LA := HD.out.ag;refine dV ⟨13, fun q_ => [22, 23, 24, 25, 26, 27, 28, 29, 30, 31, 32, 33, 34].getD q_ 0,
       fun q_ => [.val (.slice (some ⟨bx, 0, none⟩) xs.length cx), .val (.int .i64 (m : Int)), .val (.pointer (some ⟨w.heap.size, 0, none⟩)), .val (.pointer (some ⟨w.heap.size, 0, none⟩)), .val (.agg #[.bool p.1, .slice p.2.1 p.2.2.1 p.2.2.2]), .val (.agg #[.bool pu.1, .slice pu.2.1 pu.2.2.1 pu.2.2.2]), .val (.pointer (some ⟨w.heap.size, 0, none⟩)), .val (.pointer (some ⟨w.heap.size, 2, none⟩)), .val (.agg #[.bool q.1, .slice q.2.1 q.2.2.1 q.2.2.2]), .val (.agg #[.bool pv.1, .slice pv.2.1 pv.2.2.1 pv.2.2.2]), .int 0 (b * ys[m]), .int 0 (a * xs[m] + b * ys[m]), .val (.pointer (some ⟨bx, m * 2, none⟩))].getD q_ .any,
       [],
       [(.agg #[.bool p.1, .slice p.2.1 p.2.2.1 p.2.2.2], .at_ LA a), (.agg #[.bool q.1, .slice q.2.1 q.2.2.1 q.2.2.2], .at_ LA b), (.agg #[.bool pu.1, .slice pu.2.1 pu.2.2.1 pu.2.2.2], .at_ LB xs[m]), (.agg #[.bool pv.1, .slice pv.2.1 pv.2.2.1 pv.2.2.2], .at_ LB ys[m])],
       [(w.heap.size, 138, [.bool p.1, .slice p.2.1 p.2.2.1 p.2.2.2, .bool q.1, .slice q.2.1 q.2.2.1 q.2.2.2, .bool r.1, .slice r.2.1 r.2.2.1 r.2.2.2, .bool s.1, .slice s.2.1 s.2.2.1 s.2.2.2]), (g7, 37, [.bool pu.1, .slice pu.2.1 pu.2.2.1 pu.2.2.2]), (g8, 37, [.bool pv.1, .slice pv.2.1 pv.2.2.1 pv.2.2.2])],
       [], [], []⟩ [22, 23, 24, 25, 26, 27, 28, 29, 30, 31, 32, 33, 34] (w3.heap.size) (by kernel_rfl) (by kernel_rfl) (by kernel_rfl) (by kernel_rfl) (by kernel_rfl) ?_ ?_ ?_ ?_ ?_ ?_
      . exact bO (A3.out) (bO (B3.out) (bO (U3.out) (bO (V3.out) bf)))
      . exact bO (⟨R3.out, (R3.out).lt, bf⟩) (bO (⟨RG.out, (RG.out).lt, bf⟩) (bO (⟨RH.out, (RH.out).lt, bf⟩) bf))
      . exact bf
      . exact bf
      . refine aj ?_ (aj ?_ (aj ?_ (aj ?_ (aj ?_ (aj ?_ (aj ?_ (aj ?_ (aj ?_ (aj ?_ (aj ?_ (aj ?_ (aj ?_ lk))))))))))));any_goals (first | (intro L fx w' hJ hL hp hcl; have _ := tN hp (by decide +kernel); refine aX rfl fun K hK => ?_; go_simp; exact hJ.q hK (by kernel_rfl) rfl) | fail)
        . intro L fx w' hJ hL hp hcl;have e2 := hJ.pt 2 24 (.pointer (some ⟨w.heap.size, 0, none⟩)) rfl rfl rfl (hp 2 Cr);rw [e2] at hJ |-; clear e2;refine aX rfl fun K hK => ?_;go_simp;exact hJ.q hK (by kernel_rfl) rfl
        . intro L fx w' hJ hL hp hcl;have e3 := hJ.pt 3 25 (.pointer (some ⟨w.heap.size, 0, none⟩)) rfl rfl rfl (hp 3 Cr);rw [e3] at hJ |-; clear e3;refine aX rfl fun K hK => ?_;have rw0 := (hJ.rows _ gM).1;have cl0 : w'.cell? ⟨w.heap.size, 0, none⟩ = some (.bool p.1) := rw0.cell 0;have cl1 : w'.cell? ⟨w.heap.size, 1, none⟩ = some (.slice p.2.1 p.2.2.1 p.2.2.2) := rw0.cell 1;go_simp;exact hJ.q hK (by kernel_rfl) rfl
        . intro L fx w' hJ hL hp hcl;refine aX rfl fun K hK => ?_;have rw0 := (hJ.rows _ jk).1;have cl0 : w'.cell? ⟨g7, 0, none⟩ = some (.bool pu.1) := rw0.cell 0;have cl1 : w'.cell? ⟨g7, 1, none⟩ = some (.slice pu.2.1 pu.2.2.1 pu.2.2.2) := rw0.cell 1;go_simp;exact hJ.q hK (by kernel_rfl) rfl
        . intro L fx w' hJ hL hp hcl;have e6 := hJ.pt 6 28 (.pointer (some ⟨w.heap.size, 0, none⟩)) rfl rfl rfl (hp 6 Cr);rw [e6] at hJ |-; clear e6;refine aX rfl fun K hK => ?_;go_simp;exact hJ.q hK (by kernel_rfl) rfl
        . intro L fx w' hJ hL hp hcl;have e7 := hJ.pt 7 29 (.pointer (some ⟨w.heap.size, 2, none⟩)) rfl rfl rfl (hp 7 Cr);rw [e7] at hJ |-; clear e7;refine aX rfl fun K hK => ?_;have rw0 := (hJ.rows _ gM).1;have cl0 : w'.cell? ⟨w.heap.size, 2, none⟩ = some (.bool q.1) := rw0.cell 2;have cl1 : w'.cell? ⟨w.heap.size, 3, none⟩ = some (.slice q.2.1 q.2.2.1 q.2.2.2) := rw0.cell 3;go_simp;exact hJ.q hK (by kernel_rfl) rfl
        . intro L fx w' hJ hL hp hcl;refine aX rfl fun K hK => ?_;have rw0 := (hJ.rows _ r8).1;have cl0 : w'.cell? ⟨g8, 0, none⟩ = some (.bool pv.1) := rw0.cell 0;have cl1 : w'.cell? ⟨g8, 1, none⟩ = some (.slice pv.2.1 pv.2.2.1 pv.2.2.2) := rw0.cell 1;go_simp;exact hJ.q hK (by kernel_rfl) rfl
        . intro L fx w' hJ hL hp hcl;have e8 := hJ.pt 8 30 (.agg #[.bool q.1, .slice q.2.1 q.2.2.1 q.2.2.2]) rfl rfl rfl (hp 8 Cr);rw [e8] at hJ |-; clear e8;have e9 := hJ.pt 9 31 (.agg #[.bool pv.1, .slice pv.2.1 pv.2.2.1 pv.2.2.2]) rfl rfl rfl (hp 9 Cr);rw [e9] at hJ |-; clear e9;refine aX rfl fun K hK => ?_;go_simp;go_at_call 23;refine (ib _ _ b ys[m] LA LB _ (show ah w' (LA) (.agg #[.bool q.1, .slice q.2.1 q.2.2.1 q.2.2.2]) (b) from hJ.base _ jk) (show ah w' (LB) (.agg #[.bool pv.1, .slice pv.2.1 pv.2.2.1 pv.2.2.2]) (ys[m]) from hJ.base _ wR) hLab).mono ?_;rintro e w4 ⟨⟨v5, rfl, h5⟩, hb4⟩;try dsimp only
          exact hK _ _ ⟨_, by kernel_rfl, hJ.gC 10 rfl (by kernel_rfl) hb4 (ai.mono h5 (Cx _)) Cp⟩
        . intro L fx w' hJ hL hp hcl;have e10 := hJ.slot 10 (by show 10 < 13; decide) (hp 10 Cr);have e4 := hJ.pt 4 26 (.agg #[.bool p.1, .slice p.2.1 p.2.2.1 p.2.2.2]) rfl rfl rfl (hp 4 Cr);rw [e4] at hJ |-; clear e4;have e5 := hJ.pt 5 27 (.agg #[.bool pu.1, .slice pu.2.1 pu.2.2.1 pu.2.2.2]) rfl rfl rfl (hp 5 Cr);rw [e5] at hJ |-; clear e5;refine aX rfl fun K hK => ?_;go_simp;go_at_call 94;refine (gj _ _ _ a xs[m] (b * ys[m]) LA LB _ (show ah w' (LA) (.agg #[.bool p.1, .slice p.2.1 p.2.2.1 p.2.2.2]) (a) from hJ.base _ gM) (show ah w' (LB) (.agg #[.bool pu.1, .slice pu.2.1 pu.2.2.1 pu.2.2.2]) (xs[m]) from hJ.base _ r8) (ai.int (show ai w' _ (fx 32) _ from e10) (by rw [CP]; exact Cw (cT _ _) (Cw (Nat.add_le_add hwb hyw) hLab))) hLab).mono ?_;rintro e w4 ⟨⟨v5, rfl, h5⟩, hb4⟩;try dsimp only
          exact hK _ _ ⟨_, by kernel_rfl, hJ.gC 11 rfl (by kernel_rfl) hb4 (ai.mono h5 (Cx _)) Cp⟩
        . intro L fx w' hJ hL hp hcl;have e0 := hJ.pt 0 22 (.slice (some ⟨bx, 0, none⟩) xs.length cx) rfl rfl rfl (hp 0 Cr);rw [e0] at hJ |-; clear e0;have e1 := hJ.pt 1 23 (.int .i64 (m : Int)) rfl rfl rfl (hp 1 Cr);rw [e1] at hJ |-; clear e1;refine aX rfl fun K hK => ?_;go_simp;exact hJ.q hK (by kernel_rfl) rfl
      . intro L x' w3b hL hJ;have hfr : Below w3.drew.heap.size w3.drew w3b := hJ.fr;have e11 : ai w3b 0 (x' 33) (a * xs[m] + b * ys[m]) := hJ.slot 11 (by show 11 < 13; decide) (hL 11 (by show 11 < 13; decide));have e12 : x' 34 = .pointer (some ⟨bx, m * 2, none⟩) := hJ.slot 12 (by show 12 < 13; decide) (hL 12 (by show 12 < 13; decide));obtain ⟨pz3, hpz⟩ := aL.parts e11.num;rw [hpz] at e11;unfold av at hpz;rw [aH (x := x') (d := 33) hpz];rw [aH (x := bD x' 33 (.agg #[.bool pz3.1, .slice pz3.2.1 pz3.2.2.1 pz3.2.2.2])) (d := 34) (v := .pointer (some ⟨bx, m * 2, none⟩)) e12];clear hJ hL;have X4 := H5 (aO.below (w := w3.drew) X3.out hfr);have Y4 := H5 (aO.below (w := w3.drew) Y3.out hfr);have R4 := H5 (aa.below (w := w3.drew) R3.out hfr R3.out.lt);have RG := H5 (aa.below (w := w3.drew) RG.out hfr RG.out.lt);have RH := H5 (aa.below (w := w3.drew) RH.out hfr RH.out.lt);have A4 := H5 (ah.below (w := w3.drew) A3.out hfr);have B4 := H5 (ah.below (w := w3.drew) B3.out hfr);have D4 := H5 (ah.below (w := w3.drew) D3.out hfr);have E4 := H5 (ah.below (w := w3.drew) E3.out hfr);have U4 := H5 (ah.below (w := w3.drew) U3.out hfr);have V4 := H5 (ah.below (w := w3.drew) V3.out hfr);have C4 := H5 (C3.out.drew.below hfr);have hsz4 := hfr.size;have hsz4' : w3.drew.heap.size = w3.heap.size := rfl;clear X3 Y3 R3 A3 B3 D3 E3 U3 V3 C3;obtain ⟨pq, q0, q1, _⟩ := X4.out.get hmx;have q2 := X4.out.free (m * 2);have q3 := X4.out.free (m * 2 + 1);refine aX rfl fun K hK => ?_;go_simp;refine hK _ _ ⟨⟨bD (bD x' 33 (.agg #[.bool pz3.1, .slice pz3.2.1 pz3.2.2.1 pz3.2.2.2])) 34 (.pointer (some ⟨bx, m * 2, none⟩)), by kernel_rfl⟩, ?_⟩;clear hK q0 q1 q2 q3;have ZX := H5 (X4.out.set m e11.num);have ZY := H5 (X4.out.qx Y4.out (fun e => hne e.symm) m pz3);have ZR := H5 ((R4.out.other (p := ⟨bx, m * 2, none⟩) (by show w.heap.size ≠ bx; omega) (.bool pz3.1)).other (p := ⟨bx, m * 2 + 1, none⟩) (by show w.heap.size ≠ bx; omega) (.slice pz3.2.1 pz3.2.2.1 pz3.2.2.2));have Z7 := H5 ((RG.out.other (p := ⟨bx, m * 2, none⟩) (by show g7 ≠ bx; omega) (.bool pz3.1)).other (p := ⟨bx, m * 2 + 1, none⟩) (by show g7 ≠ bx; omega) (.slice pz3.2.1 pz3.2.2.1 pz3.2.2.2));have Z8 := H5 ((RH.out.other (p := ⟨bx, m * 2, none⟩) (by show g8 ≠ bx; omega) (.bool pz3.1)).other (p := ⟨bx, m * 2 + 1, none⟩) (by show g8 ≠ bx; omega) (.slice pz3.2.1 pz3.2.2.1 pz3.2.2.2));have ZA := H5 (X4.out.ei A4.out m pz3);have ZB := H5 (X4.out.ei B4.out m pz3);have ZD := H5 (X4.out.ei D4.out m pz3);have ZE := H5 (X4.out.ei E4.out m pz3);have ZU := H5 (X4.out.ei U4.out m pz3);have ZV := H5 (X4.out.ei V4.out m pz3);have ZC := H5 ((C4.out.set (p := ⟨bx, m * 2, none⟩) (Or.inl rfl) (.bool pz3.1)).set (p := ⟨bx, m * 2 + 1, none⟩) (Or.inl rfl) (.slice pz3.2.1 pz3.2.2.1 pz3.2.2.2));clear X4 Y4 R4 RG RH A4 B4 D4 E4 U4 V4 C4 e11 e12;have hszg : ((w3b.setCell ⟨bx, m * 2, none⟩ (.bool pz3.1)).setCell ⟨bx, m * 2 + 1, none⟩ (.slice pz3.2.1 pz3.2.2.1 pz3.2.2.2)).heap.size = w3b.heap.size := by simp
        generalize ((w3b.setCell ⟨bx, m * 2, none⟩ (.bool pz3.1)).setCell ⟨bx, m * 2 + 1, none⟩ (.slice pz3.2.1 pz3.2.2.1 pz3.2.2.2)) = w5 at *;have X6 := ZX;have Y6 := ZY;have R6 := ZR;have RG := Z7;have RH := Z8;have A6 := ZA;have B6 := ZB;have D6 := ZD;have E6 := ZE;have U6 := ZU;have V6 := ZV;have C6 := ZC;clear ZX ZY ZR Z7 Z8 ZA ZB ZD ZE ZU ZV ZC;go_wp2;refine dV ⟨13, fun q_ => [35, 36, 37, 38, 39, 40, 41, 42, 43, 44, 45, 46, 47].getD q_ 0,
         fun q_ => [.val (.slice (some ⟨by_, 0, none⟩) ys.length cy), .val (.int .i64 (m : Int)), .val (.pointer (some ⟨w.heap.size, 4, none⟩)), .val (.pointer (some ⟨w.heap.size, 4, none⟩)), .val (.agg #[.bool r.1, .slice r.2.1 r.2.2.1 r.2.2.2]), .val (.agg #[.bool pu.1, .slice pu.2.1 pu.2.2.1 pu.2.2.2]), .val (.pointer (some ⟨w.heap.size, 4, none⟩)), .val (.pointer (some ⟨w.heap.size, 6, none⟩)), .val (.agg #[.bool s.1, .slice s.2.1 s.2.2.1 s.2.2.2]), .val (.agg #[.bool pv.1, .slice pv.2.1 pv.2.2.1 pv.2.2.2]), .int 0 (d * ys[m]), .int 0 (c * xs[m] + d * ys[m]), .val (.pointer (some ⟨by_, m * 2, none⟩))].getD q_ .any,
         [],
         [(.agg #[.bool r.1, .slice r.2.1 r.2.2.1 r.2.2.2], .at_ LA c), (.agg #[.bool s.1, .slice s.2.1 s.2.2.1 s.2.2.2], .at_ LA d), (.agg #[.bool pu.1, .slice pu.2.1 pu.2.2.1 pu.2.2.2], .at_ LB xs[m]), (.agg #[.bool pv.1, .slice pv.2.1 pv.2.2.1 pv.2.2.2], .at_ LB ys[m])],
         [(w.heap.size, 138, [.bool p.1, .slice p.2.1 p.2.2.1 p.2.2.2, .bool q.1, .slice q.2.1 q.2.2.1 q.2.2.2, .bool r.1, .slice r.2.1 r.2.2.1 r.2.2.2, .bool s.1, .slice s.2.1 s.2.2.1 s.2.2.2]), (g7, 37, [.bool pu.1, .slice pu.2.1 pu.2.2.1 pu.2.2.2]), (g8, 37, [.bool pv.1, .slice pv.2.1 pv.2.2.1 pv.2.2.2])],
         [], [], []⟩ [35, 36, 37, 38, 39, 40, 41, 42, 43, 44, 45, 46, 47] (w5.heap.size) (by kernel_rfl) (by kernel_rfl) (by kernel_rfl) (by kernel_rfl) (by kernel_rfl) ?_ ?_ ?_ ?_ ?_ ?_
        . exact bO (D6.out) (bO (E6.out) (bO (U6.out) (bO (V6.out) bf)))
        . exact bO (⟨R6.out, (R6.out).lt, bf⟩) (bO (⟨RG.out, (RG.out).lt, bf⟩) (bO (⟨RH.out, (RH.out).lt, bf⟩) bf))
        . exact bf
        . exact bf
        . refine aj ?_ (aj ?_ (aj ?_ (aj ?_ (aj ?_ (aj ?_ (aj ?_ (aj ?_ (aj ?_ (aj ?_ (aj ?_ (aj ?_ (aj ?_ lk))))))))))));any_goals (first | (intro L fx w' hJ hL hp hcl; have _ := tN hp (by decide +kernel); refine aX rfl fun K hK => ?_; go_simp; exact hJ.q hK (by kernel_rfl) rfl) | fail)
          . intro L fx w' hJ hL hp hcl;have e2 := hJ.pt 2 37 (.pointer (some ⟨w.heap.size, 4, none⟩)) rfl rfl rfl (hp 2 Cr);rw [e2] at hJ |-; clear e2;refine aX rfl fun K hK => ?_;go_simp;exact hJ.q hK (by kernel_rfl) rfl
          . intro L fx w' hJ hL hp hcl;have e3 := hJ.pt 3 38 (.pointer (some ⟨w.heap.size, 4, none⟩)) rfl rfl rfl (hp 3 Cr);rw [e3] at hJ |-; clear e3;refine aX rfl fun K hK => ?_;have rw0 := (hJ.rows _ gM).1;have cl0 : w'.cell? ⟨w.heap.size, 4, none⟩ = some (.bool r.1) := rw0.cell 4;have cl1 : w'.cell? ⟨w.heap.size, 5, none⟩ = some (.slice r.2.1 r.2.2.1 r.2.2.2) := rw0.cell 5;go_simp;exact hJ.q hK (by kernel_rfl) rfl
          . intro L fx w' hJ hL hp hcl;refine aX rfl fun K hK => ?_;have rw0 := (hJ.rows _ jk).1;have cl0 : w'.cell? ⟨g7, 0, none⟩ = some (.bool pu.1) := rw0.cell 0;have cl1 : w'.cell? ⟨g7, 1, none⟩ = some (.slice pu.2.1 pu.2.2.1 pu.2.2.2) := rw0.cell 1;go_simp;exact hJ.q hK (by kernel_rfl) rfl
          . intro L fx w' hJ hL hp hcl;have e6 := hJ.pt 6 41 (.pointer (some ⟨w.heap.size, 4, none⟩)) rfl rfl rfl (hp 6 Cr);rw [e6] at hJ |-; clear e6;refine aX rfl fun K hK => ?_;go_simp;exact hJ.q hK (by kernel_rfl) rfl
          . intro L fx w' hJ hL hp hcl;have e7 := hJ.pt 7 42 (.pointer (some ⟨w.heap.size, 6, none⟩)) rfl rfl rfl (hp 7 Cr);rw [e7] at hJ |-; clear e7;refine aX rfl fun K hK => ?_;have rw0 := (hJ.rows _ gM).1;have cl0 : w'.cell? ⟨w.heap.size, 6, none⟩ = some (.bool s.1) := rw0.cell 6;have cl1 : w'.cell? ⟨w.heap.size, 7, none⟩ = some (.slice s.2.1 s.2.2.1 s.2.2.2) := rw0.cell 7;go_simp;exact hJ.q hK (by kernel_rfl) rfl
          . intro L fx w' hJ hL hp hcl;refine aX rfl fun K hK => ?_;have rw0 := (hJ.rows _ r8).1;have cl0 : w'.cell? ⟨g8, 0, none⟩ = some (.bool pv.1) := rw0.cell 0;have cl1 : w'.cell? ⟨g8, 1, none⟩ = some (.slice pv.2.1 pv.2.2.1 pv.2.2.2) := rw0.cell 1;go_simp;exact hJ.q hK (by kernel_rfl) rfl
          . intro L fx w' hJ hL hp hcl;have e8 := hJ.pt 8 43 (.agg #[.bool s.1, .slice s.2.1 s.2.2.1 s.2.2.2]) rfl rfl rfl (hp 8 Cr);rw [e8] at hJ |-; clear e8;have e9 := hJ.pt 9 44 (.agg #[.bool pv.1, .slice pv.2.1 pv.2.2.1 pv.2.2.2]) rfl rfl rfl (hp 9 Cr);rw [e9] at hJ |-; clear e9;refine aX rfl fun K hK => ?_;go_simp;go_at_call 23;refine (ib _ _ d ys[m] LA LB _ (show ah w' (LA) (.agg #[.bool s.1, .slice s.2.1 s.2.2.1 s.2.2.2]) (d) from hJ.base _ jk) (show ah w' (LB) (.agg #[.bool pv.1, .slice pv.2.1 pv.2.2.1 pv.2.2.2]) (ys[m]) from hJ.base _ wR) hLab).mono ?_;rintro e w4 ⟨⟨v5, rfl, h5⟩, hb4⟩;try dsimp only
            exact hK _ _ ⟨_, by kernel_rfl, hJ.gC 10 rfl (by kernel_rfl) hb4 (ai.mono h5 (Cx _)) Cp⟩
          . intro L fx w' hJ hL hp hcl;have e10 := hJ.slot 10 (by show 10 < 13; decide) (hp 10 Cr);have e4 := hJ.pt 4 39 (.agg #[.bool r.1, .slice r.2.1 r.2.2.1 r.2.2.2]) rfl rfl rfl (hp 4 Cr);rw [e4] at hJ |-; clear e4;have e5 := hJ.pt 5 40 (.agg #[.bool pu.1, .slice pu.2.1 pu.2.2.1 pu.2.2.2]) rfl rfl rfl (hp 5 Cr);rw [e5] at hJ |-; clear e5;refine aX rfl fun K hK => ?_;go_simp;go_at_call 94;refine (gj _ _ _ c xs[m] (d * ys[m]) LA LB _ (show ah w' (LA) (.agg #[.bool r.1, .slice r.2.1 r.2.2.1 r.2.2.2]) (c) from hJ.base _ gM) (show ah w' (LB) (.agg #[.bool pu.1, .slice pu.2.1 pu.2.2.1 pu.2.2.2]) (xs[m]) from hJ.base _ r8) (ai.int (show ai w' _ (fx 45) _ from e10) (by rw [CP]; exact Cw (cT _ _) (Cw (Nat.add_le_add hwd hyw) hLab))) hLab).mono ?_;rintro e w4 ⟨⟨v5, rfl, h5⟩, hb4⟩;try dsimp only
            exact hK _ _ ⟨_, by kernel_rfl, hJ.gC 11 rfl (by kernel_rfl) hb4 (ai.mono h5 (Cx _)) Cp⟩
          . intro L fx w' hJ hL hp hcl;have e0 := hJ.pt 0 35 (.slice (some ⟨by_, 0, none⟩) ys.length cy) rfl rfl rfl (hp 0 Cr);rw [e0] at hJ |-; clear e0;have e1 := hJ.pt 1 36 (.int .i64 (m : Int)) rfl rfl rfl (hp 1 Cr);rw [e1] at hJ |-; clear e1;refine aX rfl fun K hK => ?_;go_simp;exact hJ.q hK (by kernel_rfl) rfl
        . intro L x' w5b hL hJ;have hfr : Below w5.drew.heap.size w5.drew w5b := hJ.fr;have e11 : ai w5b 0 (x' 46) (c * xs[m] + d * ys[m]) := hJ.slot 11 (by show 11 < 13; decide) (hL 11 (by show 11 < 13; decide));have e12 : x' 47 = .pointer (some ⟨by_, m * 2, none⟩) := hJ.slot 12 (by show 12 < 13; decide) (hL 12 (by show 12 < 13; decide));obtain ⟨pz6, hpz⟩ := aL.parts e11.num;rw [hpz] at e11;unfold av at hpz;rw [aH (x := x') (d := 46) hpz];rw [aH (x := bD x' 46 (.agg #[.bool pz6.1, .slice pz6.2.1 pz6.2.2.1 pz6.2.2.2])) (d := 47) (v := .pointer (some ⟨by_, m * 2, none⟩)) e12];clear hJ hL;have X7 := H5 (aO.below (w := w5.drew) X6.out hfr);have Y7 := H5 (aO.below (w := w5.drew) Y6.out hfr);have R7 := H5 (aa.below (w := w5.drew) R6.out hfr R6.out.lt);have RG := H5 (aa.below (w := w5.drew) RG.out hfr RG.out.lt);have RH := H5 (aa.below (w := w5.drew) RH.out hfr RH.out.lt);have A7 := H5 (ah.below (w := w5.drew) A6.out hfr);have B7 := H5 (ah.below (w := w5.drew) B6.out hfr);have D7 := H5 (ah.below (w := w5.drew) D6.out hfr);have E7 := H5 (ah.below (w := w5.drew) E6.out hfr);have U7 := H5 (ah.below (w := w5.drew) U6.out hfr);have V7 := H5 (ah.below (w := w5.drew) V6.out hfr);have C7 := H5 (C6.out.drew.below hfr);have hsz7 := hfr.size;have hsz7' : w5.drew.heap.size = w5.heap.size := rfl;clear X6 Y6 R6 A6 B6 D6 E6 U6 V6 C6;obtain ⟨pq, q0, q1, _⟩ := Y7.out.get hmv;have q2 := Y7.out.free (m * 2);have q3 := Y7.out.free (m * 2 + 1);refine aX rfl fun K hK => ?_;go_simp;refine hK _ _ ⟨⟨bD (bD x' 46 (.agg #[.bool pz6.1, .slice pz6.2.1 pz6.2.2.1 pz6.2.2.2])) 47 (.pointer (some ⟨by_, m * 2, none⟩)), by kernel_rfl⟩, ?_⟩;clear hK q0 q1 q2 q3;have ZY := H5 (Y7.out.set m e11.num);have ZX := H5 (Y7.out.qx X7.out (fun e => hne e) m pz6);have ZR := H5 ((R7.out.other (p := ⟨by_, m * 2, none⟩) (by show w.heap.size ≠ by_; omega) (.bool pz6.1)).other (p := ⟨by_, m * 2 + 1, none⟩) (by show w.heap.size ≠ by_; omega) (.slice pz6.2.1 pz6.2.2.1 pz6.2.2.2));have Z7 := H5 ((RG.out.other (p := ⟨by_, m * 2, none⟩) (by show g7 ≠ by_; omega) (.bool pz6.1)).other (p := ⟨by_, m * 2 + 1, none⟩) (by show g7 ≠ by_; omega) (.slice pz6.2.1 pz6.2.2.1 pz6.2.2.2));have Z8 := H5 ((RH.out.other (p := ⟨by_, m * 2, none⟩) (by show g8 ≠ by_; omega) (.bool pz6.1)).other (p := ⟨by_, m * 2 + 1, none⟩) (by show g8 ≠ by_; omega) (.slice pz6.2.1 pz6.2.2.1 pz6.2.2.2));have ZA := H5 (Y7.out.ei A7.out m pz6);have ZB := H5 (Y7.out.ei B7.out m pz6);have ZD := H5 (Y7.out.ei D7.out m pz6);have ZE := H5 (Y7.out.ei E7.out m pz6);have ZU := H5 (Y7.out.ei U7.out m pz6);have ZV := H5 (Y7.out.ei V7.out m pz6);have ZC := H5 ((C7.out.set (p := ⟨by_, m * 2, none⟩) (Or.inr rfl) (.bool pz6.1)).set (p := ⟨by_, m * 2 + 1, none⟩) (Or.inr rfl) (.slice pz6.2.1 pz6.2.2.1 pz6.2.2.2));clear X7 Y7 R7 RG RH A7 B7 D7 E7 U7 V7 C7 e11 e12;go_wp2;go_roundw
          case rel =>
           exact ⟨m + 1, _, _, by omega, by go_num, HU.out.next hml hmy, HV.out.next hml hmy, ZX, ZY, ZR, H5 ⟨ZA.out, ZB.out, ZD.out, ZE.out⟩, ZC⟩
          case measure => simp [intOf]; omega
  . obtain rfl : m = xs.length := by omega
    have he := HU.out.all Hl.out rfl;have he2 := HV.out.all Hl.out Hl.out;have HE := H5 he;have HE2 := H5 he2;clear he he2;go_wp2;refine bodyPost_end (results_none (by kernel_rfl) _ _ _) rfl ?_;rw [<- HE.out, <- HE2.out];exact ⟨rfl, hX.out, hY.out, hC.out⟩
theorem rZ : ∀ R : List Hd, aN (R.map Hd.dA)
 | [] => aN.nil
 | h :: R => aN.slice (rZ R)
def fu (w : World) (b : Nat) (t : TypeId) (cs : List Value) : Prop := ∃ tl, aN tl /\ aa w b t (cs ++ tl)
theorem aa.pre {w : World} {b : Nat} {t : TypeId} {cs : List Value} (h : aa w b t cs) : fu w b t cs := ⟨[], aN.nil, by rw [DZ]; exact h⟩
theorem fu.lt {w : World} {b : Nat} {t : TypeId} {cs : List Value} (h : fu w b t cs) : b < w.heap.size := by obtain ⟨_, _, h⟩ := h; exact h.lt
theorem fu.free {w : World} {b : Nat} {t : TypeId} {cs : List Value} (h : fu w b t cs) (i : Nat) : w.frozen? ⟨b, i, none⟩ = false := by obtain ⟨_, _, h⟩ := h; exact h.free i
theorem fu.below {w w' : World} {b B : Nat} {t : TypeId} {cs : List Value} (h : fu w b t cs) (hb : Below B w w') (hB : b < B) : fu w' b t cs := by obtain ⟨tl, n, h⟩ := h; exact ⟨tl, n, h.below hb hB⟩
theorem fu.other {w : World} {b : Nat} {t : TypeId} {cs : List Value} (h : fu w b t cs) {p : Addr} (hp : b ≠ p.block) (v : Value) : fu (w.setCell p v) b t cs := by obtain ⟨tl, n, h⟩ := h; exact ⟨tl, n, h.other hp v⟩
theorem fu.set {w : World} {b : Nat} {t : TypeId} {cs : List Value} (h : fu w b t cs) {i : Nat} (hi : i < cs.length) (v : Value) : fu (w.setCell ⟨b, i, none⟩ v) b t (cs.set i v) := by
 obtain ⟨tl, n, h⟩ := h;have := h.set i v;rw [DX _ _ hi] at this;exact ⟨tl, n, this⟩
theorem fu.cell {w : World} {b : Nat} {t : TypeId} {cs : List Value} (h : fu w b t cs) {i : Nat} (hi : i < cs.length) : w.cell? ⟨b, i, none⟩ = cs[i]? := by
 obtain ⟨tl, n, h⟩ := h; rw [h.cell, List.getElem?_append_left hi]
theorem fu.r9 {S : Nat -> Prop} {w w' : World} {b : Nat} {t : TypeId} {cs : List Value} (h : fu w b t cs) (hc : aU S w w') (hb : ¬ S b) : fu w' b t cs := by obtain ⟨tl, n, h⟩ := h; exact ⟨tl, n, hc.row h hb⟩
structure eA (w : World) (o : Nat) (R : List Hd) : Prop where
 out : fu w o 22 (R.map Hd.dA)
 row : ∀ h ∈ R, aO w h.blk h.xs
 nd : (R.map Hd.blk).Nodup
theorem eA.below {w w' : World} {o : Nat} {R : List Hd} (h : eA w o R) (hb : Below w.heap.size w w') : eA w' o R :=
 ⟨h.out.below hb h.out.lt, fun r hr => (h.row r hr).below hb, h.nd⟩
theorem eA.ne {w : World} {o : Nat} {R : List Hd} (h : eA w o R) {r : Hd} (hr : r ∈ R) : r.blk ≠ o := by
 intro e;obtain ⟨ps, tl, nt, hp, _⟩ := h.row r hr;obtain ⟨tl, _, ho⟩ := h.out;unfold aa at hp ho;rw [e, ho] at hp;simp only [Option.some.injEq, Obj.cells.injEq] at hp;exact absurd hp.2.1 Cr
theorem eA.dA {w : World} {o : Nat} {R : List Hd} (h : eA w o R) {i : Nat} (hi : i < R.length) : w.cell? ⟨o, i, none⟩ = some (R[i]).dA := by
 rw [h.out.cell (by simpa using hi)]; simp [hi]
theorem eA.lt {w : World} {o : Nat} {R : List Hd} (h : eA w o R) : o < w.heap.size := h.out.lt
theorem eA.fH {w : World} {o : Nat} {R : List Hd} (h : eA w o R) {g : Nat} {t : TypeId} {cs : List Value} (hr : aa w g t cs) (hn : aN cs) (ho : o ≠ g) (hb : ∀ r ∈ R, r.blk ≠ g) (i : Nat) (u : Value) : eA (w.setCell ⟨g, i, none⟩ u) o R :=
 ⟨h.out.other ho u, fun r hr' => (h.row r hr').other (hb r hr') hr hn i u, h.nd⟩
structure wK where
 o : Nat
 g : Nat
 g3 : Nat
 cap : Nat
 cs : Nat
 own : Nat -> Prop
 fit : List Hd -> Prop
 rel : List Hd -> List Hd -> Prop
structure cR where
 lb : Nat
 o : Nat
 sb : Nat
 g : Nat
 cap : Nat
 R : List Hd
 two : Option wK
def cR.rws (S : cR) (k : Nat) : Prop := k = S.o \/ ∃ h ∈ S.R, h.blk = k
def cR.own (S : cR) (k : Nat) : Prop := S.rws k \/ ∃ t, S.two = some t /\ t.own k
def cR.aB (S : cR) (R : List Hd) : cR := ⟨S.lb, S.o, S.sb, S.g, S.cap, R, S.two⟩
def cR.ns (S : cR) : Nat := match S.two with | none => 1 | some _ => 2
def cR.cs (S : cR) : Nat := match S.two with | none => 1 | some t => t.cs
def wK.st (t : wK) (V : List Hd) : cR := ⟨0, t.o, 0, t.g, t.cap, V, none⟩
def cR.dA (S : cR) : Value := .slice (some ⟨S.o, 0, none⟩) S.R.length S.cap
def gY (g : Nat) : List Value := [.func (.func 111) #[] #[.pointer (some ⟨g, 0, none⟩)], .func (.func 112) #[] #[.pointer (some ⟨g, 0, none⟩)], .func (.func 113) #[] #[.pointer (some ⟨g, 0, none⟩)], .func (.func 115) #[] #[.pointer (some ⟨g, 0, none⟩)]]
def agF (g g3 : Nat) : List Value := [.func (.func 111) #[] #[.pointer (some ⟨g, 0, none⟩)], .func (.func 112) #[] #[.pointer (some ⟨g, 0, none⟩)], .func (.func 113) #[] #[.pointer (some ⟨g3, 0, none⟩)], .func (.func 115) #[] #[.pointer (some ⟨g3, 0, none⟩)]]
def cR.more (S : cR) : List Value := match S.two with | none => [] | some t => agF t.g t.g3
theorem j8 (P : Program) (w : World) (p : Addr) (f : Fn) (a b : Array Value) (m : Mode) : (store p (.func f a b) m).run P w = stored P w p (.func f a b) m := run_store P w p _ m rfl
attribute [local go_sem] j8
theorem r5 {fn : Func} {p : Tmp} (h : fn.results = #[.cell p 125]) (tmps : Array Value) (w : World) (g : Nat) (a b c d : Value) (hp : tmps.getD p undef = .pointer (some ⟨g, 0, none⟩)) (hr : aa w g 125 [a, b, c, d]) :
 (results fn tmps).run Tryz.prog w = .ok (.agg #[a, b, c, d]) w :=
 results_cell_row h tmps w g 125 #[a, b, c, d] (0, 0) _ hp hr Tryz.underlying125 rfl (by kernel_rfl)
theorem BU (ao : Option Addr) (n cap : Nat) (w : World) :
 Calls Tryz.prog 98 #[.slice ao n cap] w fun e w' => e = .returned (.agg (gY w.heap.size).toArray) /\ aa w' w.heap.size 70 [.slice ao n cap] /\ Below w.heap.size w w' := by
 go_enter Tryz.func98, Tryz.ntmps98;go_wp2;obtain ⟨r1, r2, hb⟩ := fR w #[.slice ao n cap] (gY w.heap.size).toArray 70 125;simp only [gY] at r1 r2 hb;refine bodyPost_ret (r5 (p := 2) (by kernel_rfl) _ _ (w.heap.size + 1) _ _ _ _ rfl r2) rfl ?_;exact ⟨rfl, r1, hb⟩
structure eF (w : World) (S : cR) : Prop where
 box : aa w S.g 70 [S.dA]
 dU : eA w S.o S.R
theorem eF.below {w w' : World} {S : cR} (h : eF w S) (hb : Below w.heap.size w w') : eF w' S := ⟨h.box.below hb h.box.lt, h.dU.below hb⟩
structure TwoAt (w : World) (S : cR) (t : wK) (V : List Hd) : Prop where
 sd : eF w (t.st V)
 box3 : aa w t.g3 70 [(t.st V).dA]
 rel : t.rel S.R V
 own : ∀ k, t.own k ↔ (t.st V).rws k
 apart : ∀ k, t.own k -> ¬ S.rws k
structure aI (w : World) (S : cR) : Prop where
 lad : aa w S.lb 109 [S.dA, .slice (some ⟨S.sb, 0, none⟩) S.ns S.cs]
 sides : fu w S.sb 125 (gY S.g ++ S.more)
 box : aa w S.g 70 [S.dA]
 dU : eA w S.o S.R
 ext : ∀ t, S.two = some t -> ∃ V, TwoAt w S t V
theorem aI.sd {w : World} {S : cR} (h : aI w S) : eF w S := ⟨h.box, h.dU⟩
theorem New_c (o cap : Nat) (R : List Hd) (w : World) (hM : eA w o R) :
 Calls Tryz.prog 77 #[.slice (some ⟨o, 0, none⟩) R.length cap] w fun e w' => (∃ lb sb g, e = .returned (.pointer (some ⟨lb, 0, none⟩)) /\ aI w' ⟨lb, o, sb, g, cap, R, none⟩ /\ w.heap.size <= lb /\ w.heap.size <= sb /\ w.heap.size <= g) /\ Below w.heap.size w w' := by
 have HM := H5 hM;have HM0 := H5 hM; clear hM;go_enter Tryz.func77, Tryz.ntmps77;go_wp2_with fail
 have hb1 : Below w.heap.size w (w.alloc (.cells #[.slice (some ⟨o, 0, none⟩) R.length cap, .slice none 0 0] 109)) := (Below.refl _ _).alloc (Ct _) _;have hr1 := aa.new w #[.slice (some ⟨o, 0, none⟩) R.length cap, .slice none 0 0] 109;generalize w.alloc (.cells #[.slice (some ⟨o, 0, none⟩) R.length cap, .slice none 0 0] 109) = w1 at *;refine (BU _ _ _ _).mono ?_;rintro e w2 ⟨rfl, hbox, hb2⟩;simp only [gY];have hr2 := hr1.below hb2 hr1.lt;have hM2 := (HM.out.below hb1).below hb2;have hbw : Below w.heap.size w w2 := hb1.trans (hb2.mono hb1.size);have hs1 : w.heap.size < w1.heap.size := hr1.lt;have hs2 : w1.heap.size < w2.heap.size := hbox.lt;have hb3 : Below w2.heap.size w2 (w2.alloc (.cells (gY w1.heap.size).toArray 125)) := (Below.refl _ _).alloc (Ct _) _;have hr3 := aa.new w2 (gY w1.heap.size).toArray 125;have hr4 := hr2.below hb3 hr2.lt;have hbox3 := hbox.below hb3 hbox.lt;have hM3 := hM2.below hb3;have hbw3 := hbw.trans (hb3.mono hbw.size);have f1 := hr4.free 1;have c1 := hr4.cell 1;simp only [gY] at hr3 f1 c1;have HR3 := H5 hr3;have HR4 := H5 hr4;have HM3 := H5 hM3;have HB3 := H5 hbw3;have HX3 := H5 hbox3;clear hr1 hr2 hr3 hr4 hM2 hM3 hbw hbw3 hb1 hb2 hb3 hbox hbox3 HM;go_wp2;go_ret;have ho := HM0.out.lt;refine ⟨⟨w.heap.size, rfl, w2.heap.size, w1.heap.size, ⟨?_, ?_, ?_, ?_, fun t h => by cases h⟩, Ct _, by omega, by omega⟩, ?_⟩
 . exact HR4.out.set 1 (.slice (some ⟨w2.heap.size, 0, none⟩) 1 1)
 . exact (aa.other (p := ⟨w.heap.size, 1, none⟩) HR3.out (by show w2.heap.size ≠ w.heap.size; omega) _).pre
 . exact aa.other (p := ⟨w.heap.size, 1, none⟩) HX3.out (by show w1.heap.size ≠ w.heap.size; omega) _
 . exact HM3.out.fH HR4.out (aN.slice (aN.slice aN.nil)) (by show o ≠ w.heap.size; omega) (fun r hr => by have := (HM0.out.row r hr).lt; omega) 1 _
 . exact HB3.out.setCell (p := ⟨w.heap.size, 1, none⟩) (Ct _) _
theorem aa.neP {w : World} {a b : Nat} {t t' : TypeId} {cs cs' : List Value} (h : aa w a t cs) (h' : fu w b t' cs') (ht : t ≠ t') : a ≠ b := by obtain ⟨_, _, h'⟩ := h'; exact h.ne h' ht
def dI (R : List Hd) (i : Nat) (xs : List Int) : List Hd := R.modify i (fun h => ⟨h.blk, h.cap, xs⟩)
theorem aE (R : List Hd) (i : Nat) (xs : List Int) : (dI R i xs).length = R.length := by simp [dI]
theorem dK {R : List Hd} {i : Nat} {xs : List Int} {j : Nat} (hj : j < R.length) : (dI R i xs)[j]'(by rw [aE]; exact hj) = if i = j then ⟨R[j].blk, R[j].cap, xs⟩ else R[j] := by
 unfold dI; rw [List.getElem_modify]
theorem fv (R : List Hd) (i : Nat) (xs : List Int) : (dI R i xs).map Hd.blk = R.map Hd.blk := by
 refine Dx (by simp [aE]) fun j h1 h2 => ?_;simp only [ED];rw [dK (by simpa using h2)];split <;> rfl
theorem lW {R : List Hd} {i : Nat} {xs : List Int} (hi : i < R.length) (hl : xs.length = R[i].xs.length) : (dI R i xs).map Hd.dA = R.map Hd.dA := by
 refine Dx (by simp [aE]) fun j h1 h2 => ?_;simp only [ED];rw [dK (by simpa using h2)];split
 . rename_i e; subst e; unfold Hd.dA; rw [hl]
 . rfl
theorem lO {R : List Hd} (hn : (R.map Hd.blk).Nodup) {i j : Nat} (hi : i < R.length) (hj : j < R.length) (h : i ≠ j) : R[i].blk ≠ R[j].blk := by
 intro e;have h1 : (R.map Hd.blk)[i]'(by simpa using hi) = (R.map Hd.blk)[j]'(by simpa using hj) := by simpa using e
 have hp := List.pairwise_iff_getElem.1 hn;rcases EV h with hlt | hlt
 . exact hp i j (by simpa using hi) (by simpa using hj) hlt h1
 . exact hp j i (by simpa using hj) (by simpa using hi) hlt h1.symm
theorem eA.dI {w w' : World} {o : Nat} {R : List Hd} (h : eA w o R) {i : Nat} (hi : i < R.length) {xs : List Int} (hl : xs.length = R[i].xs.length) (hc : aU (· = R[i].blk) w w') (hr : aO w' R[i].blk xs) : eA w' o (dI R i xs) := by
 have hw : dX (· = R[i].blk) w := (h.row _ (Cu hi)).bZ;refine ⟨by rw [lW hi hl]; exact h.out.r9 hc (fun e => h.ne (Cu hi) e.symm), fun r hr' => ?_, by rw [fv]; exact h.nd⟩;obtain ⟨j, hj, rfl⟩ := Dh hr';rw [aE] at hj;rw [dK hj];split
 . rename_i e; subst e; exact hr
 . rename_i e; exact hc.zQ hw (h.row _ (Cu hj)) (lO h.nd hj hi (fun e' => e e'.symm))
theorem oC {k : Int} {xs ys : List Int} (h : xs.length = ys.length) : (fO k xs ys).length = xs.length := by simp [fO, h]
theorem kb {a b : Int} {xs ys : List Int} (h : xs.length = ys.length) : (gL a b xs ys).length = xs.length := by simp [gL, h]
theorem eF.iJ {w w' : World} {S : cR} (h : eF w S) (hc : aU S.rws w w') {b : Nat} {t : TypeId} {cs : List Value} (hb : aa w b t cs) (h1 : t ≠ 37) (h2 : t ≠ 22) : aa w' b t cs := by
 refine hc.row hb ?_;rintro (rfl | ⟨r, hr, rfl⟩)
 . exact hb.neP h.dU.out h2 rfl
 . obtain ⟨ps, tl, nt, hp, _⟩ := h.dU.row r hr;exact hb.ne hp h1 rfl
theorem eF.rows {w w' : World} {S : cR} (h : eF w S) {R : List Hd} (hc : aU S.rws w w') (hM : eA w' S.o R) (hl : R.length = S.R.length) : eF w' (S.aB R) := by
 have e : cR.dA (S.aB R) = S.dA := by unfold cR.dA cR.aB; rw [hl]
 exact ⟨by rw [e]; exact h.iJ hc h.box Cr Cr, hM⟩
def ji (R : List Hd) (i j : Nat) (k : Int) (hi : i < R.length) (hj : j < R.length) : List Hd := dI R i (fO k R[i].xs R[j].xs)
theorem wP (S : cR) (i j : Nat) (kv : Value) (k : Int) (LA LB : Nat) (w : World) (h : eF w S) (hi : i < S.R.length) (hj : j < S.R.length) (hij : i ≠ j) (hK : ah w LA kv k) (hl : S.R[i].xs.length = S.R[j].xs.length)
 (hxL : ∀ x ∈ S.R[i].xs, ag x.natAbs <= 17592186044415) (hyL : ∀ y ∈ S.R[j].xs, ag y.natAbs <= LB) (hLab : LA + LB <= 17592186044415) (hlen : S.R[i].xs.length <= 4611686018427387903) :
 Calls Tryz.prog 113 #[.int .i64 (i : Int), .int .i64 (j : Int), kv, .pointer (some ⟨S.g, 0, none⟩)] w fun e w' => e = .returned (.tuple #[]) /\ eF w' (S.aB (ji S.R i j k hi hj)) /\ aU S.rws w w' := by
 obtain ⟨kp, rfl⟩ := hK.parts;have HL := H5 h; clear h;have HK := H5 hK; clear hK;have HXL := H5 hxL; clear hxL;have HYL := H5 hyL; clear hyL;have Hl := H5 hl; clear hl;go_enter Tryz.func113, Tryz.ntmps113;unfold av at *;go_wp2;have hb1 : Below w.heap.size w (w.alloc (.cells #[.bool kp.1, .slice kp.2.1 kp.2.2.1 kp.2.2.2] 37)) := (Below.refl _ _).alloc (Ct _) _;have hr1 := aa.new w #[.bool kp.1, .slice kp.2.1 kp.2.2.1 kp.2.2.2] 37;generalize w.alloc (.cells #[.bool kp.1, .slice kp.2.1 kp.2.2.1 kp.2.2.2] 37) = w1 at *;have hbox := HL.out.box.below hb1 HL.out.box.lt;have hM1 := HL.out.dU.below hb1;have hK1 := HK.out.below hb1;have HX1 := H5 (hM1.row _ (Cu hi));have HY1 := H5 (hM1.row _ (Cu hj));have hne := lO hM1.nd hi hj hij;have cg : w1.cell? ⟨S.g, 0, none⟩ = some (.slice (some ⟨S.o, 0, none⟩) S.R.length S.cap) := hbox.cell 0;have ci : w1.cell? ⟨S.o, i, none⟩ = some (.slice (some ⟨S.R[i].blk, 0, none⟩) S.R[i].xs.length S.R[i].cap) := hM1.dA hi;have cj : w1.cell? ⟨S.o, j, none⟩ = some (.slice (some ⟨S.R[j].blk, 0, none⟩) S.R[j].xs.length S.R[j].cap) := hM1.dA hj;have ck0 : w1.cell? ⟨w.heap.size, 0, none⟩ = some (.bool kp.1) := hr1.cell 0;have ck1 : w1.cell? ⟨w.heap.size, 1, none⟩ = some (.slice kp.2.1 kp.2.2.1 kp.2.2.2) := hr1.cell 1;have hs0 : S.g < w1.heap.size := hbox.lt;have hs1 : S.o < w1.heap.size := hM1.out.lt;have hs2 : w.heap.size < w1.heap.size := hr1.lt;have hi' : (i : Int) < (S.R.length : Int) := by omega
 have hj' : (j : Int) < (S.R.length : Int) := by omega
 have HM1 := H5 hM1; clear hM1;have HK1 := H5 hK1; clear hK1;have HB1 := H5 hb1; clear hb1;clear hr1 hbox;refine dV ⟨9, fun q_ => [7, 8, 9, 10, 11, 12, 13, 14, 15].getD q_ 0,
  fun q_ => [.val (.slice (some ⟨S.o, 0, none⟩) S.R.length S.cap), .val (.int .i64 (i : Int)), .val (.pointer (some ⟨S.o, i, none⟩)), .val (.slice (some ⟨S.R[i].blk, 0, none⟩) S.R[i].xs.length S.R[i].cap), .val (.slice (some ⟨S.o, 0, none⟩) S.R.length S.cap), .val (.int .i64 (j : Int)), .val (.pointer (some ⟨S.o, j, none⟩)), .val (.slice (some ⟨S.R[j].blk, 0, none⟩) S.R[j].xs.length S.R[j].cap), .val (.agg #[.bool kp.1, .slice kp.2.1 kp.2.2.1 kp.2.2.2])].getD q_ .any,
  [],
  [],
  [],
  [], [(⟨S.g, 0, none⟩, .slice (some ⟨S.o, 0, none⟩) S.R.length S.cap), (⟨S.o, i, none⟩, .slice (some ⟨S.R[i].blk, 0, none⟩) S.R[i].xs.length S.R[i].cap), (⟨S.o, j, none⟩, .slice (some ⟨S.R[j].blk, 0, none⟩) S.R[j].xs.length S.R[j].cap), (⟨w.heap.size, 0, none⟩, .bool kp.1), (⟨w.heap.size, 1, none⟩, .slice kp.2.1 kp.2.2.1 kp.2.2.2)], []⟩ [7, 8, 9, 10, 11, 12, 13, 14, 15, 16] (w1.heap.size) (by kernel_rfl) (by kernel_rfl) (by kernel_rfl) (by kernel_rfl) (by kernel_rfl) ?_ ?_ ?_ ?_ ?_ ?_
 . intro p hp;cases hp
 . intro p hp;cases hp
 . intro p hp;rcases mc hp with rfl | hp
   . refine ⟨cg, by show S.g < w1.heap.size; omega, ?_⟩;intro t ht;cases ht
   rcases mc hp with rfl | hp
   . refine ⟨ci, by show S.o < w1.heap.size; omega, ?_⟩;intro t ht;cases ht
   rcases mc hp with rfl | hp
   . refine ⟨cj, by show S.o < w1.heap.size; omega, ?_⟩;intro t ht;cases ht
   rcases mc hp with rfl | hp
   . refine ⟨ck0, by show w.heap.size < w1.heap.size; omega, ?_⟩;intro t ht;cases ht
   rcases mc hp with rfl | hp
   . refine ⟨ck1, by show w.heap.size < w1.heap.size; omega, ?_⟩;intro t ht;cases ht
   cases hp
 . intro t ht;cases ht
 . refine aj ?_ (aj ?_ (aj ?_ (aj ?_ (aj ?_ (aj ?_ (aj ?_ (aj ?_ (aj ?_ lk))))))));any_goals (first | (intro L fx w' hJ hL hp hcl; have _ := tN hp (by decide +kernel); refine aX rfl fun K hK => ?_; go_simp; exact hJ.q hK (by kernel_rfl) rfl) | fail)
   . intro L fx w' hJ hL hp hcl;refine aX rfl fun K hK => ?_;have cl0 := (hJ.cells _ gM).1;try dsimp only at cl0
     go_simp;exact hJ.q hK (by kernel_rfl) rfl
   . intro L fx w' hJ hL hp hcl;have e0 := hJ.pt 0 7 (.slice (some ⟨S.o, 0, none⟩) S.R.length S.cap) rfl rfl rfl (hp 0 Cr);rw [e0] at hJ |-; clear e0;have e1 := hJ.pt 1 8 (.int .i64 (i : Int)) rfl rfl rfl (hp 1 Cr);rw [e1] at hJ |-; clear e1;refine aX rfl fun K hK => ?_;go_simp;exact hJ.q hK (by kernel_rfl) rfl
   . intro L fx w' hJ hL hp hcl;have e2 := hJ.pt 2 9 (.pointer (some ⟨S.o, i, none⟩)) rfl rfl rfl (hp 2 Cr);rw [e2] at hJ |-; clear e2;refine aX rfl fun K hK => ?_;have cl0 := (hJ.cells _ jk).1;try dsimp only at cl0
     go_simp;exact hJ.q hK (by kernel_rfl) rfl
   . intro L fx w' hJ hL hp hcl;refine aX rfl fun K hK => ?_;have cl0 := (hJ.cells _ gM).1;try dsimp only at cl0
     go_simp;exact hJ.q hK (by kernel_rfl) rfl
   . intro L fx w' hJ hL hp hcl;have e4 := hJ.pt 4 11 (.slice (some ⟨S.o, 0, none⟩) S.R.length S.cap) rfl rfl rfl (hp 4 Cr);rw [e4] at hJ |-; clear e4;have e5 := hJ.pt 5 12 (.int .i64 (j : Int)) rfl rfl rfl (hp 5 Cr);rw [e5] at hJ |-; clear e5;refine aX rfl fun K hK => ?_;go_simp;exact hJ.q hK (by kernel_rfl) rfl
   . intro L fx w' hJ hL hp hcl;have e6 := hJ.pt 6 13 (.pointer (some ⟨S.o, j, none⟩)) rfl rfl rfl (hp 6 Cr);rw [e6] at hJ |-; clear e6;refine aX rfl fun K hK => ?_;have cl0 := (hJ.cells _ r8).1;try dsimp only at cl0
     go_simp;exact hJ.q hK (by kernel_rfl) rfl
   . intro L fx w' hJ hL hp hcl;refine aX rfl fun K hK => ?_;have cl0 := (hJ.cells _ wR).1;have cl1 := (hJ.cells _ mm4).1;try dsimp only at cl0 cl1
     go_simp;exact hJ.q hK (by kernel_rfl) rfl
 . intro L x' w3 hL hJ;have hfr : Below w1.drew.heap.size w1.drew w3 := hJ.fr;have e3 : x' 10 = .slice (some ⟨S.R[i].blk, 0, none⟩) S.R[i].xs.length S.R[i].cap := hJ.slot 3 (by show 3 < 9; decide) (hL 3 (by show 3 < 9; decide));have e7 : x' 14 = .slice (some ⟨S.R[j].blk, 0, none⟩) S.R[j].xs.length S.R[j].cap := hJ.slot 7 (by show 7 < 9; decide) (hL 7 (by show 7 < 9; decide));have e8 : x' 15 = .agg #[.bool kp.1, .slice kp.2.1 kp.2.2.1 kp.2.2.2] := hJ.slot 8 (by show 8 < 9; decide) (hL 8 (by show 8 < 9; decide));rw [aH (x := x') (d := 10) (v := .slice (some ⟨S.R[i].blk, 0, none⟩) S.R[i].xs.length S.R[i].cap) e3];rw [aH (x := (bD x' 10 (.slice (some ⟨S.R[i].blk, 0, none⟩) S.R[i].xs.length S.R[i].cap))) (d := 14) (v := .slice (some ⟨S.R[j].blk, 0, none⟩) S.R[j].xs.length S.R[j].cap) e7];rw [aH (x := (bD (bD x' 10 (.slice (some ⟨S.R[i].blk, 0, none⟩) S.R[i].xs.length S.R[i].cap)) 14 (.slice (some ⟨S.R[j].blk, 0, none⟩) S.R[j].xs.length S.R[j].cap))) (d := 15) (v := .agg #[.bool kp.1, .slice kp.2.1 kp.2.2.1 kp.2.2.2]) e8];clear hJ hL e3 e7 e8 cg ci cj ck0 ck1;refine aX rfl fun K hK => ?_;go_simp;go_at_call 114;refine (BD _ _ _ _ LA LB _ _ _ k _ (aO.below (w := w1.drew) HX1.out hfr) (aO.below (w := w1.drew) HY1.out hfr) (ah.below (w := w1.drew) HK1.out hfr) hne Hl.out HXL.out HYL.out hLab hlen).mono ?_;rintro e w4 ⟨rfl, hR4, hC4⟩;try dsimp only
   refine hK _ _ ⟨⟨bD (bD (bD (bD x' 10 (.slice (some ⟨S.R[i].blk, 0, none⟩) S.R[i].xs.length S.R[i].cap)) 14 (.slice (some ⟨S.R[j].blk, 0, none⟩) S.R[j].xs.length S.R[j].cap)) 15 (.agg #[.bool kp.1, .slice kp.2.1 kp.2.2.1 kp.2.2.2])) 16 (.tuple #[]), by kernel_rfl⟩, ?_⟩;clear hK;go_wp2;refine bodyPost_end (results_none (by kernel_rfl) _ _ _) rfl ?_;have hC0 : aU S.rws w w3 := (aU.bC HB1.out).drew.below hfr;have hs3 := hfr.size;have hs4 : w1.drew.heap.size = w1.heap.size := rfl;have hCs : aU (· = S.R[i].blk) w w4 := ((aU.bC HB1.out).drew.below hfr).trans (hC4.mono (fun k _ e => e));have hCo : aU S.rws w w4 := hCs.mono (fun k _ e => .inr ⟨S.R[i], Cu hi, e.symm⟩);have hM4 := HL.out.dU.dI hi (oC Hl.out) hCs hR4;exact ⟨rfl, HL.out.rows hCo hM4 (by unfold ji; rw [aE]), hCo⟩
theorem rX {w w' : World} {o : Nat} {R : List Hd} (h : eA w o R) {i j : Nat} (hi : i < R.length) (hj : j < R.length) (hij : i ≠ j) {xs ys : List Int} (hl : xs.length = R[i].xs.length) (hl2 : ys.length = R[j].xs.length) (hc : aU (fun k => k = R[i].blk \/ k = R[j].blk) w w') (hr : aO w' R[i].blk xs) (hr2 : aO w' R[j].blk ys) : eA w' o (dI (dI R i xs) j ys) := by
 have hw : dX (fun k => k = R[i].blk \/ k = R[j].blk) w := by
  rintro g (rfl | rfl)
  . exact (h.row _ (Cu hi)).bZ _ rfl
  . exact (h.row _ (Cu hj)).bZ _ rfl
 have hj' : j < (dI R i xs).length := by rw [aE]; exact hj
 have ej : (dI R i xs)[j].xs = R[j].xs := by rw [dK hj, if_neg hij]
 refine ⟨?_, fun r hr' => ?_, by rw [fv, fv]; exact h.nd⟩
 . rw [lW hj' (by rw [ej]; exact hl2), lW hi hl];exact h.out.r9 hc (fun e => e.elim (fun e => h.ne (Cu hi) e.symm) (fun e => h.ne (Cu hj) e.symm))
 . obtain ⟨m, hm, rfl⟩ := Dh hr';rw [aE] at hm;have hm2 : m < R.length := by rw [aE] at hm; exact hm
   rw [dK hm];split
   . rename_i e;subst e;have : (dI R i xs)[j].blk = R[j].blk := by rw [dK hj, if_neg hij]
     simp only [this]; exact hr2
   . rename_i hjm;rw [dK hm2];split
     . rename_i e; subst e; exact hr
     . rename_i him;exact hc.zQ hw (h.row _ (Cu hm2)) (fun e => e.elim (lO h.nd hm2 hi (fun e' => him e'.symm)) (lO h.nd hm2 hj (fun e' => hjm e'.symm)))
def kF (R : List Hd) (i j : Nat) (a b c d : Int) (hi : i < R.length) (hj : j < R.length) : List Hd := dI (dI R i (gL a b R[i].xs R[j].xs)) j (gL c d R[i].xs R[j].xs)
theorem vI (S : cR) (i j : Nat) (mp mq mr ms : P4) (a b c d : Int) (LA LB : Nat) (w : World) (h : eF w S) (hi : i < S.R.length) (hj : j < S.R.length) (hij : i ≠ j) (hA : ah w LA (av mp) a) (hB : ah w LA (av mq) b) (hC : ah w LA (av mr) c) (hD : ah w LA (av ms) d) (hl : S.R[i].xs.length = S.R[j].xs.length)
 (hxL : ∀ x ∈ S.R[i].xs, ag x.natAbs <= LB) (hyL : ∀ y ∈ S.R[j].xs, ag y.natAbs <= LB) (hLab : LA + LB <= 17592186044415) (hlen : S.R[i].xs.length <= 4611686018427387903) :
 Calls Tryz.prog 115 #[.int .i64 (i : Int), .int .i64 (j : Int), .agg #[.bool mp.1, .slice mp.2.1 mp.2.2.1 mp.2.2.2, .bool mq.1, .slice mq.2.1 mq.2.2.1 mq.2.2.2, .bool mr.1, .slice mr.2.1 mr.2.2.1 mr.2.2.2, .bool ms.1, .slice ms.2.1 ms.2.2.1 ms.2.2.2], .pointer (some ⟨S.g, 0, none⟩)] w fun e w' => e = .returned (.tuple #[]) /\ eF w' (S.aB (kF S.R i j a b c d hi hj)) /\ aU S.rws w w' := by
 have HL := H5 h; clear h;have HA := H5 hA; clear hA;have HB := H5 hB; clear hB;have HC := H5 hC; clear hC;have HD := H5 hD; clear hD;have HXL := H5 hxL; clear hxL;have HYL := H5 hyL; clear hyL;have Hl := H5 hl; clear hl;go_enter Tryz.func115, Tryz.ntmps115;unfold av at *;go_wp2;have hb1 : Below w.heap.size w (w.alloc (.cells #[.bool mp.1, .slice mp.2.1 mp.2.2.1 mp.2.2.2, .bool mq.1, .slice mq.2.1 mq.2.2.1 mq.2.2.2, .bool mr.1, .slice mr.2.1 mr.2.2.1 mr.2.2.2, .bool ms.1, .slice ms.2.1 ms.2.2.1 ms.2.2.2] 138)) := (Below.refl _ _).alloc (Ct _) _;have hr1 := aa.new w #[.bool mp.1, .slice mp.2.1 mp.2.2.1 mp.2.2.2, .bool mq.1, .slice mq.2.1 mq.2.2.1 mq.2.2.2, .bool mr.1, .slice mr.2.1 mr.2.2.1 mr.2.2.2, .bool ms.1, .slice ms.2.1 ms.2.2.1 ms.2.2.2] 138;generalize w.alloc (.cells #[.bool mp.1, .slice mp.2.1 mp.2.2.1 mp.2.2.2, .bool mq.1, .slice mq.2.1 mq.2.2.1 mq.2.2.2, .bool mr.1, .slice mr.2.1 mr.2.2.1 mr.2.2.2, .bool ms.1, .slice ms.2.1 ms.2.2.1 ms.2.2.2] 138) = w1 at *;have hbox := HL.out.box.below hb1 HL.out.box.lt;have hM1 := HL.out.dU.below hb1;have HA1 := H5 (HA.out.below hb1);have HB1' := H5 (HB.out.below hb1);have HC1 := H5 (HC.out.below hb1);have HD1 := H5 (HD.out.below hb1);have HX1 := H5 (hM1.row _ (Cu hi));have HY1 := H5 (hM1.row _ (Cu hj));have hne := lO hM1.nd hi hj hij;have cg : w1.cell? ⟨S.g, 0, none⟩ = some (.slice (some ⟨S.o, 0, none⟩) S.R.length S.cap) := hbox.cell 0;have ci : w1.cell? ⟨S.o, i, none⟩ = some (.slice (some ⟨S.R[i].blk, 0, none⟩) S.R[i].xs.length S.R[i].cap) := hM1.dA hi;have cj : w1.cell? ⟨S.o, j, none⟩ = some (.slice (some ⟨S.R[j].blk, 0, none⟩) S.R[j].xs.length S.R[j].cap) := hM1.dA hj;have HR1 := H5 hr1;have hs0 : S.g < w1.heap.size := hbox.lt;have hs1 : S.o < w1.heap.size := hM1.out.lt;have hs2 : w.heap.size < w1.heap.size := hr1.lt;have hi' : (i : Int) < (S.R.length : Int) := by omega
 have hj' : (j : Int) < (S.R.length : Int) := by omega
 have HM1 := H5 hM1; clear hM1;have HB1 := H5 hb1; clear hb1;clear hr1 hbox;refine dV ⟨9, fun q_ => [7, 8, 9, 10, 11, 12, 13, 14, 15].getD q_ 0,
  fun q_ => [.val (.slice (some ⟨S.o, 0, none⟩) S.R.length S.cap), .val (.int .i64 (i : Int)), .val (.pointer (some ⟨S.o, i, none⟩)), .val (.slice (some ⟨S.R[i].blk, 0, none⟩) S.R[i].xs.length S.R[i].cap), .val (.slice (some ⟨S.o, 0, none⟩) S.R.length S.cap), .val (.int .i64 (j : Int)), .val (.pointer (some ⟨S.o, j, none⟩)), .val (.slice (some ⟨S.R[j].blk, 0, none⟩) S.R[j].xs.length S.R[j].cap), .val (.agg #[.bool mp.1, .slice mp.2.1 mp.2.2.1 mp.2.2.2, .bool mq.1, .slice mq.2.1 mq.2.2.1 mq.2.2.2, .bool mr.1, .slice mr.2.1 mr.2.2.1 mr.2.2.2, .bool ms.1, .slice ms.2.1 ms.2.2.1 ms.2.2.2])].getD q_ .any,
  [],
  [],
  [(w.heap.size, 138, [.bool mp.1, .slice mp.2.1 mp.2.2.1 mp.2.2.2, .bool mq.1, .slice mq.2.1 mq.2.2.1 mq.2.2.2, .bool mr.1, .slice mr.2.1 mr.2.2.1 mr.2.2.2, .bool ms.1, .slice ms.2.1 ms.2.2.1 ms.2.2.2])],
  [], [(⟨S.g, 0, none⟩, .slice (some ⟨S.o, 0, none⟩) S.R.length S.cap), (⟨S.o, i, none⟩, .slice (some ⟨S.R[i].blk, 0, none⟩) S.R[i].xs.length S.R[i].cap), (⟨S.o, j, none⟩, .slice (some ⟨S.R[j].blk, 0, none⟩) S.R[j].xs.length S.R[j].cap)], []⟩ [7, 8, 9, 10, 11, 12, 13, 14, 15, 16] (w1.heap.size) (by kernel_rfl) (by kernel_rfl) (by kernel_rfl) (by kernel_rfl) (by kernel_rfl) ?_ ?_ ?_ ?_ ?_ ?_
 . intro p hp;cases hp
 . intro p hp;rcases mc hp with rfl | hp
   . refine ⟨HR1.out, by show w.heap.size < w1.heap.size; omega, ?_⟩;intro t ht;cases ht
   cases hp
 . intro p hp;rcases mc hp with rfl | hp
   . refine ⟨cg, by show S.g < w1.heap.size; omega, ?_⟩;intro t ht;cases ht
   rcases mc hp with rfl | hp
   . refine ⟨ci, by show S.o < w1.heap.size; omega, ?_⟩;intro t ht;cases ht
   rcases mc hp with rfl | hp
   . refine ⟨cj, by show S.o < w1.heap.size; omega, ?_⟩;intro t ht;cases ht
   cases hp
 . intro t ht;cases ht
 . refine aj ?_ (aj ?_ (aj ?_ (aj ?_ (aj ?_ (aj ?_ (aj ?_ (aj ?_ (aj ?_ lk))))))));any_goals (first | (intro L fx w' hJ hL hp hcl; have _ := tN hp (by decide +kernel); refine aX rfl fun K hK => ?_; go_simp; exact hJ.q hK (by kernel_rfl) rfl) | fail)
   . intro L fx w' hJ hL hp hcl;refine aX rfl fun K hK => ?_;have cl0 := (hJ.cells _ gM).1;try dsimp only at cl0
     go_simp;exact hJ.q hK (by kernel_rfl) rfl
   . intro L fx w' hJ hL hp hcl;have e0 := hJ.pt 0 7 (.slice (some ⟨S.o, 0, none⟩) S.R.length S.cap) rfl rfl rfl (hp 0 Cr);rw [e0] at hJ |-; clear e0;have e1 := hJ.pt 1 8 (.int .i64 (i : Int)) rfl rfl rfl (hp 1 Cr);rw [e1] at hJ |-; clear e1;refine aX rfl fun K hK => ?_;go_simp;exact hJ.q hK (by kernel_rfl) rfl
   . intro L fx w' hJ hL hp hcl;have e2 := hJ.pt 2 9 (.pointer (some ⟨S.o, i, none⟩)) rfl rfl rfl (hp 2 Cr);rw [e2] at hJ |-; clear e2;refine aX rfl fun K hK => ?_;have cl0 := (hJ.cells _ jk).1;try dsimp only at cl0
     go_simp;exact hJ.q hK (by kernel_rfl) rfl
   . intro L fx w' hJ hL hp hcl;refine aX rfl fun K hK => ?_;have cl0 := (hJ.cells _ gM).1;try dsimp only at cl0
     go_simp;exact hJ.q hK (by kernel_rfl) rfl
   . intro L fx w' hJ hL hp hcl;have e4 := hJ.pt 4 11 (.slice (some ⟨S.o, 0, none⟩) S.R.length S.cap) rfl rfl rfl (hp 4 Cr);rw [e4] at hJ |-; clear e4;have e5 := hJ.pt 5 12 (.int .i64 (j : Int)) rfl rfl rfl (hp 5 Cr);rw [e5] at hJ |-; clear e5;refine aX rfl fun K hK => ?_;go_simp;exact hJ.q hK (by kernel_rfl) rfl
   . intro L fx w' hJ hL hp hcl;have e6 := hJ.pt 6 13 (.pointer (some ⟨S.o, j, none⟩)) rfl rfl rfl (hp 6 Cr);rw [e6] at hJ |-; clear e6;refine aX rfl fun K hK => ?_;have cl0 := (hJ.cells _ r8).1;try dsimp only at cl0
     go_simp;exact hJ.q hK (by kernel_rfl) rfl
   . intro L fx w' hJ hL hp hcl;refine aX rfl fun K hK => ?_;have rw0 := (hJ.rows _ gM).1;have cl0 : w'.cell? ⟨w.heap.size, 0, none⟩ = some (.bool mp.1) := rw0.cell 0;have cl1 : w'.cell? ⟨w.heap.size, 1, none⟩ = some (.slice mp.2.1 mp.2.2.1 mp.2.2.2) := rw0.cell 1;have cl2 : w'.cell? ⟨w.heap.size, 2, none⟩ = some (.bool mq.1) := rw0.cell 2;have cl3 : w'.cell? ⟨w.heap.size, 3, none⟩ = some (.slice mq.2.1 mq.2.2.1 mq.2.2.2) := rw0.cell 3;have cl4 : w'.cell? ⟨w.heap.size, 4, none⟩ = some (.bool mr.1) := rw0.cell 4;have cl5 : w'.cell? ⟨w.heap.size, 5, none⟩ = some (.slice mr.2.1 mr.2.2.1 mr.2.2.2) := rw0.cell 5;have cl6 : w'.cell? ⟨w.heap.size, 6, none⟩ = some (.bool ms.1) := rw0.cell 6;have cl7 : w'.cell? ⟨w.heap.size, 7, none⟩ = some (.slice ms.2.1 ms.2.2.1 ms.2.2.2) := rw0.cell 7;go_simp;exact hJ.q hK (by kernel_rfl) rfl
 . intro L x' w3 hL hJ;have hfr : Below w1.drew.heap.size w1.drew w3 := hJ.fr;have e3 : x' 10 = .slice (some ⟨S.R[i].blk, 0, none⟩) S.R[i].xs.length S.R[i].cap := hJ.slot 3 (by show 3 < 9; decide) (hL 3 (by show 3 < 9; decide));have e7 : x' 14 = .slice (some ⟨S.R[j].blk, 0, none⟩) S.R[j].xs.length S.R[j].cap := hJ.slot 7 (by show 7 < 9; decide) (hL 7 (by show 7 < 9; decide));have e8 : x' 15 = .agg #[.bool mp.1, .slice mp.2.1 mp.2.2.1 mp.2.2.2, .bool mq.1, .slice mq.2.1 mq.2.2.1 mq.2.2.2, .bool mr.1, .slice mr.2.1 mr.2.2.1 mr.2.2.2, .bool ms.1, .slice ms.2.1 ms.2.2.1 ms.2.2.2] := hJ.slot 8 (by show 8 < 9; decide) (hL 8 (by show 8 < 9; decide));rw [aH (x := x') (d := 10) (v := .slice (some ⟨S.R[i].blk, 0, none⟩) S.R[i].xs.length S.R[i].cap) e3];rw [aH (x := (bD x' 10 (.slice (some ⟨S.R[i].blk, 0, none⟩) S.R[i].xs.length S.R[i].cap))) (d := 14) (v := .slice (some ⟨S.R[j].blk, 0, none⟩) S.R[j].xs.length S.R[j].cap) e7];rw [aH (x := (bD (bD x' 10 (.slice (some ⟨S.R[i].blk, 0, none⟩) S.R[i].xs.length S.R[i].cap)) 14 (.slice (some ⟨S.R[j].blk, 0, none⟩) S.R[j].xs.length S.R[j].cap))) (d := 15) (v := .agg #[.bool mp.1, .slice mp.2.1 mp.2.2.1 mp.2.2.2, .bool mq.1, .slice mq.2.1 mq.2.2.1 mq.2.2.2, .bool mr.1, .slice mr.2.1 mr.2.2.1 mr.2.2.2, .bool ms.1, .slice ms.2.1 ms.2.2.1 ms.2.2.2]) e8];clear hJ hL e3 e7 e8 cg ci cj;refine aX rfl fun K hK => ?_;go_simp;go_at_call 116;refine (C0 _ _ _ _ LA LB _ _ mp mq mr ms a b c d _ (aO.below (w := w1.drew) HX1.out hfr) (aO.below (w := w1.drew) HY1.out hfr) (ah.below (w := w1.drew) HA1.out hfr) (ah.below (w := w1.drew) HB1'.out hfr) (ah.below (w := w1.drew) HC1.out hfr) (ah.below (w := w1.drew) HD1.out hfr) hne Hl.out HXL.out HYL.out hLab hlen).mono ?_;rintro e w4 ⟨rfl, hR4, hR4', hC4⟩;try dsimp only
   refine hK _ _ ⟨⟨bD (bD (bD (bD x' 10 (.slice (some ⟨S.R[i].blk, 0, none⟩) S.R[i].xs.length S.R[i].cap)) 14 (.slice (some ⟨S.R[j].blk, 0, none⟩) S.R[j].xs.length S.R[j].cap)) 15 (.agg #[.bool mp.1, .slice mp.2.1 mp.2.2.1 mp.2.2.2, .bool mq.1, .slice mq.2.1 mq.2.2.1 mq.2.2.2, .bool mr.1, .slice mr.2.1 mr.2.2.1 mr.2.2.2, .bool ms.1, .slice ms.2.1 ms.2.2.1 ms.2.2.2])) 16 (.tuple #[]), by kernel_rfl⟩, ?_⟩;clear hK;go_wp2;refine bodyPost_end (results_none (by kernel_rfl) _ _ _) rfl ?_;have hC0 : aU S.rws w w3 := (aU.bC HB1.out).drew.below hfr;have hs3 := hfr.size;have hs4 : w1.drew.heap.size = w1.heap.size := rfl;have hCs : aU (fun k => k = S.R[i].blk \/ k = S.R[j].blk) w w4 := ((aU.bC HB1.out).drew.below hfr).trans (hC4.mono (fun k _ e => e));have hCo : aU S.rws w w4 := hCs.mono (fun k _ e => .inr (e.elim (fun e => ⟨S.R[i], Cu hi, e.symm⟩) (fun e => ⟨S.R[j], Cu hj, e.symm⟩)));have hM4 := rX HL.out.dU hi hj hij (kb Hl.out) ((kb Hl.out).trans Hl.out) hCs hR4 hR4';exact ⟨rfl, HL.out.rows hCo hM4 (by unfold kF; rw [aE, aE]), hCo⟩
theorem eA.drew {w : World} {o : Nat} {R : List Hd} (h : eA w o R) : eA w.drew o R := ⟨h.out, h.row, h.nd⟩
theorem eF.drew {w : World} {S : cR} (h : eF w S) : eF w.drew S := ⟨h.box, h.dU.drew⟩
theorem aI.drew {w : World} {S : cR} (h : aI w S) : aI w.drew S := ⟨h.lad, h.sides, h.box, h.dU.drew, fun t ht => by obtain ⟨V, hV⟩ := h.ext t ht; exact ⟨V, hV.sd.drew, hV.box3, hV.rel, hV.own, hV.apart⟩⟩
def fF (R : List Hd) (i j : Nat) (hi : i < R.length) (hj : j < R.length) : List Hd := (R.set i R[j]).set j R[i]
def swp (i j m : Nat) : Nat := if m = j then i else if m = i then j else m
theorem lK {i j m n : Nat} (hi : i < n) (hj : j < n) (hm : m < n) : swp i j m < n := by unfold swp; (repeat' split) <;> assumption
theorem Ai {i j a b : Nat} (h : swp i j a = swp i j b) : a = b := by unfold swp at h; (repeat' split at h) <;> omega
theorem cf {R : List Hd} {i j : Nat} (hi : i < R.length) (hj : j < R.length) : (fF R i j hi hj).length = R.length := by simp [fF]
theorem fy {R : List Hd} {i j m : Nat} (hi : i < R.length) (hj : j < R.length) (hm : m < R.length) : (fF R i j hi hj)[m]'(by rw [cf]; exact hm) = R[swp i j m]'(lK hi hj hm) := by
 unfold fF;rw [DL];split
 . rename_i e; subst e; congr 1; unfold swp; rw [if_pos rfl]
 . rename_i e;rw [DL];split
   . rename_i e'; subst e'; congr 1; unfold swp; rw [if_neg (fun h => e h.symm), if_pos rfl]
   . rename_i e'; congr 1; unfold swp; rw [if_neg (fun h => e h.symm), if_neg (fun h => e' h.symm)]
theorem vP {R : List Hd} {i j : Nat} (hi : i < R.length) (hj : j < R.length) : (fF R i j hi hj).map Hd.dA = ((R.map Hd.dA).set i (R[j]).dA).set j (R[i]).dA := by
 unfold fF; rw [ET, ET]
theorem vL {w w' : World} {o : Nat} {R : List Hd} (h : eA w o R) {i j : Nat} (hi : i < R.length) (hj : j < R.length) (hc : aU (· = o) w w') (hr : fu w' o 22 (((R.map Hd.dA).set i (R[j]).dA).set j (R[i]).dA)) : eA w' o (fF R i j hi hj) := by
 have hw : dX (· = o) w := by rintro g rfl; obtain ⟨tl, n, ho⟩ := h.out; exact ⟨_, _, ho, aN.append (rZ _) n⟩
 refine ⟨by rw [vP]; exact hr, fun r hr' => ?_, ?_⟩
 . obtain ⟨m, hm, rfl⟩ := Dh hr';rw [cf] at hm;rw [fy hi hj hm];have hmem := Cu (l := R) (lK hi hj hm);exact hc.zQ hw (h.row _ hmem) (h.ne hmem)
 . refine List.pairwise_iff_getElem.2 fun a b ha hb hab => ?_;have ha' : a < R.length := by simpa [cf] using ha
   have hb' : b < R.length := by simpa [cf] using hb
   simp only [ED];rw [fy hi hj ha', fy hi hj hb'];exact lO h.nd (lK hi hj ha') (lK hi hj hb') (fun e => by have := Ai e; omega)
theorem rN (J : (Nat -> Bool) -> (Nat -> Value) -> World -> Prop) (ds : List Nat) {P : Program} {ops : Array Oper} {Q : Exit -> Act -> World -> Prop} {id n : Nat} {a : Act} {w : World} (hm : P.follows .mixedOrders = true) (hn : ops.size = n)
 (hb : ((List.range n).all fun i => ((ops[i]?).map (·.after.all fun e => !Region.binds .any e || decide (e.on < i))).getD false) = true)
 (hF : a = cS a (fun k => a.tmps.getD k undef) ds) (h0 : ∀ x, J (fun _ => false) x w.drew)
 (hs : ∀ i ∈ List.range n, ∀ L x w', J L x w' -> (∀ k < n, L k = true -> ∀ j ∈ dC ops k, L j = true) -> L i = false -> (∀ j ∈ dC ops i, L j = true) -> wpOp P ops Q i (fun a' w'' => ∃ x', a' = cS a x' ds /\ J (fs L i) x' w'') (cS a x ds) w')
 (hend : ∀ L x w', (∀ i < n, L i = true) -> J L x w' -> Q .normal (cS a x ds) w') : (Code.region id ops true).wp P Q a w :=
 gZ hm hn hb (fun x => cS a x ds) J (fun k => a.tmps.getD k undef) hF (h0 _) (fun i hi L x w' hJ hG hL hp => hs i (List.mem_range.2 hi) L x w' hJ (fun k hk hLk => cY L k (hG k hk hLk)) hL (cY L i hp)) hend
def swD (k : Nat) : Nat := if k < 13 then k + 5 else 18
def swV (S : cR) (i j : Nat) (hi : i < S.R.length) (hj : j < S.R.length) (k : Nat) : Value := [.slice (some ⟨S.o, 0, none⟩) S.R.length S.cap, .int .i64 (i : Int), .slice (some ⟨S.o, 0, none⟩) S.R.length S.cap, .int .i64 (j : Int), .slice (some ⟨S.o, 0, none⟩) S.R.length S.cap, .int .i64 (j : Int), .pointer (some ⟨S.o, j, none⟩), .slice (some ⟨(S.R[j]'hj).blk, 0, none⟩) (S.R[j]'hj).xs.length (S.R[j]'hj).cap, .slice (some ⟨S.o, 0, none⟩) S.R.length S.cap, .int .i64 (i : Int), .pointer (some ⟨S.o, i, none⟩), .slice (some ⟨(S.R[i]'hi).blk, 0, none⟩) (S.R[i]'hi).xs.length (S.R[i]'hi).cap, .pointer (some ⟨S.o, i, none⟩), undef, .pointer (some ⟨S.o, j, none⟩), undef].getD k undef
def swW (S : cR) (i j : Nat) (hi : i < S.R.length) (hj : j < S.R.length) (w : World) : Bool -> Bool -> World
 | true, true => (w.setCell ⟨S.o, i, none⟩ (.slice (some ⟨(S.R[j]'hj).blk, 0, none⟩) (S.R[j]'hj).xs.length (S.R[j]'hj).cap)).setCell ⟨S.o, j, none⟩ (.slice (some ⟨(S.R[i]'hi).blk, 0, none⟩) (S.R[i]'hi).xs.length (S.R[i]'hi).cap)
 | true, false => w.setCell ⟨S.o, i, none⟩ (.slice (some ⟨(S.R[j]'hj).blk, 0, none⟩) (S.R[j]'hj).xs.length (S.R[j]'hj).cap)
 | false, _ => w
def swJ (S : cR) (i j : Nat) (hi : i < S.R.length) (hj : j < S.R.length) (w : World) (L : Nat -> Bool) (x : Nat -> Value) (w' : World) : Prop :=
 (∀ k, k < 16 -> k ≠ 13 -> k ≠ 15 -> L k = true -> x (swD k) = swV S i j hi hj k) /\ w' = swW S i j hi hj w (L 13) (L 15)
theorem swJ.pure {S : cR} {i j : Nat} {hi : i < S.R.length} {hj : j < S.R.length} {w w' : World} {L : Nat -> Bool} {x : Nat -> Value} (h : swJ S i j hi hj w L x w') (k : Nat) (hk : Nat.blt k 16 = true) (h1 : Nat.beq k 13 = false) (h2 : Nat.beq k 15 = false) :
 swJ S i j hi hj w (fs L k) (bD x (swD k) (swV S i j hi hj k)) w' := by
 have hk := CR hk;have h1 : k ≠ 13 := fun e => by subst e; cases h1
 have h2 : k ≠ 15 := fun e => by subst e; cases h2
 refine ⟨fun m hm hm1 hm2 hL => ?_, ?_⟩
 . unfold bD;by_cases e : m = k
   . subst e; rw [if_pos rfl]
   . rw [if_neg (by unfold swD; split <;> split <;> omega)];unfold fs at hL;rw [if_neg e] at hL;exact h.1 m hm hm1 hm2 hL
 . show w' = swW S i j hi hj w (fs L k 13) (fs L k 15);unfold fs;rw [if_neg (Ne.symm h1), if_neg (Ne.symm h2)];exact h.2
theorem tG (S : cR) (i j : Nat) (w : World) (h : eF w S) (hi : i < S.R.length) (hj : j < S.R.length) (hij : i ≠ j) :
 Calls Tryz.prog 111 #[.int .i64 (i : Int), .int .i64 (j : Int), .pointer (some ⟨S.g, 0, none⟩)] w fun e w' => e = .returned (.tuple #[]) /\ eF w' (S.aB (fF S.R i j hi hj)) /\ aU S.rws w w' := by
 have hgo : S.g ≠ S.o := h.box.neP h.dU.out Cr;have hog : ¬ S.o = S.g := fun e => hgo e.symm;have cg : w.cell? ⟨S.g, 0, none⟩ = some (.slice (some ⟨S.o, 0, none⟩) S.R.length S.cap) := h.box.cell 0;have ci : w.cell? ⟨S.o, i, none⟩ = some (.slice (some ⟨S.R[i].blk, 0, none⟩) S.R[i].xs.length S.R[i].cap) := h.dU.dA hi;have cj : w.cell? ⟨S.o, j, none⟩ = some (.slice (some ⟨S.R[j].blk, 0, none⟩) S.R[j].xs.length S.R[j].cap) := h.dU.dA hj;have fi := h.dU.out.free i;have fj := h.dU.out.free j;have hi' : (i : Int) < (S.R.length : Int) := by omega
 have hj' : (j : Int) < (S.R.length : Int) := by omega
 have hji : ¬ j = i := fun e => hij e.symm;have HL := H5 h; clear h;go_enter Tryz.func111, Tryz.ntmps111;go_wp2;have hcell : ∀ a b, (swW S i j hi hj w.drew a b).cell? ⟨S.g, 0, none⟩ = some (.slice (some ⟨S.o, 0, none⟩) S.R.length S.cap) := by
  intro a b;cases a
  . exact cg
  . cases b
    . exact (World.cell?_setCell_far _ _ _ _ hog).trans cg
    . exact (World.cell?_setCell_far _ _ _ _ hog).trans ((World.cell?_setCell_far _ _ _ _ hog).trans cg)
 have HC := H5 hcell;clear hcell;refine rN (swJ S i j hi hj w.drew) [5, 6, 7, 8, 9, 10, 11, 12, 13, 14, 15, 16, 17, 18] (n := 16) (by kernel_rfl) (by kernel_rfl) (by kernel_rfl) (by kernel_rfl) ?_ ?_ ?_
 . exact fun _ => ⟨fun _ _ _ _ h => by simp at h, rfl⟩
 . refine aj ?_ (aj ?_ (aj ?_ (aj ?_ (aj ?_ (aj ?_ (aj ?_ (aj ?_ (aj ?_ (aj ?_ (aj ?_ (aj ?_ (aj ?_ (aj ?_ (aj ?_ (aj ?_ lk)))))))))))))))
   . intro L x w' hJ hG hL hp;have c0 : w'.cell? ⟨S.g, 0, none⟩ = some (.slice (some ⟨S.o, 0, none⟩) S.R.length S.cap) := by rw [hJ.2]; exact HC.out _ _
     refine wpOp_step rfl (fun K hK => ?_);simp only [pN, Nat.reduceEqDiff, ↓reduceIte];go_simp;exact hK _ _ ⟨_, by kernel_rfl, hJ.pure 0 rfl rfl rfl⟩
   . intro L x w' hJ hG hL hp;refine wpOp_step rfl (fun K hK => ?_);simp only [pN, Nat.reduceEqDiff, ↓reduceIte];go_simp;exact hK _ _ ⟨_, by kernel_rfl, hJ.pure 1 rfl rfl rfl⟩
   . intro L x w' hJ hG hL hp;have c0 : w'.cell? ⟨S.g, 0, none⟩ = some (.slice (some ⟨S.o, 0, none⟩) S.R.length S.cap) := by rw [hJ.2]; exact HC.out _ _
     refine wpOp_step rfl (fun K hK => ?_);simp only [pN, Nat.reduceEqDiff, ↓reduceIte];go_simp;exact hK _ _ ⟨_, by kernel_rfl, hJ.pure 2 rfl rfl rfl⟩
   . intro L x w' hJ hG hL hp;refine wpOp_step rfl (fun K hK => ?_);simp only [pN, Nat.reduceEqDiff, ↓reduceIte];go_simp;exact hK _ _ ⟨_, by kernel_rfl, hJ.pure 3 rfl rfl rfl⟩
   . intro L x w' hJ hG hL hp;have c0 : w'.cell? ⟨S.g, 0, none⟩ = some (.slice (some ⟨S.o, 0, none⟩) S.R.length S.cap) := by rw [hJ.2]; exact HC.out _ _
     refine wpOp_step rfl (fun K hK => ?_);simp only [pN, Nat.reduceEqDiff, ↓reduceIte];go_simp;exact hK _ _ ⟨_, by kernel_rfl, hJ.pure 4 rfl rfl rfl⟩
   . intro L x w' hJ hG hL hp;refine wpOp_step rfl (fun K hK => ?_);simp only [pN, Nat.reduceEqDiff, ↓reduceIte];go_simp;exact hK _ _ ⟨_, by kernel_rfl, hJ.pure 5 rfl rfl rfl⟩
   . intro L x w' hJ hG hL hp;have e4 : x 9 = (.slice (some ⟨S.o, 0, none⟩) S.R.length S.cap) := hJ.1 4 Cr Cr Cr (hp 4 Cr);have e5 : x 10 = (.int .i64 (j : Int)) := hJ.1 5 Cr Cr Cr (hp 5 Cr);rw [aH (x := x) (d := 9) e4] at hJ |-;rw [aH (x := (bD x 9 (.slice (some ⟨S.o, 0, none⟩) S.R.length S.cap))) (d := 10) e5] at hJ |-;refine wpOp_step rfl (fun K hK => ?_);simp only [pN, Nat.reduceEqDiff, ↓reduceIte];go_simp;exact hK _ _ ⟨_, by kernel_rfl, hJ.pure 6 rfl rfl rfl⟩
   . intro L x w' hJ hG hL hp;have e6 : x 11 = (.pointer (some ⟨S.o, j, none⟩)) := hJ.1 6 Cr Cr Cr (hp 6 Cr);rw [aH (x := x) (d := 11) e6] at hJ |-;have h13 : L 13 = false := by cases h : L 13 with | false => rfl | true => have := hG 13 Cr h 7 Cr; rw [hL] at this; cases this
     have hw : w' = w.drew := by rw [hJ.2, h13]; rfl
     rw [hw] at hJ |-;have cj' : w.drew.cell? ⟨S.o, j, none⟩ = some (.slice (some ⟨(S.R[j]'hj).blk, 0, none⟩) (S.R[j]'hj).xs.length (S.R[j]'hj).cap) := cj;refine wpOp_step rfl (fun K hK => ?_);simp only [pN, Nat.reduceEqDiff, ↓reduceIte];go_simp;exact hK _ _ ⟨_, by kernel_rfl, hJ.pure 7 rfl rfl rfl⟩
   . intro L x w' hJ hG hL hp;have c0 : w'.cell? ⟨S.g, 0, none⟩ = some (.slice (some ⟨S.o, 0, none⟩) S.R.length S.cap) := by rw [hJ.2]; exact HC.out _ _
     refine wpOp_step rfl (fun K hK => ?_);simp only [pN, Nat.reduceEqDiff, ↓reduceIte];go_simp;exact hK _ _ ⟨_, by kernel_rfl, hJ.pure 8 rfl rfl rfl⟩
   . intro L x w' hJ hG hL hp;refine wpOp_step rfl (fun K hK => ?_);simp only [pN, Nat.reduceEqDiff, ↓reduceIte];go_simp;exact hK _ _ ⟨_, by kernel_rfl, hJ.pure 9 rfl rfl rfl⟩
   . intro L x w' hJ hG hL hp;have e8 : x 13 = (.slice (some ⟨S.o, 0, none⟩) S.R.length S.cap) := hJ.1 8 Cr Cr Cr (hp 8 Cr);have e9 : x 14 = (.int .i64 (i : Int)) := hJ.1 9 Cr Cr Cr (hp 9 Cr);rw [aH (x := x) (d := 13) e8] at hJ |-;rw [aH (x := (bD x 13 (.slice (some ⟨S.o, 0, none⟩) S.R.length S.cap))) (d := 14) e9] at hJ |-;refine wpOp_step rfl (fun K hK => ?_);simp only [pN, Nat.reduceEqDiff, ↓reduceIte];go_simp;exact hK _ _ ⟨_, by kernel_rfl, hJ.pure 10 rfl rfl rfl⟩
   . intro L x w' hJ hG hL hp;have e10 : x 15 = (.pointer (some ⟨S.o, i, none⟩)) := hJ.1 10 Cr Cr Cr (hp 10 Cr);rw [aH (x := x) (d := 15) e10] at hJ |-;have h13 : L 13 = false := by cases h : L 13 with | false => rfl | true => have := hG 13 Cr h 11 Cr; rw [hL] at this; cases this
     have hw : w' = w.drew := by rw [hJ.2, h13]; rfl
     rw [hw] at hJ |-;have ci' : w.drew.cell? ⟨S.o, i, none⟩ = some (.slice (some ⟨(S.R[i]'hi).blk, 0, none⟩) (S.R[i]'hi).xs.length (S.R[i]'hi).cap) := ci;refine wpOp_step rfl (fun K hK => ?_);simp only [pN, Nat.reduceEqDiff, ↓reduceIte];go_simp;exact hK _ _ ⟨_, by kernel_rfl, hJ.pure 11 rfl rfl rfl⟩
   . intro L x w' hJ hG hL hp;have e0 : x 5 = (.slice (some ⟨S.o, 0, none⟩) S.R.length S.cap) := hJ.1 0 Cr Cr Cr (hp 0 Cr);have e1 : x 6 = (.int .i64 (i : Int)) := hJ.1 1 Cr Cr Cr (hp 1 Cr);rw [aH (x := x) (d := 5) e0] at hJ |-;rw [aH (x := (bD x 5 (.slice (some ⟨S.o, 0, none⟩) S.R.length S.cap))) (d := 6) e1] at hJ |-;refine wpOp_step rfl (fun K hK => ?_);simp only [pN, Nat.reduceEqDiff, ↓reduceIte];go_simp;exact hK _ _ ⟨_, by kernel_rfl, hJ.pure 12 rfl rfl rfl⟩
   . intro L x w' hJ hG hL hp;have e12 : x 17 = (.pointer (some ⟨S.o, i, none⟩)) := hJ.1 12 Cr Cr Cr (hp 12 Cr);have e7 : x 12 = (.slice (some ⟨(S.R[j]'hj).blk, 0, none⟩) (S.R[j]'hj).xs.length (S.R[j]'hj).cap) := hJ.1 7 Cr Cr Cr (hp 7 Cr);rw [aH (x := x) (d := 17) e12] at hJ |-;rw [aH (x := (bD x 17 (.pointer (some ⟨S.o, i, none⟩)))) (d := 12) e7] at hJ |-;have hw : w' = w.drew := by rw [hJ.2, hL]; rfl
     rw [hw] at hJ |-;refine wpOp_step rfl (fun K hK => ?_);simp only [pN, Nat.reduceEqDiff, ↓reduceIte];go_simp;have h15 : L 15 = false := by cases h : L 15 with | false => rfl | true => have := hG 15 Cr h 13 Cr; rw [hL] at this; cases this
     refine hK _ _ ⟨_, by kernel_rfl, fun m hm h1 h2 hLm => hJ.1 m hm h1 h2 (by unfold fs at hLm; rw [if_neg h1] at hLm; exact hLm), ?_⟩;have e1 : fs L 13 13 = true := rfl;have e2 : fs L 13 15 = false := h15;rw [e1, e2];rfl
   . intro L x w' hJ hG hL hp;have e2 : x 7 = (.slice (some ⟨S.o, 0, none⟩) S.R.length S.cap) := hJ.1 2 Cr Cr Cr (hp 2 Cr);have e3 : x 8 = (.int .i64 (j : Int)) := hJ.1 3 Cr Cr Cr (hp 3 Cr);rw [aH (x := x) (d := 7) e2] at hJ |-;rw [aH (x := (bD x 7 (.slice (some ⟨S.o, 0, none⟩) S.R.length S.cap))) (d := 8) e3] at hJ |-;refine wpOp_step rfl (fun K hK => ?_);simp only [pN, Nat.reduceEqDiff, ↓reduceIte];go_simp;exact hK _ _ ⟨_, by kernel_rfl, hJ.pure 14 rfl rfl rfl⟩
   . intro L x w' hJ hG hL hp;have e14 : x 18 = (.pointer (some ⟨S.o, j, none⟩)) := hJ.1 14 Cr Cr Cr (hp 14 Cr);have e11 : x 16 = (.slice (some ⟨(S.R[i]'hi).blk, 0, none⟩) (S.R[i]'hi).xs.length (S.R[i]'hi).cap) := hJ.1 11 Cr Cr Cr (hp 11 Cr);rw [aH (x := x) (d := 18) e14] at hJ |-;rw [aH (x := (bD x 18 (.pointer (some ⟨S.o, j, none⟩)))) (d := 16) e11] at hJ |-;have h13 : L 13 = true := hp 13 Cr;have hw : w' = w.drew.setCell ⟨S.o, i, none⟩ (S.R[j]'hj).dA := by rw [hJ.2, h13, hL]; rfl
     rw [hw] at hJ |-;refine wpOp_step rfl (fun K hK => ?_);simp only [pN, Nat.reduceEqDiff, ↓reduceIte];go_simp;refine hK _ _ ⟨_, by kernel_rfl, fun m hm h1 h2 hLm => hJ.1 m hm h1 h2 (by unfold fs at hLm; rw [if_neg h2] at hLm; exact hLm), ?_⟩;have e1 : fs L 15 13 = true := h13;have e2 : fs L 15 15 = true := rfl;rw [e1, e2];rfl
 . intro L x w' hL hJ;have hw : w' = (w.drew.setCell ⟨S.o, i, none⟩ (S.R[j]'hj).dA).setCell ⟨S.o, j, none⟩ (S.R[i]'hi).dA := by rw [hJ.2, hL 13 Cr, hL 15 Cr]; rfl
   rw [hw];simp only [pN, Nat.reduceEqDiff, ↓reduceIte];go_wp2;refine bodyPost_end (results_none (by kernel_rfl) _ _ _) rfl ?_;have hC : aU (· = S.o) w ((w.setCell ⟨S.o, i, none⟩ (S.R[j]).dA).setCell ⟨S.o, j, none⟩ (S.R[i]).dA) := ((aU.refl (· = S.o) w).set (p := ⟨S.o, i, none⟩) rfl _).set (p := ⟨S.o, j, none⟩) rfl _;have hR := (HL.out.dU.out.set (i := i) (by simpa using hi) (S.R[j]).dA).set (i := j) (by simpa using hj) (S.R[i]).dA;have hM := vL HL.out.dU hi hj hC hR;have hCo : aU S.rws w ((w.setCell ⟨S.o, i, none⟩ (S.R[j]).dA).setCell ⟨S.o, j, none⟩ (S.R[i]).dA) := hC.mono (fun k _ e => .inl e);have hL := HL.out.rows hCo hM (cf hi hj);exact ⟨rfl, eF.drew hL, hCo.drew⟩
def kH (xs : List Int) : List Int := xs.map (fun x => -x)
def kS (xs cu : List Int) (m : Nat) : Prop := cu.length = xs.length /\ (∀ j (h : j < cu.length) (h1 : j < xs.length), j < m -> cu[j] = -xs[j]) /\ (∀ j (h : j < cu.length) (h1 : j < xs.length), m <= j -> cu[j] = xs[j])
theorem kS.start (xs : List Int) : kS xs xs 0 := ⟨rfl, fun _ _ _ h => by omega, fun _ _ _ _ => rfl⟩
theorem kS.next {xs cu : List Int} {m : Nat} (h : kS xs cu m) (hm : m < xs.length) : kS xs (cu.set m (-xs[m])) (m + 1) := by
 obtain ⟨h1, h2, h3⟩ := h;refine ⟨by simpa using h1, fun j hj hx hjm => ?_, fun j hj hx hjm => ?_⟩
 . rw [DL];split
   . rename_i e; subst e; rfl
   . exact h2 j (by simpa using hj) hx Cp
 . rw [DL, if_neg Cp];exact h3 j (by simpa using hj) hx Cp
theorem kS.all {xs cu : List Int} (h : kS xs cu xs.length) : cu = kH xs := by
 obtain ⟨h1, h2, h3⟩ := h;refine Dx (by simp [kH, h1]) fun j hj hj' => ?_;rw [h2 j hj Cp Cp];simp [kH]
def iG (R : List Hd) (i : Nat) (hi : i < R.length) : List Hd := dI R i (kH R[i].xs)
theorem tx (S : cR) (i : Nat) (w : World) (h : eF w S) (hi : i < S.R.length)
 (hxL : ∀ x ∈ S.R[i].xs, ag x.natAbs <= 17592186044415) (hlen : S.R[i].xs.length <= 4611686018427387903) :
 Calls Tryz.prog 112 #[.int .i64 (i : Int), .pointer (some ⟨S.g, 0, none⟩)] w fun e w' => e = .returned (.tuple #[]) /\ eF w' (S.aB (iG S.R i hi)) /\ aU S.rws w w' := by
 have HXL := H5 hxL; clear hxL;have cg : w.cell? ⟨S.g, 0, none⟩ = some (.slice (some ⟨S.o, 0, none⟩) S.R.length S.cap) := h.box.cell 0;have ci : w.cell? ⟨S.o, i, none⟩ = some (.slice (some ⟨S.R[i].blk, 0, none⟩) S.R[i].xs.length S.R[i].cap) := h.dU.dA hi;have hi' : (i : Int) < (S.R.length : Int) := by omega
 have hX := H5 (h.dU.row _ (Cu hi));have hG := H5 h.box;have hO := H5 h.dU.out;have hob : S.o ≠ S.R[i].blk := fun e => h.dU.ne (Cu hi) e.symm;have hgb : S.g ≠ S.R[i].blk := by
  obtain ⟨ps, tl, nt, hp, _⟩ := h.dU.row _ (Cu hi);exact h.box.ne hp Cr
 have HL := H5 h; clear h;go_enter Tryz.func112, Tryz.ntmps112;go_wp2;go_loopw [10] (fun c wr => ∃ (m : Nat) (cu : List Int), m <= S.R[i].xs.length /\ c = .int .i64 (m : Int) /\ Hid (kS S.R[i].xs cu m) /\ Hid (aO wr S.R[i].blk cu) /\ Hid (aa wr S.g 70 [S.dA]) /\ Hid (fu wr S.o 22 (S.R.map Hd.dA)) /\ Hid (aU (· = S.R[i].blk) w wr)) (fun c _ => S.R[i].xs.length - (intOf c).toNat)
 case atStart => exact ⟨0, _, Cx _, rfl, kS.start _, hX, hG, hO, aU.refl ..⟩
 case round =>
  obtain ⟨m, cu, hm, rfl, HA, hX, hG, hO, hC⟩ := hrel;by_cases hml : m < S.R[i].xs.length
  . have hmx : m < cu.length := by rw [HA.out.1]; exact hml
    have hm2 : (m : Int) < (S.R[i].xs.length : Int) := by omega
    obtain ⟨px, cx0, cx1, hnx⟩ := hX.out.get hmx;have Hnx := H5 hnx; clear hnx;clear cg ci;go_wp2;have hb1 : Below wr.heap.size wr (wr.alloc (.cells #[.bool px.1, .slice px.2.1 px.2.2.1 px.2.2.2] 37)) := (Below.refl _ _).alloc (Ct _) _;have hr1 := aa.new wr #[.bool px.1, .slice px.2.1 px.2.2.1 px.2.2.2] 37;generalize wr.alloc (.cells #[.bool px.1, .slice px.2.1 px.2.2.1 px.2.2.2] 37) = w2 at *;have X2 := H5 (hX.out.below hb1);have G2 := H5 (hG.out.below hb1 hG.out.lt);have O2 := H5 (hO.out.below hb1 hO.out.lt);have C2 := H5 (hC.out.below hb1);have N2 := H5 (Hnx.out.below hb1);have R2 := H5 hr1;have hs1 : wr.heap.size < w2.heap.size := hr1.lt;have hxe : cu[m] = S.R[i].xs[m] := HA.out.2.2 m hmx hml (Ct _);have hxw : ag (S.R[i].xs[m]).natAbs <= 17592186044415 := HXL.out _ (Cu hml);have N3 := N2.out;rw [hxe] at N3;have N3 := H5 (N3.int hxw);clear hX hG hO hC Hnx N2 hb1 hr1 cx0 cx1 hxe;have cg : w2.cell? ⟨S.g, 0, none⟩ = some (.slice (some ⟨S.o, 0, none⟩) S.R.length S.cap) := G2.out.cell 0;have ci : w2.cell? ⟨S.o, i, none⟩ = some (.slice (some ⟨S.R[i].blk, 0, none⟩) S.R[i].xs.length S.R[i].cap) := by rw [O2.out.cell (by simpa using hi)]; simp [hi, Hd.dA]
    have cx0 : w2.cell? ⟨wr.heap.size, 0, none⟩ = some (.bool px.1) := R2.out.cell 0;have cx1 : w2.cell? ⟨wr.heap.size, 1, none⟩ = some (.slice px.2.1 px.2.2.1 px.2.2.2) := R2.out.cell 1;have hg2 := G2.out.lt;have ho2 := O2.out.lt;refine dV ⟨8, fun q_ => [15, 16, 17, 18, 19, 20, 21, 22].getD q_ 0,
     fun q_ => [.val (.slice (some ⟨S.o, 0, none⟩) S.R.length S.cap), .val (.int .i64 (i : Int)), .val (.pointer (some ⟨S.o, i, none⟩)), .val (.slice (some ⟨S.R[i].blk, 0, none⟩) S.R[i].xs.length S.R[i].cap), .val (.int .i64 (m : Int)), .val (.agg #[.bool px.1, .slice px.2.1 px.2.2.1 px.2.2.2]), .int 0 (-S.R[i].xs[m]), .val (.pointer (some ⟨S.R[i].blk, m * 2, none⟩))].getD q_ .any,
     [],
     [(.agg #[.bool px.1, .slice px.2.1 px.2.2.1 px.2.2.2], .at_ 17592186044415 (S.R[i].xs[m]))],
     [],
     [], [(⟨S.g, 0, none⟩, .slice (some ⟨S.o, 0, none⟩) S.R.length S.cap), (⟨S.o, i, none⟩, .slice (some ⟨S.R[i].blk, 0, none⟩) S.R[i].xs.length S.R[i].cap), (⟨wr.heap.size, 0, none⟩, .bool px.1), (⟨wr.heap.size, 1, none⟩, .slice px.2.1 px.2.2.1 px.2.2.2)], []⟩ [15, 16, 17, 18, 19, 20, 21, 22] (w2.heap.size) (by kernel_rfl) (by kernel_rfl) (by kernel_rfl) (by kernel_rfl) (by kernel_rfl) ?_ ?_ ?_ ?_ ?_ ?_
    . intro p hp;rcases mc hp with rfl | hp
      . exact N3.out
      cases hp
    . intro p hp;cases hp
    . intro p hp;rcases mc hp with rfl | hp
      . refine ⟨cg, by show S.g < w2.heap.size; omega, ?_⟩;intro t ht;cases ht
      rcases mc hp with rfl | hp
      . refine ⟨ci, by show S.o < w2.heap.size; omega, ?_⟩;intro t ht;cases ht
      rcases mc hp with rfl | hp
      . refine ⟨cx0, by show wr.heap.size < w2.heap.size; omega, ?_⟩;intro t ht;cases ht
      rcases mc hp with rfl | hp
      . refine ⟨cx1, by show wr.heap.size < w2.heap.size; omega, ?_⟩;intro t ht;cases ht
      cases hp
    . intro t ht;cases ht
    . refine aj ?_ (aj ?_ (aj ?_ (aj ?_ (aj ?_ (aj ?_ (aj ?_ (aj ?_ lk)))))));any_goals (first | (intro L fx w' hJ hL hp hcl; have _ := tN hp (by decide +kernel); refine aX rfl fun K hK => ?_; go_simp; exact hJ.q hK (by kernel_rfl) rfl) | fail)
      . intro L fx w' hJ hL hp hcl;refine aX rfl fun K hK => ?_;have cl0 := (hJ.cells _ gM).1;try dsimp only at cl0
        go_simp;exact hJ.q hK (by kernel_rfl) rfl
      . intro L fx w' hJ hL hp hcl;have e0 := hJ.pt 0 15 (.slice (some ⟨S.o, 0, none⟩) S.R.length S.cap) rfl rfl rfl (hp 0 Cr);rw [e0] at hJ |-; clear e0;have e1 := hJ.pt 1 16 (.int .i64 (i : Int)) rfl rfl rfl (hp 1 Cr);rw [e1] at hJ |-; clear e1;refine aX rfl fun K hK => ?_;go_simp;exact hJ.q hK (by kernel_rfl) rfl
      . intro L fx w' hJ hL hp hcl;have e2 := hJ.pt 2 17 (.pointer (some ⟨S.o, i, none⟩)) rfl rfl rfl (hp 2 Cr);rw [e2] at hJ |-; clear e2;refine aX rfl fun K hK => ?_;have cl0 := (hJ.cells _ jk).1;try dsimp only at cl0
        go_simp;exact hJ.q hK (by kernel_rfl) rfl
      . intro L fx w' hJ hL hp hcl;refine aX rfl fun K hK => ?_;have cl0 := (hJ.cells _ r8).1;have cl1 := (hJ.cells _ wR).1;try dsimp only at cl0 cl1
        go_simp;exact hJ.q hK (by kernel_rfl) rfl
      . intro L fx w' hJ hL hp hcl;have e5 := hJ.pt 5 20 (.agg #[.bool px.1, .slice px.2.1 px.2.2.1 px.2.2.2]) rfl rfl rfl (hp 5 Cr);rw [e5] at hJ |-; clear e5;refine aX rfl fun K hK => ?_;go_simp;go_at_call 61;refine (iY _ (S.R[i].xs[m]) _ (show ah w' _ _ _ from hJ.base _ gM)).mono ?_;rintro e w4 ⟨⟨v5, rfl, h5⟩, hb4⟩;try dsimp only
        exact hK _ _ ⟨_, by kernel_rfl, hJ.gC 6 rfl (by kernel_rfl) hb4 (ai.mono h5 (Cx _)) Cp⟩
      . intro L fx w' hJ hL hp hcl;have e3 := hJ.pt 3 18 (.slice (some ⟨S.R[i].blk, 0, none⟩) S.R[i].xs.length S.R[i].cap) rfl rfl rfl (hp 3 Cr);rw [e3] at hJ |-; clear e3;have e4 := hJ.pt 4 19 (.int .i64 (m : Int)) rfl rfl rfl (hp 4 Cr);rw [e4] at hJ |-; clear e4;refine aX rfl fun K hK => ?_;go_simp;exact hJ.q hK (by kernel_rfl) rfl
    . intro L x' w3 hL hJ;have hfr : Below w2.drew.heap.size w2.drew w3 := hJ.fr;have e11 : ai w3 0 (x' 21) (-S.R[i].xs[m]) := hJ.slot 6 (by show 6 < 8; decide) (hL 6 (by show 6 < 8; decide));have e12 : x' 22 = .pointer (some ⟨S.R[i].blk, m * 2, none⟩) := hJ.slot 7 (by show 7 < 8; decide) (hL 7 (by show 7 < 8; decide));obtain ⟨pz, hpz⟩ := aL.parts e11.num;rw [hpz] at e11;unfold av at hpz;rw [aH (x := x') (d := 21) hpz];rw [aH (x := bD x' 21 (.agg #[.bool pz.1, .slice pz.2.1 pz.2.2.1 pz.2.2.2])) (d := 22) (v := .pointer (some ⟨S.R[i].blk, m * 2, none⟩)) e12];clear hJ hL cg ci cx0 cx1;have X3 := H5 (aO.below (w := w2.drew) X2.out hfr);have G3 := H5 (aa.below (w := w2.drew) G2.out hfr G2.out.lt);have O3 := H5 (fu.below (w := w2.drew) O2.out hfr O2.out.lt);have C3 := H5 (C2.out.drew.below hfr);obtain ⟨pq, q0, q1, _⟩ := X3.out.get hmx;have q2 := X3.out.free (m * 2);have q3 := X3.out.free (m * 2 + 1);refine aX rfl fun K hK => ?_;go_simp;refine hK _ _ ⟨⟨bD (bD x' 21 (.agg #[.bool pz.1, .slice pz.2.1 pz.2.2.1 pz.2.2.2])) 22 (.pointer (some ⟨S.R[i].blk, m * 2, none⟩)), by kernel_rfl⟩, ?_⟩;clear hK q0 q1 q2 q3;go_wp2;go_roundw
      case rel =>
       exact ⟨m + 1, _, by omega, by go_num, HA.out.next hml, H5 (X3.out.set m e11.num), H5 ((G3.out.other (by show S.g ≠ S.R[i].blk; exact hgb) _).other (by show S.g ≠ S.R[i].blk; exact hgb) _), H5 ((O3.out.other (by show S.o ≠ S.R[i].blk; exact hob) _).other (by show S.o ≠ S.R[i].blk; exact hob) _), H5 ((C3.out.set (p := ⟨S.R[i].blk, m * 2, none⟩) rfl _).set (p := ⟨S.R[i].blk, m * 2 + 1, none⟩) rfl _)⟩
      case measure => simp [intOf]; omega
  . obtain rfl : m = S.R[i].xs.length := by omega
    have he := HA.out.all;have HE := H5 he;clear he;go_wp2;refine bodyPost_end (results_none (by kernel_rfl) _ _ _) rfl ?_;have hR4 := hX.out;rw [HE.out] at hR4;have hCo : aU S.rws w wr := hC.out.mono (fun k _ e => .inr ⟨S.R[i], Cu hi, e.symm⟩);have hM4 := HL.out.dU.dI hi (by simp [kH]) hC.out hR4;exact ⟨rfl, HL.out.rows hCo hM4 (by unfold iG; rw [aE]), hCo⟩
attribute [local go_sem] j8
attribute [local go_sem] j8
theorem aI.below {w w' : World} {S : cR} (h : aI w S) (hb : Below w.heap.size w w') : aI w' S :=
 ⟨h.lad.below hb h.lad.lt, h.sides.below hb h.sides.lt, h.box.below hb h.box.lt, h.dU.below hb, fun t ht => by obtain ⟨V, hV⟩ := h.ext t ht; exact ⟨V, hV.sd.below hb, hV.box3.below hb hV.box3.lt, hV.rel, hV.own, hV.apart⟩⟩
theorem aU.qN {S : cR} {w w' : World} (h : aU S.rws w w') : aU S.own w w' := h.mono (fun _ _ e => .inl e)
theorem eF.keepP {w w' : World} {S : cR} (h : eF w S) (hc : aU S.rws w w') {b : Nat} {t : TypeId} {cs : List Value} (hb : fu w b t cs) (h1 : t ≠ 37) (h2 : t ≠ 22) : fu w' b t cs := by
 obtain ⟨tl, n, hr⟩ := hb;exact ⟨tl, n, h.iJ hc hr h1 h2⟩
theorem cR.AN {S : cR} {R : List Hd} (h : R.length = S.R.length) : (S.aB R).dA = S.dA := by unfold cR.dA cR.aB; rw [h]
theorem aI.qq {w : World} {S : cR} (h : aI w S) (k : Nat) (hk : S.own k) : k < w.heap.size := by
 have key : ∀ {S : cR}, eF w S -> S.rws k -> k < w.heap.size := fun hs e => by
  rcases e with rfl | ⟨r, hr, rfl⟩
  . exact hs.dU.out.lt
  . exact (hs.dU.row r hr).lt
 rcases hk with e | ⟨t, ht, e⟩
 . exact key h.sd e
 . obtain ⟨V, hV⟩ := h.ext t ht;exact key hV.sd ((hV.own k).1 e)
structure wK.Ok (t : wK) : Prop where
 len : ∀ R V, t.rel R V -> V.length = R.length
 sh : ∀ R V, t.rel R V -> ∀ r ∈ V, ∀ q ∈ V, r.xs.length = q.xs.length
 wide : ∀ R V, t.rel R V -> ∀ r ∈ V, r.xs.length <= 4611686018427387903
 bd : ∀ R V, t.rel R V -> t.fit R -> ∀ r ∈ V, ∀ x ∈ r.xs, ag x.natAbs <= 4398046511103
 swap : ∀ R V i j (hi : i < R.length) (hj : j < R.length) (hi' : i < V.length) (hj' : j < V.length), i ≠ j -> t.rel R V -> t.rel (fF R i j hi hj) (fF V i j hi' hj')
 turn : ∀ R V i (hi : i < R.length) (hi' : i < V.length), t.rel R V -> t.rel (iG R i hi) (iG V i hi')
 add : ∀ R V i j k (hi : i < R.length) (hj : j < R.length) (hi' : i < V.length) (hj' : j < V.length), i ≠ j -> t.rel R V -> t.rel (ji R i j k hi hj) (ji V j i (-k) hj' hi')
 mix : ∀ R V i j a b c d (hi : i < R.length) (hj : j < R.length) (hi' : i < V.length) (hj' : j < V.length), i ≠ j -> a * d - b * c = 1 -> t.rel R V -> t.rel (kF R i j a b c d hi hj) (kF V i j d (-c) (-b) a hi' hj')
 no : False
def cR.jX (S : cR) : Prop := ∀ t, S.two = some t -> t.Ok
def cR.yN (S : cR) : Prop := ∀ t, S.two = some t -> t.fit S.R
theorem aI.fns {w : World} {S : cR} (h : aI w S) : (∀ k, k < 4 -> w.cell? ⟨S.sb, k, none⟩ = (gY S.g)[k]?) /\ ∀ t, S.two = some t -> ∀ k, k < 4 -> w.cell? ⟨S.sb, 4 + k, none⟩ = (agF t.g t.g3)[k]? := by
 refine ⟨fun k hk => ?_, fun t ht k hk => ?_⟩
 . rw [h.sides.cell (by simp [gY]; omega), List.getElem?_append_left (by simp [gY]; omega)]
 . have e : S.more = agF t.g t.g3 := by unfold cR.more; rw [ht]
   rw [h.sides.cell (by rw [e]; simp [gY, agF]; omega), List.getElem?_append_right (by simp [gY]), e];simp [gY]
theorem aI.one {w : World} {S : cR} (h : aI w S) (hS : S.two = none) : w.cell? ⟨S.lb, 1, none⟩ = some (.slice (some ⟨S.sb, 0, none⟩) 1 1) := by
 have := h.lad.cell 1;simpa [cR.ns, cR.cs, hS] using this
theorem aI.bU {w w' : World} {S : cR} {R : List Hd} (h : aI w S) (hS : S.two = none) (hs : eF w' (S.aB R)) (hc : aU S.rws w w') (hl : R.length = S.R.length) : aI w' (S.aB R) :=
 ⟨by rw [cR.AN hl]; exact h.sd.iJ hc h.lad Cr Cr, h.sd.keepP hc h.sides Cr Cr, hs.box, hs.dU, fun t ht => by rw [show (S.aB R).two = S.two from rfl, hS] at ht; cases ht⟩
theorem uH {S : cR} {R : List Hd} (h : ∀ b, b ∈ R.map Hd.blk ↔ b ∈ S.R.map Hd.blk) (k : Nat) : (S.aB R).rws k ↔ S.rws k := by
 have hm : ∀ Q : List Hd, (∃ h ∈ Q, h.blk = k) ↔ k ∈ Q.map Hd.blk := fun Q => by simp
 show (k = S.o \/ ∃ h ∈ R, h.blk = k) ↔ (k = S.o \/ ∃ h ∈ S.R, h.blk = k);rw [hm, hm, h]
theorem vW {R : List Hd} {i j : Nat} (hi : i < R.length) (hj : j < R.length) (b : Nat) : b ∈ (fF R i j hi hj).map Hd.blk ↔ b ∈ R.map Hd.blk := by
 constructor
 . intro h;obtain ⟨q, hq, rfl⟩ := List.mem_map.1 h;obtain ⟨m, hm, rfl⟩ := Dh hq;rw [cf] at hm;rw [fy hi hj hm];exact List.mem_map.2 ⟨_, Cu _, rfl⟩
 . intro h;obtain ⟨q, hq, rfl⟩ := List.mem_map.1 h;obtain ⟨m, hm, rfl⟩ := Dh hq;have hs : swp i j m < R.length := lK hi hj hm;have e : swp i j (swp i j m) = m := by unfold swp; (repeat' split) <;> omega
   refine List.mem_map.2 ⟨(fF R i j hi hj)[swp i j m]'(by rw [cf]; exact hs), Cu _, ?_⟩;rw [fy hi hj hs];congr 2
theorem tH {R : List Hd} {i : Nat} {xs : List Int} (b : Nat) : b ∈ (dI R i xs).map Hd.blk ↔ b ∈ R.map Hd.blk := by rw [fv]
theorem sk {xs ys : List Int} (h : xs.length = ys.length) : fO 0 xs ys = xs := by
 refine Dx (by simp [fO, h]) fun j h1 h2 => ?_;simp [fO]
theorem ub {R : List Hd} {i : Nat} (hi : i < R.length) : dI R i R[i].xs = R := by
 refine Dx (by simp [aE]) fun j h1 h2 => ?_;rw [dK h2];split
 . rename_i e; subst e; rfl
 . rfl
theorem y7 (S : cR) (i j : Nat) (w : World) (h : aI w S) (hi : i < S.R.length) (hj : j < S.R.length) (hij : i ≠ j) (hS : S.two = none) :
 Calls Tryz.prog 100 #[.pointer (some ⟨S.lb, 0, none⟩), .int .i64 (i : Int), .int .i64 (j : Int)] w fun e w' => e = .returned (.tuple #[]) /\ aI w' (S.aB (fF S.R i j hi hj)) /\ aU S.own w w' := by
 have c1 : w.cell? ⟨S.lb, 1, none⟩ = some (.slice (some ⟨S.sb, 0, none⟩) 1 1) := h.one hS;have HLA := H5 h; clear h;have HCA := H5 (aU.refl S.own w);go_enter Tryz.func100, Tryz.ntmps100;go_wp2;go_loopw [13] (fun ct_ wr => (ct_ = .int .i64 0 /\ Hid (aI wr S) /\ Hid (aU S.own w wr)) \/ (ct_ = .int .i64 1 /\ Hid (aI wr (S.aB (fF S.R i j hi hj))) /\ Hid (aU S.own w wr))) (fun c _ => 1 - (intOf c).toNat)
 case atStart => exact .inl ⟨rfl, HLA, HCA⟩
 case round =>
  clear c1;rcases hrel with ⟨rfl, hL, hC⟩ | ⟨rfl, hL, hC⟩
  . skip;have hfn := hL.out.fns.1;have s0 : wr.cell? ⟨S.sb, 0, none⟩ = some (.func (.func 111) #[] #[.pointer (some ⟨S.g, 0, none⟩)]) := hfn 0 Cr;have s1 : wr.cell? ⟨S.sb, 1, none⟩ = some (.func (.func 112) #[] #[.pointer (some ⟨S.g, 0, none⟩)]) := hfn 1 Cr;have s2 : wr.cell? ⟨S.sb, 2, none⟩ = some (.func (.func 113) #[] #[.pointer (some ⟨S.g, 0, none⟩)]) := hfn 2 Cr;have s3 : wr.cell? ⟨S.sb, 3, none⟩ = some (.func (.func 115) #[] #[.pointer (some ⟨S.g, 0, none⟩)]) := hfn 3 Cr;clear hfn;have hb1 : Below wr.heap.size wr (wr.alloc (.cells #[.func (.func 111) #[] #[.pointer (some ⟨S.g, 0, none⟩)], .func (.func 112) #[] #[.pointer (some ⟨S.g, 0, none⟩)], .func (.func 113) #[] #[.pointer (some ⟨S.g, 0, none⟩)], .func (.func 115) #[] #[.pointer (some ⟨S.g, 0, none⟩)]] 125)) := (Below.refl _ _).alloc (Ct _) _

    have hL1 := H5 (hL.out.below hb1);have hC1 := H5 (hC.out.below hb1);have HB1 := H5 hb1;go_wp2_with fail
    refine (tG S i j _ hL1.out.sd hi hj hij).mono ?_;rintro e w4 ⟨rfl, hL4, hC4⟩;have HL4 := H5 (hL1.out.bU hS hL4 hC4 (cf hi hj));have HC4 := H5 (hC1.out.trans hC4.qN);clear hL4 hC4 s0 s1 s2 s3;go_wp2;go_roundw
    case rel => exact .inr ⟨by go_num, HL4, HC4⟩
    case measure => simp [intOf]
  . go_wp2;refine bodyPost_end (results_none (by kernel_rfl) _ _ _) rfl ?_;exact ⟨rfl, hL.out, hC.out⟩
theorem ll (S : cR) (i j : Nat) (w : World) (h : aI w S) (hi : i < S.R.length) (hj : j < S.R.length) (hij : i ≠ j) (hG : S.jX) :
 Calls Tryz.prog 100 #[.pointer (some ⟨S.lb, 0, none⟩), .int .i64 (i : Int), .int .i64 (j : Int)] w fun e w' => e = .returned (.tuple #[]) /\ aI w' (S.aB (fF S.R i j hi hj)) /\ aU S.own w w' := by
 rcases hS : S.two with _ | t
 . exact y7 S i j w h hi hj hij hS
 . exact (hG t hS).no.elim
theorem xB (S : cR) (i : Nat) (w : World) (h : aI w S) (hi : i < S.R.length) (hxL : ∀ x ∈ S.R[i].xs, ag x.natAbs <= 17592186044415) (hlen : S.R[i].xs.length <= 4611686018427387903) (hS : S.two = none) :
 Calls Tryz.prog 119 #[.pointer (some ⟨S.lb, 0, none⟩), .int .i64 (i : Int)] w fun e w' => e = .returned (.tuple #[]) /\ aI w' (S.aB (iG S.R i hi)) /\ aU S.own w w' := by
 have c1 : w.cell? ⟨S.lb, 1, none⟩ = some (.slice (some ⟨S.sb, 0, none⟩) 1 1) := h.one hS;have HXL := H5 hxL; clear hxL;have HLA := H5 h; clear h;have HCA := H5 (aU.refl S.own w);go_enter Tryz.func119, Tryz.ntmps119;go_wp2;go_loopw [11] (fun ct_ wr => (ct_ = .int .i64 0 /\ Hid (aI wr S) /\ Hid (aU S.own w wr)) \/ (ct_ = .int .i64 1 /\ Hid (aI wr (S.aB (iG S.R i hi))) /\ Hid (aU S.own w wr))) (fun c _ => 1 - (intOf c).toNat)
 case atStart => exact .inl ⟨rfl, HLA, HCA⟩
 case round =>
  clear c1;rcases hrel with ⟨rfl, hL, hC⟩ | ⟨rfl, hL, hC⟩
  . skip;have hfn := hL.out.fns.1;have s0 : wr.cell? ⟨S.sb, 0, none⟩ = some (.func (.func 111) #[] #[.pointer (some ⟨S.g, 0, none⟩)]) := hfn 0 Cr;have s1 : wr.cell? ⟨S.sb, 1, none⟩ = some (.func (.func 112) #[] #[.pointer (some ⟨S.g, 0, none⟩)]) := hfn 1 Cr;have s2 : wr.cell? ⟨S.sb, 2, none⟩ = some (.func (.func 113) #[] #[.pointer (some ⟨S.g, 0, none⟩)]) := hfn 2 Cr;have s3 : wr.cell? ⟨S.sb, 3, none⟩ = some (.func (.func 115) #[] #[.pointer (some ⟨S.g, 0, none⟩)]) := hfn 3 Cr;clear hfn;have hb1 : Below wr.heap.size wr (wr.alloc (.cells #[.func (.func 111) #[] #[.pointer (some ⟨S.g, 0, none⟩)], .func (.func 112) #[] #[.pointer (some ⟨S.g, 0, none⟩)], .func (.func 113) #[] #[.pointer (some ⟨S.g, 0, none⟩)], .func (.func 115) #[] #[.pointer (some ⟨S.g, 0, none⟩)]] 125)) := (Below.refl _ _).alloc (Ct _) _

    have hL1 := H5 (hL.out.below hb1);have hC1 := H5 (hC.out.below hb1);have HB1 := H5 hb1;go_wp2_with fail
    refine (tx S i _ hL1.out.sd hi HXL.out hlen).mono ?_;rintro e w4 ⟨rfl, hL4, hC4⟩;have HL4 := H5 (hL1.out.bU hS hL4 hC4 (by unfold iG; rw [aE]));have HC4 := H5 (hC1.out.trans hC4.qN);clear hL4 hC4 s0 s1 s2 s3;go_wp2;go_roundw
    case rel => exact .inr ⟨by go_num, HL4, HC4⟩
    case measure => simp [intOf]
  . go_wp2;refine bodyPost_end (results_none (by kernel_rfl) _ _ _) rfl ?_;exact ⟨rfl, hL.out, hC.out⟩
theorem uI (S : cR) (i : Nat) (w : World) (h : aI w S) (hi : i < S.R.length) (hxL : ∀ x ∈ S.R[i].xs, ag x.natAbs <= 17592186044415) (hlen : S.R[i].xs.length <= 4611686018427387903) (hG : S.jX) (hF : S.yN) :
 Calls Tryz.prog 119 #[.pointer (some ⟨S.lb, 0, none⟩), .int .i64 (i : Int)] w fun e w' => e = .returned (.tuple #[]) /\ aI w' (S.aB (iG S.R i hi)) /\ aU S.own w w' := by
 rcases hS : S.two with _ | t
 . exact xB S i w h hi hxL hlen hS
 . exact (hG t hS).no.elim
theorem zA (S : cR) (i j : Nat) (kv : Value) (k : Int) (LA LB : Nat) (w : World) (h : aI w S) (hi : i < S.R.length) (hj : j < S.R.length) (hij : i ≠ j) (hK : ah w LA kv k) (hl : S.R[i].xs.length = S.R[j].xs.length) (hxL : ∀ x ∈ S.R[i].xs, ag x.natAbs <= 17592186044415) (hyL : ∀ y ∈ S.R[j].xs, ag y.natAbs <= LB) (hLab : LA + LB <= 17592186044415) (hlen : S.R[i].xs.length <= 4611686018427387903) (hS : S.two = none) :
 Calls Tryz.prog 130 #[.pointer (some ⟨S.lb, 0, none⟩), .int .i64 (i : Int), .int .i64 (j : Int), kv] w fun e w' => e = .returned (.tuple #[]) /\ aI w' (S.aB (ji S.R i j k hi hj)) /\ aU S.own w w' := by
 obtain ⟨kp, rfl⟩ := hK.parts;have HXL := H5 hxL; clear hxL;have HYL := H5 hyL; clear hyL;have Hl := H5 hl; clear hl;have HK := H5 hK; clear hK;have HL := H5 h; clear h;go_enter Tryz.func130, Tryz.ntmps130;unfold av at *;go_wp2_with fail
 have hb0 : Below w.heap.size w (w.alloc (.cells #[.bool kp.1, .slice kp.2.1 kp.2.2.1 kp.2.2.2] 37)) := (Below.refl _ _).alloc (Ct _) _;have hr0 := aa.new w #[.bool kp.1, .slice kp.2.1 kp.2.2.1 kp.2.2.2] 37;generalize w.alloc (.cells #[.bool kp.1, .slice kp.2.1 kp.2.2.1 kp.2.2.2] 37) = wB at *;have hKB := HK.out.below hb0;refine (cO _ k _ (hKB.mono Cp)).mono ?_;rintro e wA ⟨rfl, hbA⟩;have HLA := H5 ((HL.out.below hb0).below hbA);have HCA := H5 ((aU.bC (S := S.own) hb0).below hbA);have HKA := H5 (hKB.below hbA);have HRA := H5 (hr0.below hbA hr0.lt);have hsA : w.heap.size < wA.heap.size := HRA.out.lt;have hso : ¬ S.own w.heap.size := by
  exact fun e => absurd (HL.out.qq _ e) (DA _)
 have Hso := H5 hso; clear hso;clear hb0 hr0 hKB hbA;by_cases hk0 : k = 0
 . have hz : aV k = 0 := dm.2 hk0;rw [hz];have HK0 := H5 hk0; clear hk0 hz;go_wp2;refine bodyPost_ret (results_none (by kernel_rfl) _ _ _) rfl ?_;have e : ji S.R i j k hi hj = S.R := by unfold ji; rw [HK0.out, sk Hl.out, ub hi]
   rw [e];exact ⟨rfl, HLA.out, HCA.out⟩
 have hn0 : ¬ aV k = 0 := fun h => hk0 (dm.1 h);obtain ⟨s, hs⟩ := Cs (aV k);rw [hs] at hn0 |-;have hb0 : (s == 0) = false := by simpa using hn0
 clear hs hk0;have c1 : wA.cell? ⟨S.lb, 1, none⟩ = some (.slice (some ⟨S.sb, 0, none⟩) 1 1) := HLA.out.one hS;go_wp2;clear hb0 hn0;go_loopw [18] (fun ct_ wr => (ct_ = .int .i64 0 /\ Hid (aI wr S) /\ Hid (aU S.own w wr) /\ Hid (ah wr LA (av kp) k) /\ Hid (aa wr w.heap.size 37 [.bool kp.1, .slice kp.2.1 kp.2.2.1 kp.2.2.2])) \/ (ct_ = .int .i64 1 /\ Hid (aI wr (S.aB (ji S.R i j k hi hj))) /\ Hid (aU S.own w wr))) (fun c _ => 1 - (intOf c).toNat)
 case atStart => exact .inl ⟨rfl, HLA, HCA, HKA, HRA⟩
 case round =>
  clear c1;rcases hrel with ⟨rfl, hL, hC, hKr, hRr⟩ | ⟨rfl, hL, hC⟩
  . skip;have hfn := hL.out.fns.1;have s0 : wr.cell? ⟨S.sb, 0, none⟩ = some (.func (.func 111) #[] #[.pointer (some ⟨S.g, 0, none⟩)]) := hfn 0 Cr;have s1 : wr.cell? ⟨S.sb, 1, none⟩ = some (.func (.func 112) #[] #[.pointer (some ⟨S.g, 0, none⟩)]) := hfn 1 Cr;have s2 : wr.cell? ⟨S.sb, 2, none⟩ = some (.func (.func 113) #[] #[.pointer (some ⟨S.g, 0, none⟩)]) := hfn 2 Cr;have s3 : wr.cell? ⟨S.sb, 3, none⟩ = some (.func (.func 115) #[] #[.pointer (some ⟨S.g, 0, none⟩)]) := hfn 3 Cr;clear hfn;have hb1 : Below wr.heap.size wr (wr.alloc (.cells #[.func (.func 111) #[] #[.pointer (some ⟨S.g, 0, none⟩)], .func (.func 112) #[] #[.pointer (some ⟨S.g, 0, none⟩)], .func (.func 113) #[] #[.pointer (some ⟨S.g, 0, none⟩)], .func (.func 115) #[] #[.pointer (some ⟨S.g, 0, none⟩)]] 125)) := (Below.refl _ _).alloc (Ct _) _;have hK1 := H5 (hKr.out.below hb1);have hR1 := hRr.out.below hb1 hRr.out.lt;have k0 := hR1.cell 0;have k1 := hR1.cell 1;try dsimp only at k0 k1
    have hL1 := H5 (hL.out.below hb1);have hC1 := H5 (hC.out.below hb1);have HB1 := H5 hb1;go_wp2_with fail
    refine (wP S i j (av kp) k LA LB _ hL1.out.sd hi hj hij hK1.out Hl.out HXL.out HYL.out hLab hlen).mono ?_;rintro e w4 ⟨rfl, hL4, hC4⟩;have HL4 := H5 (hL1.out.bU hS hL4 hC4 (by unfold ji; rw [aE]));have HC4 := H5 (hC1.out.trans hC4.qN);clear hL4 hC4 s0 s1 s2 s3;go_wp2;go_roundw
    case rel => exact .inr ⟨by go_num, HL4, HC4⟩
    case measure => simp [intOf]
  . go_wp2;refine bodyPost_end (results_none (by kernel_rfl) _ _ _) rfl ?_;exact ⟨rfl, hL.out, hC.out⟩
theorem xF (S : cR) (i j : Nat) (kv : Value) (k : Int) (LA LB : Nat) (w : World) (h : aI w S) (hi : i < S.R.length) (hj : j < S.R.length) (hij : i ≠ j) (hK : ah w LA kv k) (hl : S.R[i].xs.length = S.R[j].xs.length) (hxL : ∀ x ∈ S.R[i].xs, ag x.natAbs <= 17592186044415) (hyL : ∀ y ∈ S.R[j].xs, ag y.natAbs <= LB) (hLab : LA + LB <= 17592186044415) (hlen : S.R[i].xs.length <= 4611686018427387903) (hG : S.jX) (hF : S.yN) (hLA2 : LA <= 13194139533312) :
 Calls Tryz.prog 130 #[.pointer (some ⟨S.lb, 0, none⟩), .int .i64 (i : Int), .int .i64 (j : Int), kv] w fun e w' => e = .returned (.tuple #[]) /\ aI w' (S.aB (ji S.R i j k hi hj)) /\ aU S.own w w' := by
 rcases hS : S.two with _ | t
 . exact zA S i j kv k LA LB w h hi hj hij hK hl hxL hyL hLab hlen hS
 . exact (hG t hS).no.elim
theorem zT (S : cR) (i j : Nat) (mp mq mr ms : P4) (a b c d : Int) (LA LB : Nat) (w : World) (h : aI w S) (hi : i < S.R.length) (hj : j < S.R.length) (hij : i ≠ j) (hA : ah w LA (av mp) a) (hB : ah w LA (av mq) b) (hC : ah w LA (av mr) c) (hD : ah w LA (av ms) d) (hl : S.R[i].xs.length = S.R[j].xs.length) (hxL : ∀ x ∈ S.R[i].xs, ag x.natAbs <= LB) (hyL : ∀ y ∈ S.R[j].xs, ag y.natAbs <= LB) (hLab : LA + LB <= 17592186044415) (hlen : S.R[i].xs.length <= 4611686018427387903) (hS : S.two = none) :
 Calls Tryz.prog 131 #[.pointer (some ⟨S.lb, 0, none⟩), .int .i64 (i : Int), .int .i64 (j : Int), .agg #[.bool mp.1, .slice mp.2.1 mp.2.2.1 mp.2.2.2, .bool mq.1, .slice mq.2.1 mq.2.2.1 mq.2.2.2, .bool mr.1, .slice mr.2.1 mr.2.2.1 mr.2.2.2, .bool ms.1, .slice ms.2.1 ms.2.2.1 ms.2.2.2]] w fun e w' => e = .returned (.tuple #[]) /\ aI w' (S.aB (kF S.R i j a b c d hi hj)) /\ aU S.own w w' := by
 have HXL := H5 hxL; clear hxL;have HYL := H5 hyL; clear hyL;have Hl := H5 hl; clear hl;have HI : Hid (ah w LA (av mp) a /\ ah w LA (av mq) b /\ ah w LA (av mr) c /\ ah w LA (av ms) d) := H5 ⟨hA, hB, hC, hD⟩;clear hA hB hC hD;have HL := H5 h; clear h;have Hso : Hid (¬ S.own w.heap.size) := H5 (fun e => absurd (HL.out.qq _ e) (DA _));have hb0 : Below w.heap.size w (w.alloc (.cells #[.bool mp.1, .slice mp.2.1 mp.2.2.1 mp.2.2.2, .bool mq.1, .slice mq.2.1 mq.2.2.1 mq.2.2.2, .bool mr.1, .slice mr.2.1 mr.2.2.1 mr.2.2.2, .bool ms.1, .slice ms.2.1 ms.2.2.1 ms.2.2.2] 138)) := (Below.refl _ _).alloc (Ct _) _;have hr0 := aa.new w #[.bool mp.1, .slice mp.2.1 mp.2.2.1 mp.2.2.2, .bool mq.1, .slice mq.2.1 mq.2.2.1 mq.2.2.2, .bool mr.1, .slice mr.2.1 mr.2.2.1 mr.2.2.2, .bool ms.1, .slice ms.2.1 ms.2.2.1 ms.2.2.2] 138;have HLA := H5 (HL.out.below hb0);have HCA := H5 (aU.bC (S := S.own) hb0);have HIA : Hid (ah (w.alloc (.cells #[.bool mp.1, .slice mp.2.1 mp.2.2.1 mp.2.2.2, .bool mq.1, .slice mq.2.1 mq.2.2.1 mq.2.2.2, .bool mr.1, .slice mr.2.1 mr.2.2.1 mr.2.2.2, .bool ms.1, .slice ms.2.1 ms.2.2.1 ms.2.2.2] 138)) LA (av mp) a /\ ah (w.alloc (.cells #[.bool mp.1, .slice mp.2.1 mp.2.2.1 mp.2.2.2, .bool mq.1, .slice mq.2.1 mq.2.2.1 mq.2.2.2, .bool mr.1, .slice mr.2.1 mr.2.2.1 mr.2.2.2, .bool ms.1, .slice ms.2.1 ms.2.2.1 ms.2.2.2] 138)) LA (av mq) b /\ ah (w.alloc (.cells #[.bool mp.1, .slice mp.2.1 mp.2.2.1 mp.2.2.2, .bool mq.1, .slice mq.2.1 mq.2.2.1 mq.2.2.2, .bool mr.1, .slice mr.2.1 mr.2.2.1 mr.2.2.2, .bool ms.1, .slice ms.2.1 ms.2.2.1 ms.2.2.2] 138)) LA (av mr) c /\ ah (w.alloc (.cells #[.bool mp.1, .slice mp.2.1 mp.2.2.1 mp.2.2.2, .bool mq.1, .slice mq.2.1 mq.2.2.1 mq.2.2.2, .bool mr.1, .slice mr.2.1 mr.2.2.1 mr.2.2.2, .bool ms.1, .slice ms.2.1 ms.2.2.1 ms.2.2.2] 138)) LA (av ms) d) := H5 ⟨HI.out.1.below hb0, HI.out.2.1.below hb0, HI.out.2.2.1.below hb0, HI.out.2.2.2.below hb0⟩;have HRA := H5 hr0;have c1 : (w.alloc (.cells #[.bool mp.1, .slice mp.2.1 mp.2.2.1 mp.2.2.2, .bool mq.1, .slice mq.2.1 mq.2.2.1 mq.2.2.2, .bool mr.1, .slice mr.2.1 mr.2.2.1 mr.2.2.2, .bool ms.1, .slice ms.2.1 ms.2.2.1 ms.2.2.2] 138)).cell? ⟨S.lb, 1, none⟩ = some (.slice (some ⟨S.sb, 0, none⟩) 1 1) := HLA.out.one hS;clear hb0 hr0;go_enter Tryz.func131, Tryz.ntmps131;go_wp2;generalize w.alloc (.cells #[.bool mp.1, .slice mp.2.1 mp.2.2.1 mp.2.2.2, .bool mq.1, .slice mq.2.1 mq.2.2.1 mq.2.2.2, .bool mr.1, .slice mr.2.1 mr.2.2.1 mr.2.2.2, .bool ms.1, .slice ms.2.1 ms.2.2.1 ms.2.2.2] 138) = wA at *;go_loopw [15] (fun ct_ wr => (ct_ = .int .i64 0 /\ Hid (aI wr S) /\ Hid (aU S.own w wr) /\ Hid (ah wr LA (av mp) a /\ ah wr LA (av mq) b /\ ah wr LA (av mr) c /\ ah wr LA (av ms) d) /\ Hid (aa wr w.heap.size 138 [.bool mp.1, .slice mp.2.1 mp.2.2.1 mp.2.2.2, .bool mq.1, .slice mq.2.1 mq.2.2.1 mq.2.2.2, .bool mr.1, .slice mr.2.1 mr.2.2.1 mr.2.2.2, .bool ms.1, .slice ms.2.1 ms.2.2.1 ms.2.2.2])) \/ (ct_ = .int .i64 1 /\ Hid (aI wr (S.aB (kF S.R i j a b c d hi hj))) /\ Hid (aU S.own w wr))) (fun c _ => 1 - (intOf c).toNat)
 case atStart => exact .inl ⟨rfl, HLA, HCA, HIA, HRA⟩
 case round =>
  clear c1;rcases hrel with ⟨rfl, hL, hC, hIr, hRr⟩ | ⟨rfl, hL, hC⟩
  . skip;have hfn := hL.out.fns.1;have s0 : wr.cell? ⟨S.sb, 0, none⟩ = some (.func (.func 111) #[] #[.pointer (some ⟨S.g, 0, none⟩)]) := hfn 0 Cr;have s1 : wr.cell? ⟨S.sb, 1, none⟩ = some (.func (.func 112) #[] #[.pointer (some ⟨S.g, 0, none⟩)]) := hfn 1 Cr;have s2 : wr.cell? ⟨S.sb, 2, none⟩ = some (.func (.func 113) #[] #[.pointer (some ⟨S.g, 0, none⟩)]) := hfn 2 Cr;have s3 : wr.cell? ⟨S.sb, 3, none⟩ = some (.func (.func 115) #[] #[.pointer (some ⟨S.g, 0, none⟩)]) := hfn 3 Cr;clear hfn;have hb1 : Below wr.heap.size wr (wr.alloc (.cells #[.func (.func 111) #[] #[.pointer (some ⟨S.g, 0, none⟩)], .func (.func 112) #[] #[.pointer (some ⟨S.g, 0, none⟩)], .func (.func 113) #[] #[.pointer (some ⟨S.g, 0, none⟩)], .func (.func 115) #[] #[.pointer (some ⟨S.g, 0, none⟩)]] 125)) := (Below.refl _ _).alloc (Ct _) _;have hA1 := H5 (hIr.out.1.below hb1);have hB1 := H5 (hIr.out.2.1.below hb1);have hC1' := H5 (hIr.out.2.2.1.below hb1);have hD1 := H5 (hIr.out.2.2.2.below hb1);have hR1 := hRr.out.below hb1 hRr.out.lt;have k0 := hR1.cell 0;have k1 := hR1.cell 1;have k2 := hR1.cell 2;have k3 := hR1.cell 3;have k4 := hR1.cell 4;have k5 := hR1.cell 5;have k6 := hR1.cell 6;have k7 := hR1.cell 7;have hL1 := H5 (hL.out.below hb1);have hC1 := H5 (hC.out.below hb1);have HB1 := H5 hb1;go_wp2_with fail
    refine (vI S i j mp mq mr ms a b c d LA LB _ hL1.out.sd hi hj hij hA1.out hB1.out hC1'.out hD1.out Hl.out HXL.out HYL.out hLab hlen).mono ?_;rintro e w4 ⟨rfl, hL4, hC4⟩;have HL4 := H5 (hL1.out.bU hS hL4 hC4 (by unfold kF; rw [aE, aE]));have HC4 := H5 (hC1.out.trans hC4.qN);clear hL4 hC4 s0 s1 s2 s3;go_wp2;go_roundw
    case rel => exact .inr ⟨by go_num, HL4, HC4⟩
    case measure => simp [intOf]
  . go_wp2;refine bodyPost_end (results_none (by kernel_rfl) _ _ _) rfl ?_;exact ⟨rfl, hL.out, hC.out⟩
theorem BN (S : cR) (i j : Nat) (mp mq mr ms : P4) (a b c d : Int) (LA LB : Nat) (w : World) (h : aI w S) (hi : i < S.R.length) (hj : j < S.R.length) (hij : i ≠ j) (hA : ah w LA (av mp) a) (hB : ah w LA (av mq) b) (hC : ah w LA (av mr) c) (hD : ah w LA (av ms) d) (hl : S.R[i].xs.length = S.R[j].xs.length) (hxL : ∀ x ∈ S.R[i].xs, ag x.natAbs <= LB) (hyL : ∀ y ∈ S.R[j].xs, ag y.natAbs <= LB) (hLab : LA + LB <= 17592186044415) (hlen : S.R[i].xs.length <= 4611686018427387903) (hG : S.jX) (hF : S.yN) (hLA2 : LA <= 13194139533312) (hdet : a * d - b * c = 1) :
 Calls Tryz.prog 131 #[.pointer (some ⟨S.lb, 0, none⟩), .int .i64 (i : Int), .int .i64 (j : Int), .agg #[.bool mp.1, .slice mp.2.1 mp.2.2.1 mp.2.2.2, .bool mq.1, .slice mq.2.1 mq.2.2.1 mq.2.2.2, .bool mr.1, .slice mr.2.1 mr.2.2.1 mr.2.2.2, .bool ms.1, .slice ms.2.1 ms.2.2.1 ms.2.2.2]] w fun e w' => e = .returned (.tuple #[]) /\ aI w' (S.aB (kF S.R i j a b c d hi hj)) /\ aU S.own w w' := by
 rcases hS : S.two with _ | t
 . exact zT S i j mp mq mr ms a b c d LA LB w h hi hj hij hA hB hC hD hl hxL hyL hLab hlen hS
 . exact (hG t hS).no.elim
end Go.Proofs.YtjjlmfmoihooiaaGreat
