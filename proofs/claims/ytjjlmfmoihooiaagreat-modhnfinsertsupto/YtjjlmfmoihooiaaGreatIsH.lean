/- Part 8 of 9 of the proof that the law ModhnfInserts returns true for every input of bulk at most 1048576 and leaves its arguments as they were: here the contracts of the functions that it calls, and plain lemmas. -/
import Derived.Maps.AppendAt
import Derived.Deep.Onto
import Derived.Test.YtjjlmfmoihooiaaGreatIsG
set_option linter.all false
set_option maxRecDepth 100000
set_option maxHeartbeats 8000000
namespace Go.Proofs.YtjjlmfmoihooiaaGreat
def Gp (n k : Nat) (E : Mx) (v u : Nat -> Int) : Prop := ∃ (x : Nat -> Int) (c : Int), (∀ t < k, x t = 0) /\ ∀ i, u i = sm n (fun t => x t * E t i) + c * v i
structure Cl (P : (Nat -> Int) -> Prop) : Prop where
 zero : P fun _ => 0
 add : ∀ u w, P u -> P w -> P fun i => u i + w i
 smul : ∀ c u, P u -> P fun i => c * u i
theorem Cl.sm {P : (Nat -> Int) -> Prop} (h : Cl P) (x : Nat -> Int) (F : Mx) : ∀ m, (∀ t < m, x t ≠ 0 -> P (F t)) -> P fun i => sm m fun t => x t * F t i
 | 0, _ => h.zero
 | m + 1, hF => by
  have h1 := Cl.sm h x F m fun t ht => hF t (by omega);by_cases hx : x m = 0
  · have e : (fun i => Go.Proofs.YtjjlmfmoihooiaaGreat.sm (m + 1) fun t => x t * F t i) = fun i => Go.Proofs.YtjjlmfmoihooiaaGreat.sm m fun t => x t * F t i := by funext i; rw [Go.Proofs.YtjjlmfmoihooiaaGreat.sm]; simp [hx]
    rw [e]; exact h1
  · exact h.add _ _ h1 (h.smul _ _ (hF m (by omega) hx))
theorem Gp.cl (n k : Nat) (E : Mx) (v : Nat -> Int) : Cl (Gp n k E v) :=
 ⟨⟨fun _ => 0, 0, fun _ _ => rfl, fun i => by rw [c9 fun t _ => Int.zero_mul _]; simp⟩,
  fun u w ⟨x, c, h1, h2⟩ ⟨y, e, h3, h4⟩ => ⟨fun t => x t + y t, c + e, fun t ht => by show x t + y t = 0; rw [h1 t ht, h3 t ht]; rfl, fun i => by
   show u i + w i = _;rw [h2, h4, show (fun t => (x t + y t) * E t i) = fun t => x t * E t i + y t * E t i from by funext t; rw [Int.add_mul], kQ, Int.add_mul]; omega⟩,
  fun a u ⟨x, c, h1, h2⟩ => ⟨fun t => a * x t, a * c, fun t ht => by show a * x t = 0; rw [h1 t ht, Int.mul_zero], fun i => by
   show a * u i = _;rw [h2, show (fun t => a * x t * E t i) = fun t => a * (x t * E t i) from by funext t; rw [Int.mul_assoc], gM, Int.mul_add, Int.mul_assoc]⟩⟩
theorem Gp.row {n k t : Nat} {E : Mx} {v : Nat -> Int} (ht : t < n) (hk : k <= t) : Gp n k E v (E t) :=
 ⟨fun s => if s = t then 1 else 0, 0, fun s hs => if_neg (by omega), fun i => by
  rw [gH t ht fun s _ h => by show (if s = t then (1 : Int) else 0) * _ = 0; rw [if_neg h, Int.zero_mul]];show _ = (if t = t then (1 : Int) else 0) * _ + _;rw [if_pos rfl]; simp⟩
theorem Gp.vec {n k : Nat} {E : Mx} {v : Nat -> Int} : Gp n k E v v :=
 ⟨fun _ => 0, 1, fun _ _ => rfl, fun i => by rw [c9 fun t _ => Int.zero_mul _]; simp⟩
theorem Gp.least {P : (Nat -> Int) -> Prop} (h : Cl P) {n k : Nat} {E : Mx} {v u : Nat -> Int} (hu : Gp n k E v u) (hE : ∀ t < n, k <= t -> P (E t)) (hv : P v) : P u := by
 obtain ⟨x, c, h1, h2⟩ := hu;have e : u = fun i => Go.Proofs.YtjjlmfmoihooiaaGreat.sm n (fun t => x t * E t i) + c * v i := funext h2;rw [e];refine h.add _ _ (h.sm x E n fun t ht hx => hE t ht ?_) (h.smul c v hv);rcases Nat.lt_or_ge t k with h3 | h3
 · exact absurd (h1 t h3) hx
 · exact h3
theorem Cl.sub {P : (Nat -> Int) -> Prop} (h : Cl P) {u w : Nat -> Int} (hu : P u) (hw : P w) : P fun i => u i - w i := by
 have := h.add _ _ hu (h.smul (-1) w hw);have e : (fun i => u i + -1 * w i) = fun i => u i - w i := by funext i; omega
 rw [e] at this; exact this
def eD (d : Int) (i : Nat) : Nat -> Int := fun k => if k = i then d else 0
theorem Cl.xc {P : (Nat -> Int) -> Prop} (h : Cl P) {d : Int} {n j : Nat} (hd : ∀ i < n, j <= i -> P (eD d i)) {u c : Nat -> Int} (h1 : ∀ i, j <= i -> i < n -> u i = d * c i) (h2 : ∀ i, i < j ∨ n <= i -> u i = 0) : P u := by
 have e : u = fun k => Go.Proofs.YtjjlmfmoihooiaaGreat.sm n fun i => (if j <= i then c i else 0) * eD d i k := by
  funext k;by_cases hk : j <= k /\ k < n
  · rw [gH k hk.2 fun t _ ht => by show (if j <= t then c t else 0) * (if k = t then d else 0) = 0; rw [if_neg (c := k = t) (fun e => ht e.symm), Int.mul_zero]];show u k = (if j <= k then c k else 0) * (if k = k then d else 0);rw [if_pos hk.1, if_pos rfl, h1 k hk.1 hk.2, Int.mul_comm]
  · rw [h2 k (by omega)];refine (c9 fun t ht => ?_).symm;show (if j <= t then c t else 0) * (if k = t then d else 0) = 0;by_cases e : k = t
    · subst e; rw [if_neg (by omega), Int.zero_mul]
    · rw [if_neg e, Int.mul_zero]
 rw [e];exact h.sm _ _ n fun t ht hx => hd t ht (by
  rcases Nat.lt_or_ge t j with h3 | h3
  · exact absurd (if_neg (by omega)) hx
  · exact h3)
theorem Gp.mono {n k k' : Nat} {E : Mx} {v u : Nat -> Int} (h : Gp n k E (fun _ => 0) u) (hk : k' <= k) : Gp n k' E v u :=
 h.least (Gp.cl n k' E v) (fun t ht h1 => Gp.row ht (by omega)) (Gp.cl n k' E v).zero
theorem Gp.other {n k j : Nat} {E : Mx} {R v u : Nat -> Int} (h : Gp n (j + 1) E (fun _ => 0) u) (hk : k <= j) : Gp n k (cD E j R) v u :=
 h.least (Gp.cl n k _ v) (fun t ht h1 => by
  have := Gp.row (n := n) (k := k) (E := cD E j R) (v := v) ht (by omega)
  rwa [aT E (by omega)] at this) (Gp.cl n k _ v).zero
section
variable {n j k : Nat} {d : Int} {E : Mx} {v u : Nat -> Int}
theorem Ae {x y p q : Int} {R V D D' : Nat -> Int} (hj : j < n) (hk : k <= j) (hpq : p * x + q * y = 1) (hR : ∀ i, R i = x * E j i + y * v i - D i) (hV : ∀ i, V i = p * v i - q * E j i - D' i)
 (hD : Gp n (j + 1) E (fun _ => 0) D) (hD' : Gp n (j + 1) E (fun _ => 0) D') : Gp n k E v u ↔ Gp n k (cD E j R) V u := by
 have c1 := Gp.cl n k E v;have c2 := Gp.cl n k (cD E j R) V;have r1 : Gp n k E v (E j) := Gp.row hj hk;have r2 : Gp n k (cD E j R) V R := by
  have := Gp.row (n := n) (k := k) (E := cD E j R) (v := V) hj hk
  rwa [bP] at this
 constructor
 · intro h;refine h.least c2 (fun t ht h1 => ?_) ?_
   · by_cases e : t = j
     · subst e;have h2 := c2.add _ _ (c2.sub (c2.smul p _ r2) (c2.smul y _ Gp.vec)) (c2.sub (c2.smul p _ (hD.other hk)) (c2.smul y _ (hD'.other hk)));have e : (fun i => p * R i - y * V i + (p * D i - y * D' i)) = E t := by
        funext i;rw [hR, hV];have : p * (x * E t i + y * v i - D i) - y * (p * v i - q * E t i - D' i) + (p * D i - y * D' i) = (p * x + q * y) * E t i := by
         rw [Int.mul_sub, Int.mul_add, Int.mul_sub, Int.mul_sub, Int.add_mul, <- Int.mul_assoc, <- Int.mul_assoc, <- Int.mul_assoc, <- Int.mul_assoc, Int.mul_comm y p, Int.mul_comm y q]; omega
        rw [this, hpq, Int.one_mul]
       rw [e] at h2; exact h2
     · have := Gp.row (n := n) (k := k) (E := cD E j R) (v := V) ht h1
       rwa [aT E e] at this
   · have h2 := c2.add _ _ (c2.add _ _ (c2.smul q _ r2) (c2.smul x _ Gp.vec)) (c2.add _ _ (c2.smul q _ (hD.other hk)) (c2.smul x _ (hD'.other hk)));have e : (fun i => q * R i + x * V i + (q * D i + x * D' i)) = v := by
      funext i;rw [hR, hV];have : q * (x * E j i + y * v i - D i) + x * (p * v i - q * E j i - D' i) + (q * D i + x * D' i) = (p * x + q * y) * v i := by
       rw [Int.mul_sub, Int.mul_add, Int.mul_sub, Int.mul_sub, Int.add_mul, <- Int.mul_assoc, <- Int.mul_assoc, <- Int.mul_assoc, <- Int.mul_assoc, Int.mul_comm x p, Int.mul_comm x q]; omega
      rw [this, hpq, Int.one_mul]
     rw [e] at h2; exact h2
 · intro h;refine h.least c1 (fun t ht h1 => ?_) ?_
   · by_cases e : t = j
     · subst e;rw [bP];have h2 := c1.sub (c1.add _ _ (c1.smul x _ r1) (c1.smul y _ Gp.vec)) (hD.mono (Nat.le_succ_of_le hk) (v := v));have e : (fun i => x * E t i + y * v i - D i) = R := (funext hR).symm;rw [e] at h2; exact h2
     · rw [aT E e]; exact Gp.row ht h1
   · have h2 := c1.sub (c1.sub (c1.smul p _ Gp.vec) (c1.smul q _ r1)) (hD'.mono (Nat.le_succ_of_le hk) (v := v));have e : (fun i => p * v i - q * E j i - D' i) = V := (funext hV).symm;rw [e] at h2; exact h2
theorem pU {c : Int} {V : Nat -> Int} (hk : k <= j) (hV : ∀ i, V i = v i - c * eD d j i) (hd : Gp n j E (fun _ => 0) (eD d j)) : Gp n k E v u ↔ Gp n k E V u := by
 have c1 := Gp.cl n k E v;have c2 := Gp.cl n k E V;constructor
 · intro h;refine h.least c2 (fun t ht h1 => Gp.row ht h1) ?_;have h2 := c2.add _ _ Gp.vec (c2.smul c _ (hd.mono hk (v := V)));have e : (fun i => V i + c * eD d j i) = v := by funext i; rw [hV]; omega
   rw [e] at h2; exact h2
 · intro h;refine h.least c1 (fun t ht h1 => Gp.row ht h1) ?_;have h2 := c1.sub Gp.vec (c1.smul c _ (hd.mono hk (v := v)));have e : (fun i => v i - c * eD d j i) = V := (funext hV).symm;rw [e] at h2; exact h2
end
structure Tri (n : Nat) (d : Int) (E : Mx) : Prop where
 low : ∀ t < n, ∀ i < t, E t i = 0
 pos : ∀ t < n, 0 < E t t /\ E t t <= d
 red : ∀ t < n, ∀ i, t < i -> 0 <= E t i /\ E t i < d
structure gQ (n : Nat) (d : Int) (E0 : Mx) (v0 : Nat -> Int) (j : Nat) (E : Mx) (v : Nat -> Int) : Prop where
 tri : Tri n d E
 vz : ∀ i < j, v i = 0
 fb : ∀ u, Gp n 0 E0 v0 u ↔ Gp n 0 E v u
 dk : ∀ i < n, j <= i -> Gp n i E (fun _ => 0) (eD d i)
 dk' : ∀ i < n, i < j -> Gp n i E v (eD d i)
section
variable {n j : Nat} {d : Int} {E0 E : Mx} {v0 v : Nat -> Int}
theorem gQ.skip {V : Nat -> Int} (h : gQ n d E0 v0 j E v) (hj : j < n) (hV : ∀ i, V i = if i = j then v j % d else v i) (h0 : v j % d = 0) : gQ n d E0 v0 (j + 1) E V := by
 have hd := h.dk j hj (Nat.le_refl _);have e : ∀ i, V i = v i - v j / d * eD d j i := fun i => by
  rw [hV]; unfold eD;by_cases q : i = j
  · subst q; rw [if_pos rfl, if_pos rfl];have := Int.ediv_mul_add_emod (v i) d; omega
  · rw [if_neg q, if_neg q, Int.mul_zero, Int.sub_zero]
 refine ⟨h.tri, fun i hi => ?_, fun u => (h.fb u).trans (pU (Nat.zero_le _) e hd), fun i hi h1 => h.dk i hi (by omega), fun i hi h1 => ?_⟩
 · rw [hV];by_cases q : i = j
   · rw [if_pos q]; exact h0
   · rw [if_neg q]; exact h.vz i (by omega)
 · by_cases q : i = j
   · subst q; exact hd.mono (Nat.le_refl _)
   · exact (pU (k := i) (by omega) e hd).1 (h.dk' i hi (by omega))
theorem gQ.mod {V : Nat -> Int} (h : gQ n d E0 v0 j E v) (hj : j < n) (hV : ∀ i, V i = if i = j then v j % d else v i) : gQ n d E0 v0 j E V := by
 have hd := h.dk j hj (Nat.le_refl _);have e : ∀ i, V i = v i - v j / d * eD d j i := fun i => by
  rw [hV]; unfold eD;by_cases q : i = j
  · subst q; rw [if_pos rfl, if_pos rfl];have := Int.ediv_mul_add_emod (v i) d; omega
  · rw [if_neg q, if_neg q, Int.mul_zero, Int.sub_zero]
 refine ⟨h.tri, fun i hi => ?_, fun u => (h.fb u).trans (pU (Nat.zero_le _) e hd), h.dk, fun i hi h1 => (pU (k := i) (by omega) e hd).1 (h.dk' i hi h1)⟩;rw [hV, if_neg (by omega)]; exact h.vz i hi
theorem gQ.mix {g x y p q : Int} {R V : Nat -> Int} (h : gQ n d E0 v0 j E v) (hj : j < n) (hd0 : 0 < d) (hvn : ∀ i, n <= i -> v i = 0) (hEn : ∀ i, n <= i -> E j i = 0) (hb : 0 < v j) (hE : eF (E j j) (v j) g x y) (hp : E j j = g * p) (hq : v j = g * q)
 (hR : ∀ i, R i = if i < j ∨ n <= i then 0 else if i = j then x * E j i + y * v i else (x * E j i + y * v i) % d) (hV : ∀ i, V i = if i < j ∨ n <= i then 0 else if i = j then p * v i - q * E j i else (p * v i - q * E j i) % d) :
 gQ n d E0 v0 (j + 1) (cD E j R) V := by
 have ha := h.tri.pos j hj;unfold eF at hE;rw [if_neg (by omega)] at hE;obtain ⟨hg, hx0, hx1, hab⟩ := hE;have hg0 : 0 < g := by
  rcases Int.lt_trichotomy g 0 with h1 | h1 | h1
  · rw [hg] at h1; omega
  · rw [h1, Int.zero_mul] at hp; omega
  · exact h1
 have hpq : p * x + q * y = 1 := by
  have : g * (p * x + q * y) = g * 1 := by rw [Int.mul_add, <- Int.mul_assoc, <- Int.mul_assoc, <- hp, <- hq, hab, Int.mul_one]
  exact Int.eq_of_mul_eq_mul_left (by omega) this
 have hmul : ∀ f : Nat -> Int, Gp n (j + 1) E (fun _ => 0) fun i => if i < j + 1 ∨ n <= i then 0 else d * (f i / d) := fun f =>
  (Gp.cl n (j + 1) E _).xc (d := d) (n := n) (j := j + 1) (c := fun i => f i / d) (fun i hi h1 => (h.dk i hi (by omega)).least (Gp.cl n (j + 1) E _) (fun t ht h2 => Gp.row ht (by omega)) (Gp.cl n (j + 1) E _).zero)
   (fun i h1 h2 => if_neg (by omega)) (fun i h1 => if_pos h1)
 have eR : ∀ i, R i = x * E j i + y * v i - (fun i => if i < j + 1 ∨ n <= i then 0 else d * ((x * E j i + y * v i) / d)) i := fun i => by
  show R i = _ - (if i < j + 1 ∨ n <= i then 0 else d * ((x * E j i + y * v i) / d));rw [hR];by_cases h1 : i < j
  · rw [if_pos (.inl h1), if_pos (.inl (by omega)), h.tri.low j hj i h1, h.vz i h1]; simp
  · by_cases h2 : n <= i
    · rw [if_pos (.inr h2), if_pos (.inr h2), hEn i h2, hvn i h2]; simp
    · rw [if_neg (by omega)];by_cases h3 : i = j
      · rw [if_pos h3, if_pos (.inl (by omega))]; omega
      · rw [if_neg h3, if_neg (by omega)]; have := Int.mul_ediv_add_emod (x * E j i + y * v i) d; omega
 have eV : ∀ i, V i = p * v i - q * E j i - (fun i => if i < j + 1 ∨ n <= i then 0 else d * ((p * v i - q * E j i) / d)) i := fun i => by
  show V i = _ - (if i < j + 1 ∨ n <= i then 0 else d * ((p * v i - q * E j i) / d));rw [hV];by_cases h1 : i < j
  · rw [if_pos (.inl h1), if_pos (.inl (by omega)), h.tri.low j hj i h1, h.vz i h1]; simp
  · by_cases h2 : n <= i
    · rw [if_pos (.inr h2), if_pos (.inr h2), hEn i h2, hvn i h2]; simp
    · rw [if_neg (by omega)];by_cases h3 : i = j
      · rw [if_pos h3, if_pos (.inl (by omega))]; omega
      · rw [if_neg h3, if_neg (by omega)]; have := Int.mul_ediv_add_emod (p * v i - q * E j i) d; omega
 have key : ∀ k, k <= j -> ∀ u, Gp n k E v u ↔ Gp n k (cD E j R) V u := fun k hk u => Ae hj hk hpq eR eV (hmul _) (hmul _);have hRj : R j = g := by rw [hR, if_neg (by omega), if_pos rfl, Int.mul_comm x, Int.mul_comm y]; exact hab
 have hVj : V j = 0 := by
  rw [hV, if_neg (by omega), if_pos rfl, hq, hp, <- Int.mul_assoc, <- Int.mul_assoc, Int.mul_comm p g, Int.mul_comm q g, Int.mul_right_comm]; omega
 have hgd : g <= d := by
  have : g <= E j j := Int.le_of_dvd ha.1 ⟨p, hp⟩;omega
 refine ⟨⟨fun t ht i hi => ?_, fun t ht => ?_, fun t ht i hi => ?_⟩, fun i hi => ?_, fun u => (h.fb u).trans (key 0 (Nat.zero_le _) u), fun i hi h1 => ?_, fun i hi h1 => ?_⟩
 · by_cases e : t = j
   · subst e; rw [bP, hR, if_pos (.inl hi)]
   · rw [aT E e]; exact h.tri.low t ht i hi
 · by_cases e : t = j
   · subst e; rw [bP, hRj]; exact ⟨hg0, hgd⟩
   · rw [aT E e]; exact h.tri.pos t ht
 · by_cases e : t = j
   · subst e; rw [bP, hR];by_cases h1 : i < t ∨ n <= i
     · rw [if_pos h1]; exact ⟨Int.le_refl _, hd0⟩
     · rw [if_neg h1, if_neg (by omega)]; exact ⟨Int.emod_nonneg _ (by omega), Int.emod_lt_of_pos _ hd0⟩
   · rw [aT E e]; exact h.tri.red t ht i hi
 · by_cases e : i = j
   · rw [e]; exact hVj
   · rw [hV, if_pos (.inl (by omega))]
 · refine (h.dk i hi (by omega)).least (Gp.cl n i _ _) (fun t ht h2 => ?_) (Gp.cl n i _ _).zero;have := Gp.row (n := n) (k := i) (E := cD E j R) (v := fun _ => 0) ht h2
   rwa [aT E (by omega)] at this
 · by_cases e : i = j
   · subst e;exact (key i (Nat.le_refl _) _).1 ((h.dk i hi (Nat.le_refl _)).mono (Nat.le_refl _))
   · exact (key i (by omega) _).1 (h.dk' i hi (by omega))
theorem gQ.done (h : gQ n d E0 v0 n E v) (hvn : ∀ i, n <= i -> v i = 0) : Tri n d E /\ (∀ u, Gp n 0 E0 v0 u ↔ Gp n 0 E (fun _ => 0) u) /\ ∀ i < n, Gp n i E (fun _ => 0) (eD d i) := by
 have hv : v = fun _ => 0 := by
  funext i;rcases Nat.lt_or_ge i n with h1 | h1
  · exact h.vz i h1
  · exact hvn i h1
 have h1 := h.fb;have h2 := h.dk';rw [hv] at h1 h2;exact ⟨h.tri, h1, fun i hi => h2 i hi hi⟩
end
def LD (r : Nat) (A : Mx) (d : Int) (n : Nat) (u : Nat -> Int) : Prop := ∃ x z : Nat -> Int, ∀ i, u i = sm r (fun t => x t * A t i) + if i < n then d * z i else 0
theorem LD.cl (r : Nat) (A : Mx) (d : Int) (n : Nat) : Cl (LD r A d n) :=
 ⟨⟨fun _ => 0, fun _ => 0, fun i => by rw [c9 fun t _ => Int.zero_mul _]; simp⟩,
  fun u w ⟨x, z, h1⟩ ⟨y, e, h2⟩ => ⟨fun t => x t + y t, fun i => z i + e i, fun i => by
   show u i + w i = _;rw [h1, h2, show (fun t => (x t + y t) * A t i) = fun t => x t * A t i + y t * A t i from by funext t; rw [Int.add_mul], kQ];split
   · rw [Int.mul_add]; omega
   · omega⟩,
  fun c u ⟨x, z, h1⟩ => ⟨fun t => c * x t, fun i => c * z i, fun i => by
   show c * u i = _;rw [h1, show (fun t => c * x t * A t i) = fun t => c * (x t * A t i) from by funext t; rw [Int.mul_assoc], gM, Int.mul_add];split
   · rw [Int.mul_left_comm]
   · rw [Int.mul_zero]⟩⟩
theorem LD.row {r t : Nat} {A : Mx} {d : Int} {n : Nat} (h : t < r) : LD r A d n (A t) :=
 ⟨fun s => if s = t then 1 else 0, fun _ => 0, fun i => by
  rw [gH t h fun s _ h => by show (if s = t then (1 : Int) else 0) * _ = 0; rw [if_neg h, Int.zero_mul]];show _ = (if t = t then (1 : Int) else 0) * _ + _;rw [if_pos rfl]; simp⟩
theorem LD.eD {r i : Nat} {A : Mx} {d : Int} {n : Nat} (h : i < n) : LD r A d n (eD d i) :=
 ⟨fun _ => 0, fun k => if k = i then 1 else 0, fun k => by
  rw [c9 fun t _ => Int.zero_mul _];unfold Go.Proofs.YtjjlmfmoihooiaaGreat.eD;by_cases e : k = i
  · subst e; rw [if_pos rfl, if_pos h]; show d = 0 + d * (if k = k then 1 else 0); rw [if_pos rfl]; omega
  · rw [if_neg e]; simp [e]⟩
theorem LD.least {P : (Nat -> Int) -> Prop} (h : Cl P) {r n : Nat} {A : Mx} {d : Int} {u : Nat -> Int} (hu : LD r A d n u) (hA : ∀ t < r, P (A t)) (hd : ∀ i < n, P (Go.Proofs.YtjjlmfmoihooiaaGreat.eD d i)) : P u := by
 obtain ⟨x, z, h1⟩ := hu;have e : u = fun i => Go.Proofs.YtjjlmfmoihooiaaGreat.sm r (fun t => x t * A t i) + if i < n then d * z i else 0 := funext h1;rw [e];exact h.add _ _ (h.sm x A r fun t ht _ => hA t ht) (h.xc (d := d) (n := n) (j := 0) (c := z) (fun i hi _ => hd i hi) (fun i _ hi => if_pos hi) (fun i hi => if_neg (by omega)))
structure mE (n : Nat) (d : Int) (A : Mx) (i : Nat) (E : Mx) : Prop where
 tri : Tri n d E
 dk : ∀ k < n, Gp n k E (fun _ => 0) (eD d k)
 lat : ∀ u, Gp n 0 E (fun _ => 0) u ↔ LD i A d n u
theorem mE.start {n : Nat} {d : Int} (hd : 0 < d) (A : Mx) {E : Mx} (hE : ∀ t < n, ∀ i, E t i = if i = t then d else 0) : mE n d A 0 E := by
 have hr : ∀ t, t < n -> E t = eD d t := fun t ht => funext fun i => hE t ht i;refine ⟨⟨fun t ht i hi => by rw [hE t ht, if_neg (by omega)], fun t ht => by rw [hE t ht, if_pos rfl]; omega, fun t ht i hi => by rw [hE t ht, if_neg (by omega)]; omega⟩, fun k hk => ?_, fun u => ⟨fun h => ?_, fun h => ?_⟩⟩
 · have := Gp.row (n := n) (k := k) (E := E) (v := fun _ => 0) hk (Nat.le_refl _)
   rwa [hr k hk] at this
 · exact h.least (LD.cl ..) (fun t ht _ => by rw [hr t ht]; exact LD.eD ht) (LD.cl ..).zero
 · exact h.least (Gp.cl ..) (fun t ht => by omega) fun i hi => by
    have := Gp.row (n := n) (k := 0) (E := E) (v := fun _ => 0) hi (Nat.zero_le _)
    rwa [hr i hi] at this
theorem mE.open {n i : Nat} {d : Int} {A E : Mx} (h : mE n d A i E) : gQ n d E (A i) 0 E (A i) :=
 ⟨h.tri, fun i hi => by omega, fun u => Iff.rfl, fun i hi _ => h.dk i hi, fun i hi h1 => by omega⟩
theorem mE.next {n i : Nat} {d : Int} {A E E' : Mx} {v : Nat -> Int} (h : mE n d A i E) (hp : gQ n d E (A i) n E' v) (hvn : ∀ q, n <= q -> v q = 0) : mE n d A (i + 1) E' := by
 obtain ⟨h1, h2, h3⟩ := hp.done hvn;refine ⟨h1, h3, fun u => (h2 u).symm.trans ⟨fun hu => ?_, fun hu => ?_⟩⟩
 · refine hu.least (LD.cl ..) (fun t ht _ => ?_) (LD.row (by omega));have := (h.lat (E t)).1 (Gp.row ht (Nat.zero_le _));exact this.least (LD.cl ..) (fun s hs => LD.row (by omega)) fun q hq => LD.eD hq
 · refine hu.least (Gp.cl ..) (fun t ht => ?_) fun q hq => (h.dk q hq).mono (Nat.zero_le _);by_cases e : t = i
   · subst e; exact Gp.vec
   · exact ((h.lat (A t)).2 (LD.row (by omega))).mono (Nat.zero_le _)
structure n0 (n : Nat) (d : Int) (r : Nat) (A : Mx) (i j : Nat) (E : Mx) : Prop where
 low : ∀ t < n, ∀ k < t, E t k = 0
 pos : ∀ t < n, 0 < E t t /\ E t t <= d
 up : ∀ t < i, ∀ k, t < k -> 0 <= E t k /\ E t k < d
 dn : ∀ t < n, i < t -> ∀ k < n, t < k -> 0 <= E t k /\ E t k < E k k
 out : ∀ t < n, ∀ k, n <= k -> E t k = 0
 at_ : i < n -> ∀ k, i < k -> k < j -> k < n -> 0 <= E i k /\ E i k < E k k
 lat : ∀ u, Gp n 0 E (fun _ => 0) u ↔ LD r A d n u
theorem n0.start {n r : Nat} {d : Int} {A E : Mx} (h : mE n d A r E) (hd : 0 < d) (ho : ∀ t < n, ∀ k, n <= k -> E t k = 0) : n0 n d r A n n E :=
 ⟨h.tri.low, h.tri.pos, fun t ht k hk => h.tri.red t ht k hk, fun t ht h1 => by omega, ho, fun h1 => by omega, h.lat⟩
section
variable {n r i j : Nat} {d : Int} {A E : Mx}
theorem n0.above (h : n0 n d r A (i + 1) n E) (hi : i < n) : n0 n d r A i (i + 1) E := by
 refine ⟨h.low, h.pos, fun t ht k hk => h.up t (by omega) k hk, fun t ht h1 k hk h2 => ?_, h.out, fun _ k h1 h2 => by omega, h.lat⟩;by_cases e : t = i + 1
 · subst e; exact h.at_ ht k h2 hk hk
 · exact h.dn t ht (by omega) k hk h2
theorem n0.skip (h : n0 n d r A i j E) (hi : i < n) (hj : j < n) (hij : i < j) (h0 : (E i j).fdiv (E j j) = 0) : n0 n d r A i (j + 1) E := by
 refine ⟨h.low, h.pos, h.up, h.dn, h.out, fun hi k h1 h2 h3 => ?_, h.lat⟩;by_cases e : k = j
 · subst e;have hp := h.pos k hj;have h4 := Int.mul_fdiv_add_fmod (E i k) (E k k);rw [h0, Int.mul_zero, Int.zero_add] at h4;have h5 := Int.fmod_nonneg_of_pos (E i k) hp.1;have h6 := Int.fmod_lt_of_pos (E i k) hp.1;omega
 · exact h.at_ hi k h1 (by omega) h3
theorem n0.sub {q : Int} {R : Nat -> Int} (h : n0 n d r A i j E) (hi : i < n) (hj : j < n) (hij : i < j) (hq : q = (E i j).fdiv (E j j)) (hR : ∀ k, R k = if k < j ∨ n <= k then E i k else E i k - q * E j k) : n0 n d r A i (j + 1) (cD E i R) := by
 have hR' : ∀ k, R k = E i k - q * E j k := fun k => by
  rw [hR];by_cases h1 : k < j
  · rw [if_pos (.inl h1), h.low j hj k h1]; simp
  · by_cases h2 : n <= k
    · rw [if_pos (.inr h2), h.out j hj k h2]; simp
    · rw [if_neg (by omega)]
 have hdiag : ∀ t < n, cD E i R t t = E t t := fun t ht => by
  by_cases e : t = i
  · subst e; rw [bP, hR, if_pos (.inl hij)]
  · rw [aT E e]
 have key : ∀ u, Gp n 0 E (fun _ => 0) u ↔ Gp n 0 (cD E i R) (fun _ => 0) u := fun u => by
  have c1 := Gp.cl n 0 E fun _ => 0;have c2 := Gp.cl n 0 (cD E i R) fun _ => 0;have r0 : ∀ t < n, t ≠ i -> Gp n 0 (cD E i R) (fun _ => 0) (E t) := fun t ht e => by
   have := Gp.row (n := n) (k := 0) (E := cD E i R) (v := fun _ => 0) ht (Nat.zero_le _)
   rwa [aT E e] at this
  constructor
  · intro hu;refine hu.least c2 (fun t ht _ => ?_) c2.zero;by_cases e : t = i
    · subst e;have h1 := Gp.row (n := n) (k := 0) (E := cD E t R) (v := fun _ => 0) ht (Nat.zero_le _);rw [bP] at h1;have h2 := c2.add _ _ h1 (c2.smul q _ (r0 j hj (by omega)));have e : (fun k => R k + q * E j k) = E t := by funext k; rw [hR']; omega
      rw [e] at h2; exact h2
    · exact r0 t ht e
  · intro hu;refine hu.least c1 (fun t ht _ => ?_) c1.zero;by_cases e : t = i
    · subst e;rw [bP];have h2 := c1.sub (Gp.row (n := n) (k := 0) (E := E) (v := fun _ => 0) ht (Nat.zero_le _)) (c1.smul q _ (Gp.row (n := n) (k := 0) (E := E) (v := fun _ => 0) hj (Nat.zero_le _)));have e : (fun k => E t k - q * E j k) = R := by funext k; rw [hR']
      rw [e] at h2; exact h2
    · rw [aT E e]; exact Gp.row ht (Nat.zero_le _)
 refine ⟨fun t ht k hk => ?_, fun t ht => by rw [hdiag t ht]; exact h.pos t ht, fun t ht k hk => by rw [aT E (by omega)]; exact h.up t ht k hk, fun t ht h1 k hk h2 => by rw [aT E (by omega : t ≠ i), hdiag k hk]; exact h.dn t ht h1 k hk h2, fun t ht k hk => ?_, fun _ k h1 h2 h3 => ?_, fun u => (key u).symm.trans (h.lat u)⟩
 · by_cases e : t = i
   · subst e; rw [bP, hR, if_pos (.inl (by omega))]; exact h.low t ht k hk
   · rw [aT E e]; exact h.low t ht k hk
 · by_cases e : t = i
   · subst e; rw [bP, hR, if_pos (.inr hk)]; exact h.out t ht k hk
   · rw [aT E e]; exact h.out t ht k hk
 · rw [bP, hdiag k h3];by_cases e : k = j
   · subst e;have hp := h.pos k hj;have h4 := Int.mul_fdiv_add_fmod (E i k) (E k k);have h5 := Int.fmod_nonneg_of_pos (E i k) hp.1;have h6 := Int.fmod_lt_of_pos (E i k) hp.1;rw [hR', hq, Int.mul_comm]; omega
   · rw [hR, if_pos (.inl (by omega))]; exact h.at_ hi k h1 (by omega) h3
end
structure Md (n : Nat) (d : Int) (r : Nat) (A E : Mx) : Prop where
 herm : eK n n E fun i => i
 lat : ∀ u, Gp n 0 E (fun _ => 0) u ↔ LD r A d n u
theorem n0.done {n r : Nat} {d : Int} {A E : Mx} (h : n0 n d r A 0 n E) : Md n d r A E := by
 refine ⟨⟨⟨fun i k h1 _ => h1, fun i hi => hi, fun i hi j hj => h.low i hi j hj, fun i hi => (h.pos i hi).1⟩, fun i k h1 h2 => ?_⟩, h.lat⟩;rcases Nat.eq_zero_or_pos i with e | e
 · subst e; exact h.at_ (by omega) k h1 h2 h2
 · exact h.dn i (by omega) e k h2 h1
theorem Gp.sp {n : Nat} {E : Mx} {u : Nat -> Int} : Gp n 0 E (fun _ => 0) u ↔ Sp n E u := by
 constructor
 · rintro ⟨x, c, _, h⟩; exact ⟨x, fun j => by rw [h]; simp⟩
 · rintro ⟨x, h⟩; exact ⟨x, 0, fun t ht => by omega, fun i => by rw [h]; simp⟩
theorem Md.sp {n r : Nat} {d : Int} {A E : Mx} (h : Md n d r A E) (u : Nat -> Int) : Sp n E u ↔ LD r A d n u := Gp.sp.symm.trans (h.lat u)
theorem Md.unique {n r s : Nat} {d e : Int} {A B E F : Mx} (h : Md n d r A E) (k : Md n e s B F) (hL : ∀ u, LD r A d n u ↔ LD s B e n u) : ∀ t, t < n -> ∀ j, E t j = F t j :=
 (h.herm.unique k.herm ⟨fun t ht => (k.sp _).2 ((hL _).1 ((h.sp _).1 (Sp.row E ht))), fun t ht => (h.sp _).2 ((hL _).2 ((k.sp _).1 (Sp.row F ht)))⟩).2.2
theorem yq {n r : Nat} {d : Int} {A E : Mx} (hd : 0 < d) (h : Md n d r A E) (hA : ∀ t < r, ∀ i, d ∣ A t i) (hz : ∀ t < r, ∀ i, n <= i -> A t i = 0) : ∀ t, t < n -> ∀ j, E t j = if t = j then d else 0 := by
 obtain ⟨F, hF⟩ : ∃ F : Mx, ∀ t, F t = eD d t := ⟨fun t => eD d t, fun _ => rfl⟩;have hF' : ∀ t i, F t i = if i = t then d else 0 := fun t i => by rw [hF]; rfl
 have hM : Md n d 0 A F := by
  refine ⟨⟨⟨fun i k h1 _ => h1, fun i hi => hi, fun i hi j hj => by rw [hF', if_neg (by omega)], fun i hi => by rw [hF', if_pos rfl]; exact hd⟩, fun i k h1 h2 => by rw [hF', hF', if_neg (by omega), if_pos rfl]; omega⟩, (mE.start hd A fun t ht i => hF' t i).lat⟩
 intro t ht j;have := h.unique hM (fun u => ⟨fun hu => hu.least (LD.cl ..) (fun s hs => ?_) fun i hi => LD.eD hi, fun hu => hu.least (LD.cl ..) (fun s hs => by omega) fun i hi => LD.eD hi⟩) t ht j
 · rw [this, hF'];by_cases e : t = j
   · subst e; rfl
   · rw [if_neg e, if_neg (fun q => e q.symm)]
 · exact (LD.cl 0 A d n).xc (d := d) (n := n) (j := 0) (c := fun i => A s i / d) (fun i hi _ => LD.eD hi) (fun i _ _ => (Int.mul_ediv_cancel' (hA s hs i)).symm) (fun i hi => hz s hs i (by omega))
theorem vk {a e q x d : Int} {M D : Nat} (ha : a.natAbs <= M) (hx : x.natAbs <= M) (he : 0 <= e /\ e <= d) (hb : 0 < x ∨ x <= 0) (hq : q.natAbs <= x.natAbs) (hD : d.natAbs + 1 <= D) : (a - q * e).natAbs <= M * D := by
 have h1 : (a - q * e).natAbs <= a.natAbs + (q * e).natAbs := by omega
 have h2 : (q * e).natAbs <= M * d.natAbs := by
  rw [Int.natAbs_mul]; exact Nat.mul_le_mul (Nat.le_trans hq hx) (by omega)
 have h3 := Nat.mul_le_mul_left M hD;rw [Nat.mul_add, Nat.mul_one] at h3;omega
theorem oJ {a b : Int} (hb : 0 < b) : (a.fdiv b).natAbs <= a.natAbs := by
 have h1 := Int.mul_fdiv_add_fmod a b;have h2 := Int.fmod_nonneg_of_pos a hb;have h3 := Int.fmod_lt_of_pos a hb;rcases Int.lt_or_le (a.fdiv b) 0 with h | h
 · have h4 : b * (a.fdiv b + 1) <= 1 * (a.fdiv b + 1) := Int.mul_le_mul_of_nonpos_right (by omega) (by omega);rw [Int.mul_add, Int.mul_one] at h4; omega
 · have h4 : 1 * a.fdiv b <= b * a.fdiv b := Int.mul_le_mul_of_nonneg_right (by omega) h;omega
end Go.Proofs.YtjjlmfmoihooiaaGreat
namespace Go.Proofs.YtjjlmfmoihooiaaGreat
open Go.RowKit
structure jh where
 ro : Option Addr
 rc : Nat
 gs : List Nat
 E : List (List Int)
 dp : P4
 d : Int
def oO (z : jh) : List Value := [.slice z.ro z.E.length z.rc, .bool z.dp.1, .slice z.dp.2.1 z.dp.2.2.1 z.dp.2.2.2]
abbrev xZ (gB m : Nat) (z : jh) : List En := [.row gB 95 (oO z), .lg 22 1 z.ro z.E.length z.rc (hG m z.gs), .iR z.E.length z.gs z.E, .num (av z.dp) z.d]
def dx (gB m : Nat) (z : jh) (w : World) : Prop := (aa w gB 95 (oO z) /\ nE 22 1 z.ro z.E.length z.rc (hG m z.gs) w /\ y9 z.E.length z.gs z.E w /\ aH w (av z.dp) z.d) /\ z.gs.length = z.E.length /\ fz z.gs z.E.length
def cY (gB : Nat) (z : jh) (g : Nat) : Prop := g = gB ∨ (∃ o, z.ro = some ⟨g, o, none⟩) ∨ ∃ t, t < z.E.length /\ t ≠ z.E.length /\ g = z.gs.getD t 0
theorem dx.rows {gB m : Nat} {z : jh} {w : World} (h : dx gB m z w) {g : Nat} (hg : cY gB z g) : ∃ t cs, aa w g t cs /\ aI cs /\ t ≠ 60 := by
 obtain ⟨⟨h1, h2, h4, h5⟩, _⟩ := h;rcases hg with rfl | hg | ⟨t, ht, hx, rfl⟩
 · exact ⟨_, _, h1, aI.slice (aI.bool (aI.slice aI.nil)), by decide⟩
 · obtain ⟨tl, hn, hr⟩ := gd h2 hg;exact ⟨_, _, hr, (gG m z.gs).append hn, by decide⟩
 · obtain ⟨ps, tl, hn, hr, _⟩ := h4 t ht hx;exact ⟨_, _, hr, aI.rn hn, by decide⟩
theorem dx.wl {gB m : Nat} {z : jh} {w : World} (h : dx gB m z w) : Wl (cY gB z) w := fun _ hg => h.rows hg
theorem dx.gR {gB m : Nat} {z : jh} {w w' : World} {T : Nat -> Prop} (h : dx gB m z w) (hc : aN T w w') (hT : Wl T w) (hs : ∀ b, cY gB z b -> ¬ T b) : dx gB m z w' := by
 obtain ⟨⟨h1, h2, h4, h5⟩, h6, h7⟩ := h;refine ⟨⟨hc.row h1 (hs _ (.inl rfl)), ?_, fun t ht hx => ?_, hc.num hT.bI h5⟩, h6, h7⟩
 · exact ⟨h2.1, h2.2.1, h2.2.2.imp id fun ⟨b, tl, e, hn, hr, hl⟩ => ⟨b, tl, e, hn, hc.row hr (hs _ (.inr (.inl ⟨0, e⟩))), hl⟩⟩
 · obtain ⟨ps, tl, hn, hr, h1', h2'⟩ := h4 t ht hx;exact ⟨ps, tl, hn, hc.row hr (hs _ (.inr (.inr ⟨t, ht, hx, rfl⟩))), h1', fun i a => hc.num hT.bI (h2' i a)⟩
abbrev En.lk (gB m : Nat) (z : jh) : En := .fact true true (cY gB z) (dx gB m z) (fun h g hg => by obtain ⟨t, cs, hr, _⟩ := h.rows hg; exact hr.lt) (fun h hc hT hs => h.gR hc (hT rfl) hs)
abbrev En.vi (gB m : Nat) (z : jh) (g : Nat) (ps : List P4) (tl : List Value) (xs : List Int) : En := .fact true true (fun b => cY gB z b ∨ b = g) (fun w => dx gB m z w /\ aI tl /\ aa w g 37 (rn ps tl) /\ bQ w ps xs /\ ¬ cY gB z g)
 (fun h b hb => hb.elim (fun hb => by obtain ⟨t, cs, hr, _⟩ := h.1.rows hb; exact hr.lt) (fun e => e ▸ h.2.2.1.lt))
 (fun h hc hT hs => ⟨h.1.gR hc (hT rfl) (fun b hb => hs b (.inl hb)), h.2.1, hc.row h.2.2.1 (hs _ (.inr rfl)), ⟨h.2.2.2.1.1, fun i a => hc.num (hT rfl).bI (h.2.2.2.1.2 i a)⟩, h.2.2.2.2⟩)
theorem Fr.AQ {S0 : Nat -> Prop} {w0 w : World} {es : List En} {gB m : Nat} {z : jh} (h : Fr S0 w0 w (.lk gB m z :: es)) : Fr S0 w0 w (xZ gB m z ++ es) /\ z.gs.length = z.E.length /\ fz z.gs z.E.length := by
 obtain ⟨⟨h1, h2, h4, h5⟩, h6, h7⟩ := (h.m0 : dx gB m z w);have q12 : ∀ b, (∃ o, z.ro = some ⟨b, o, none⟩) -> b ≠ gB := fun b hb e => by
  obtain ⟨tl, _, hr⟩ := gd h2 hb; subst e; exact absurd rfl (hr.ne h1 (by decide))
 have q14 : ∀ b, (∃ t, t < z.E.length /\ t ≠ z.E.length /\ b = z.gs.getD t 0) -> b ≠ gB := fun b ⟨t, ht, hx, e'⟩ e => by
  obtain ⟨ps, tl, _, hr, _⟩ := h4 t ht hx; rw [<- e', e] at hr; exact absurd rfl (hr.ne h1 (by decide))
 have q24 : ∀ b, (∃ o, z.ro = some ⟨b, o, none⟩) -> ¬ ∃ t, t < z.E.length /\ t ≠ z.E.length /\ b = z.gs.getD t 0 := fun b hb ⟨t, ht, hx, e'⟩ => by
  obtain ⟨tl, _, hr⟩ := gd h2 hb; obtain ⟨ps, tl', _, hr', _⟩ := h4 t ht hx; rw [<- e'] at hr'; exact absurd rfl (hr.ne hr' (by decide))
 refine ⟨h.o6 rfl (fun x hx => ?_) ?_, h6, h7⟩
 · simp only [xZ, List.mem_cons, List.mem_nil_iff, or_false] at hx;rcases hx with rfl | rfl | rfl | rfl
   · exact ⟨h1, fun b e => .inl e⟩
   · exact ⟨h2, fun b e => .inr (.inl e)⟩
   · exact ⟨h4, fun b e => .inr (.inr e)⟩
   · exact ⟨h5, fun b e => e.elim⟩
 · refine .cons (fun x hx => ?_) (.cons (fun x hx => ?_) (.cons (fun x hx => ?_) (.cons (fun x hx => (List.not_mem_nil hx).elim) .nil)))
   · simp only [List.mem_cons, List.mem_nil_iff, or_false] at hx;rcases hx with rfl | rfl | rfl
     · exact ⟨fun _ b hb hb' => q12 b hb' hb, fun _ b hb' hb => q12 b hb' hb⟩
     · exact ⟨fun _ b hb hb' => q14 b hb' hb, fun _ b hb' hb => q14 b hb' hb⟩
     · exact ⟨fun _ _ _ h => h, fun q => nomatch q⟩
   · simp only [List.mem_cons, List.mem_nil_iff, or_false] at hx;rcases hx with rfl | rfl
     · exact ⟨fun _ b hb hb' => q24 b hb hb', fun _ b hb' hb => q24 b hb hb'⟩
     · exact ⟨fun _ _ _ h => h, fun q => nomatch q⟩
   · simp only [List.mem_cons, List.mem_nil_iff, or_false] at hx;rcases hx with rfl;exact ⟨fun _ _ _ h => h, fun q => nomatch q⟩
theorem Fr.basS {gB m : Nat} {z : jh} {w : World} (h : dx gB m z w) : Fr (cY gB z) w w [.lk gB m z] :=
 ⟨aN.refl _ _, fun e he => by rcases List.mem_singleton.1 he with rfl; exact h, List.pairwise_singleton .., fun e he _ b hb => by rcases List.mem_singleton.1 he with rfl; exact .inl hb⟩
def kW (n : Nat) (d : Int) (k : Nat) : List (List Int) := (List.range k).map fun i => (List.replicate n 0).set i d
theorem fE (n : Nat) (d : Int) (k : Nat) : (kW n d k).length = k := by simp [kW]
theorem wU (n : Nat) (d : Int) (k : Nat) : kW n d (k + 1) = kW n d k ++ [(List.replicate n 0).set k d] := by simp [kW, List.range_succ]
theorem zS {n i : Nat} {d : Int} (hi : i < n) (j : Nat) : bE (kW n d n) i j = if j = i then d else 0 := by
 unfold bE kW;simp only [List.getD_eq_getElem?_getD, List.getElem?_map, List.getElem?_range hi, Option.map_some, Option.getD_some];rw [gE (by simpa using hi)];by_cases e : j = i
 · rw [if_pos e, if_pos e]
 · rw [if_neg e, if_neg e];by_cases h : j < n
   · rw [c7 (by simpa using h)]; simp
   · exact dY _ _ (by simp; omega)
structure MsX where
 k : Nat
 ro : Option Addr
 rc : Nat
 gs : List Nat
structure MsI (n : Nat) (x : MsX) : Prop where
 hk : x.k <= n
 hl : x.gs.length = x.k
 hi : fz x.gs x.k
theorem vY (n : Nat) (d : Int) (pd : P4) (w : World) (hn : n <= 64) (hD : ai w 17592186044415 (av pd) d) :
 Calls Tryz.prog 62 #[.int .i64 (n : Int), av pd] w fun e w' => ∃ q : Nat × jh, e = .returned (.pointer (some ⟨q.1, 0, none⟩)) /\ Nw w w' [.lk q.1 n q.2] /\ q.2.E = kW n ((d.natAbs : Nat) : Int) n /\ q.2.d = ((d.natAbs : Nat) : Int) := by
 refine bS (S0 := fun _ => False) Tryz.func62 ((Fr.nil _ w).i hD) ?_;clear hD;obtain ⟨D, hDe⟩ : ∃ D : Int, ((d.natAbs : Nat) : Int) = D := ⟨_, rfl⟩;rw [hDe];have HD := hi_ hDe;clear hDe;refine ah ?_;refine rW [] ?_;refine aW fun g3 => ?_;refine dW ?_;refine eW ?_;refine ah ?_;refine rW [] ?_;refine dW ?_;refine cN (x := D) (fun w' H => by have := kU (av pd) d w' (H.all (.at 17592186044415 (av pd) d) (by simp [av])); rw [HD.out] at this; exact this) fun p9 => ?_;refine dW ?_;refine aW fun g11 => ?_;refine dW ?_;refine eW ?_;refine ah ?_;refine rW [] ?_;refine dW ?_;refine dW ?_;refine eW ?_;refine ah ?_;refine yv (te := 22) (sz := 1) ?_;refine zO ?_;refine cI (X := MsX) (MsI n) (fun x => n - x.k) (fun x => [(13, .int .i64 (x.k : Int)), (12, .int .i64 (n : Int)), (5, .pointer (some ⟨g11, 0, none⟩)), (3, .pointer (some ⟨g3, 0, none⟩)), (0, .int .i64 (n : Int))])
  (fun x => [.row g11 95 [.slice x.ro x.k x.rc, .bool p9.1, .slice p9.2.1 p9.2.2.1 p9.2.2.2], .row g3 37 [.bool pd.1, .slice pd.2.1 pd.2.2.1 pd.2.2.2], .lg 22 1 x.ro x.k x.rc (hG n x.gs), .own w.heap.size (av p9) D, .at 17592186044415 (av pd) d, .iR x.k x.gs (kW n D x.k)]) ⟨0, none, 0, []⟩ ⟨Nat.zero_le _, rfl, fun a b ha => absurd ha (Nat.not_lt_zero _)⟩ fun x hx => ?_
 obtain ⟨k, ro, rc, gs⟩ := x;have hk : k <= n := hx.hk;have HM : Hid (MsI n ⟨k, ro, rc, gs⟩) := hi_ hx;clear hx;by_cases h : k < n
 · have h01 : (k : Int) < (n : Int) := by omega
   refine ah ?_;refine rW [] ?_;refine dB true ?_;refine eW ?_;refine ah ?_;refine fB ?_;refine ah ?_;refine rW [] ?_;refine dW ?_;refine dW ?_;refine eW ?_;refine ah ?_;refine rW [] ?_;refine dW ?_;refine mN n n rfl rfl (Nat.le_refl _) (by omega) fun g => ?_;refine dW ?_;refine eW ?_;refine ah ?_;refine mQ (e := .ns (List.replicate n p0) (List.replicate n 0)) (fun w' _ => bQ.kF w' n) ?_;refine rW [] ?_;(iterate 3 refine dW ?_);refine cN (x := D) (fun w' H => by have := kU (av pd) d w' (H.all (.at 17592186044415 (av pd) d) (by simp [av])); rw [HD.out] at this; exact this) fun p2 => ?_;refine ja (e := .ns ((List.replicate n p0).set k p2) ((List.replicate n 0).set k D)) (fun w' H => bQ.set (H.all (.ns (List.replicate n p0) (List.replicate n 0)) (by simp)) k (H.all (.own w.heap.size (av p2) D) (by simp [av]) : aj ..).num) ?_;refine dW ?_;refine sN (ps := List.replicate n p0) k p2 (by simpa using h) aI.nil rfl ?_;refine eW ?_;refine ah ?_;refine vI (A := ∀ t, t < k -> gs.getD t 0 ≠ g) (fun w' h' => by
    have h2 : Fr _ w w' (.row g 37 (rn ((List.replicate n p0).set k p2) []) :: .ns ((List.replicate n p0).set k p2) ((List.replicate n 0).set k D) :: .iR k gs (kW n D k) :: []) := h'.pick (by repeat (first | exact Pk.n | refine Pk.c (by repeat (first | exact Rm.z | apply Rm.s)) ?_));have h3 := (h2.oW (x' := k + 1) (by rw [fE]; exact HM.out.hl) (by rw [fE]; exact Nat.le_refl _) (by rw [fE]; omega) aI.nil).2;rw [fE] at h3; exact h3) fun hne => ?_
   have HN := hi_ hne;clear hne;refine rW [] ?_;(iterate 6 refine dW ?_);refine bW (m := 1) fun g29 => ?_;refine yT (k := k) (cap := rc) (g := g29) (c := 1) (ao := ro) (cs := hG n gs) (v := .slice (some ⟨g, 0, none⟩) n n) Tryz.underlying70 xd rfl (pW (.slice none 0 0) rfl (fun n h => nomatch h)) (by omega) (by omega) rfl ⟨gG n gs, by decide⟩ (by simp) fun u => ?_;refine dW ?_;refine dW ?_;refine sW ?_;refine eW ?_;refine ah ?_;refine rW [] ?_;refine dE (dR (a := k) (by omega)) ?_;refine dW ?_;refine eW ?_;refine ah ?_;exact cf (⟨k + 1, u.1, u.2, gs ++ [g]⟩ : MsX) ⟨⟨h, by show (gs ++ [g]).length = k + 1; rw [List.length_append, show gs.length = k from HM.out.hl]; rfl, nX HM.out.hl HM.out.hi HN.out⟩, by show n - (k + 1) < n - k; omega⟩ (he := by
    intro w' h';rw [tX] at h';have h2 := h'.pick (es' := .row g 37 (rn ((List.replicate n p0).set k p2) []) :: .ns ((List.replicate n p0).set k p2) ((List.replicate n 0).set k D) :: .iR k gs (kW n D k) :: [.row g11 95 [.slice u.1 (k + 1) u.2, .bool p9.1, .slice p9.2.1 p9.2.2.1 p9.2.2.2], .row g3 37 [.bool pd.1, .slice pd.2.1 pd.2.2.1 pd.2.2.2], .lg 22 1 u.1 (k + 1) u.2 (hG n (gs ++ [g])), .own w.heap.size (av p9) D, .at 17592186044415 (av pd) d]) (by repeat (first | exact Pk.n | refine Pk.c (by repeat (first | exact Rm.z | apply Rm.s)) ?_));have h3 := (h2.oW (x' := k + 1) (by rw [fE]; exact HM.out.hl) (by rw [fE]; exact Nat.le_refl _) (by rw [fE]; omega) aI.nil).1;rw [<- wU] at h3;exact h3.pick (by repeat (first | exact Pk.n | refine Pk.c (by repeat (first | exact Rm.z | apply Rm.s)) ?_)))
 · obtain rfl : n = k := by omega
   refine ah ?_;refine rW [] ?_;refine dB false ?_;refine eW ?_;refine ah ?_;refine dT ?_;refine ah ?_;refine rW [] ?_;refine dW ?_;refine dW ?_;refine eW ?_;refine ah ?_;refine ei fun w' H => ?_;have hE : (kW n D n).length = n := fE ..;have hF : dx g11 n ⟨ro, rc, gs, kW n D n, p9, D⟩ w' := by
    refine ⟨⟨?_, ?_, ?_, aj.num (H.all (.own w.heap.size (av p9) D) (by simp [av]))⟩, by show gs.length = (kW n D n).length; rw [hE]; exact HM.out.hl, by show fz gs (kW n D n).length; rw [hE]; exact HM.out.hi⟩
    · show aa w' g11 _ [.slice ro (kW n D n).length rc, _, _];rw [hE]; exact H.m0
    · show nE _ 1 ro (kW n D n).length rc (hG n gs) w';rw [hE]; exact H.m2
    · show y9 (kW n D n).length gs _ w';rw [hE]; exact H.all (.iR n gs (kW n D n)) (by simp)
   have hS : ∀ b, cY g11 ⟨ro, rc, gs, kW n D n, p9, D⟩ b -> w.heap.size <= b := by
    rintro b (e | e | ⟨t, ht, _, e⟩)
    · exact (H.own (.row g11 95 [.slice ro n rc, .bool p9.1, .slice p9.2.1 p9.2.2.1 p9.2.2.2]) (by simp) rfl b e).elim (fun h => h.elim) id
    · exact (H.own (.lg 22 1 ro n rc (hG n gs)) (by simp) rfl b e).elim (fun h => h.elim) id
    · exact (H.own (.iR n gs (kW n D n)) (by simp) rfl b ⟨t, ht, by have h : t < (kW n D n).length := ht; omega, e⟩).elim (fun h => h.elim) id
   exact ⟨_, ee, (g11, ⟨ro, rc, gs, kW n D n, p9, D⟩), rfl, ⟨H.below, fun e he => by rcases List.mem_singleton.1 he with rfl; exact ⟨hF, hS⟩, List.pairwise_singleton ..⟩, rfl, rfl⟩
theorem nv {w : World} {g L : Nat} {ps : List P4} {tl : List Value} {xs : List Int} (hr : aa w g 37 (rn ps tl)) (hns : bQ w ps xs) (hb : ∀ x ∈ xs, ag x.natAbs <= L) : aL w L (some ⟨g, 0, none⟩) xs := fun _ =>
 ⟨g, 0, rfl, hr.lt, fun i hi => ⟨gp ps i, by rw [hr.cell, Nat.zero_add]; exact rH tl (by rw [hns.1]; exact hi), by rw [hr.cell, Nat.zero_add]; exact rK tl (by rw [hns.1]; exact hi), by
  have := (hns.2 i (by rw [hns.1]; exact hi)).int (L := L) (hb _ (jY hi)); rw [c7 hi] at this; exact this⟩⟩
theorem tq {P : Program} {S0 : Nat -> Prop} {w0 : World} {n : Nat} {ls : List (Nat × Value)} {es : List En} {fn : Func} {R : Ending -> World -> Prop} (k : ∀ w, Fr S0 w0 w es -> R (.returned (.tuple #[])) w) (h : fn.results = #[] := by rfl) : QW n S0 w0 (bodyPost P fn R) .normal ls es := fun a w ha hw =>
 bodyPost_end (v := .tuple #[]) (by simp [results, h]) ha.df (k w hw)
section
variable {P : Program} {ops : Array Oper} {Q : Exit -> Act -> World -> Prop} {ds : List Deferred} {S0 : Nat -> Prop} {w0 : World} {E0 : List En} {hd : List (List Nat)} {n j s : Nat} {l : List Nat} {G E : List En} {ls : List (Nat × Value)} {op : Op} {ty : TypeId} {pos : String} {af : Array Edge} {f : FuncId} {args : Array Value}
theorem cN3 {x y z : Int} (c : ∀ w, Fr S0 w0 w (G ++ E) -> Calls P f args w fun e w' => (∃ v v' v'', e = .returned (.tuple #[v, v', v'']) /\ aj w' w.heap.size v x /\ aj w' w.heap.size v' y /\ aj w' w.heap.size v'' z) /\ Below w.heap.size w w')
 (k : ∀ p q r : P4, dy ds ⟨P, ops, Q, S0, w0, E0, hd⟩ n l (.own w0.heap.size (av p) x :: .own w0.heap.size (av q) y :: .own w0.heap.size (av r) z :: G) E ((s, .tuple #[.agg #[.bool p.1, .slice p.2.1 p.2.2.1 p.2.2.2], .agg #[.bool q.1, .slice q.2.1 q.2.2.1 q.2.2.2], .agg #[.bool r.1, .slice r.2.1 r.2.2.1 r.2.2.2]]) :: ls))
 (ho : ops[j]? = some ⟨some s, op, ty, pos, af, none⟩ := by rfl) (hk : (!bF op && !cX op && dK ls op && Nat.blt s n) = true := by kernel_rfl)
 (hr : ∀ w, (execOp (cT ls) ⟨some s, op, ty, pos, af, none⟩).run P w = .ok (.enter f args) w := by intro w; (try simp only [av]); go_simp <;> with_reducible rfl)
 (hst : fo ops hd j [] = true := by kernel_rfl) : dy ds ⟨P, ops, Q, S0, w0, E0, hd⟩ n (j :: l) G E ls := by
 refine cG (α := P4 × P4 × P4) (mk := fun p => .tuple #[av p.1, av p.2.1, av p.2.2]) (ens := fun p => [.own w0.heap.size (av p.1) x, .own w0.heap.size (av p.2.1) y, .own w0.heap.size (av p.2.2) z]) (fun w hw => (c w hw).mono ?_) (fun p => k p.1 p.2.1 p.2.2) ho hk hr ⟨(p0, p0, p0)⟩ hst;rintro e w' ⟨⟨v, v', v'', rfl, hv, hv', hv''⟩, hb⟩;obtain ⟨b, ao, l', k', rfl⟩ := aj.parts hv;obtain ⟨b2, ao2, l2, k2, rfl⟩ := aj.parts hv';obtain ⟨b3, ao3, l3, k3, rfl⟩ := aj.parts hv'';exact ⟨((b, ao, l', k'), (b2, ao2, l2, k2), (b3, ao3, l3, k3)), rfl, hb, fun e he => by
  simp only [List.mem_cons, List.mem_nil_iff, or_false] at he;rcases he with rfl | rfl | rfl
  · exact ⟨aj.mono hv hw.size, fun _ h => h.elim⟩
  · exact ⟨aj.mono hv' hw.size, fun _ h => h.elim⟩
  · exact ⟨aj.mono hv'' hw.size, fun _ h => h.elim⟩, .cons (fun e he => by
    simp only [List.mem_cons, List.mem_nil_iff, or_false] at he;rcases he with rfl | rfl <;> exact ⟨(fun h => nomatch h), (fun h => nomatch h)⟩) (.cons (fun e he => by
    rcases List.mem_singleton.1 he with rfl;exact ⟨(fun h => nomatch h), (fun h => nomatch h)⟩) (List.pairwise_singleton ..))⟩
end
theorem Am (v u : Value) (a b : Int) (w : World) (hA : ai w 4398046511103 v a) (hB : ai w 4398046511103 u b) :
 Calls Tryz.prog 91 #[v, u] w fun e w' => (∃ vg vx vy, e = .returned (.tuple #[vg, vx, vy]) /\ aj w' w.heap.size vg (bH a b) /\ aj w' w.heap.size vx (dV a b) /\ aj w' w.heap.size vy (fy a b)) /\ Below w.heap.size w w' :=
 (vE v u a b w hA hB).mono fun e w' ⟨⟨g, x, y, vg, vx, vy, he, hE, h1, h2, h3⟩, hb⟩ => by
  obtain ⟨e1, e2, e3⟩ := hE.unique (iE a b);subst e1 e2 e3;exact ⟨⟨vg, vx, vy, he, h1, h2, h3⟩, hb⟩
theorem vw {a b d : Int} (ha : 0 < a /\ a <= d) (hb : 0 < b /\ b < d) : 0 < bH a b /\ a = bH a b * (a / bH a b) /\ b = bH a b * (b / bH a b) /\ (bH a b).natAbs <= d.natAbs /\ (dV a b).natAbs <= d.natAbs /\ (fy a b).natAbs <= d.natAbs /\ (a / bH a b).natAbs <= d.natAbs /\ (b / bH a b).natAbs <= d.natAbs := by
 have h := iE a b;unfold eF at h;rw [if_neg (by omega)] at h;obtain ⟨h1, h2, h3, h4⟩ := h
 revert h1 h2 h3 h4
 generalize bH a b = g;generalize dV a b = x;generalize fy a b = y;intro h1 h2 h3 h4;have hga : g ∣ a := by rw [h1]; exact Int.gcd_dvd_left ..
 have hgb : g ∣ b := by rw [h1]; exact Int.gcd_dvd_right ..
 have hg0 : 0 < g := by
  rcases Int.lt_trichotomy g 0 with h5 | h5 | h5
  · rw [h1] at h5; omega
  · rw [h5] at hga; have := Int.zero_dvd.1 hga; omega
  · exact h5
 have hgle : g <= b := Int.le_of_dvd hb.1 hgb;have hxb : x < b := by
  have : x * 1 <= x * g := Int.mul_le_mul_of_nonneg_left (by omega) h2;omega
 have hy : y <= 1 /\ -a <= y := by
  constructor
  · by_cases h5 : 1 < y
    · have h6 : b * 2 <= b * y := Int.mul_le_mul_of_nonneg_left (by omega) (by omega);have h7 : 0 <= a * x := Int.mul_nonneg (by omega) h2;omega
    · omega
  · by_cases h5 : y < -a
    · have h6 : b * y <= b * (-a - 1) := Int.mul_le_mul_of_nonneg_left (by omega) (by omega);have h7 : a * x <= a * (b - 1) := Int.mul_le_mul_of_nonneg_left (by omega) (by omega);rw [Int.mul_sub, Int.mul_neg, Int.mul_one] at h6;rw [Int.mul_sub, Int.mul_one, Int.mul_comm a b] at h7;omega
    · omega
 have ha2 : 0 <= a / g /\ a / g <= a := ⟨Int.ediv_nonneg (by omega) (by omega), Int.ediv_le_self _ (by omega)⟩;have hb2 : 0 <= b / g /\ b / g <= b := ⟨Int.ediv_nonneg (by omega) (by omega), Int.ediv_le_self _ (by omega)⟩;refine ⟨hg0, (Int.mul_ediv_cancel' hga).symm, (Int.mul_ediv_cancel' hgb).symm, by omega, by omega, by omega, by omega, by omega⟩
theorem Fr.rwoN {S0 : Nat -> Prop} {w0 w : World} {es : List En} {gs o : List Nat} {E : List (List Int)} {t g : Nat} {ps : List P4} {tl : List Value} {xs : List Int} (ht : t < E.length) (hl : gs.length = E.length) (hn : aI tl)
 (h : Fr S0 w0 w (.row g 37 (rn ps tl) :: .ns ps xs :: .eI (t :: o) gs E :: es)) (hto : t ∉ o) : Fr S0 w0 w (.eI o (gs.set t g) (E.set t xs) :: es) /\ ∀ s, s < E.length -> s ≠ t -> s ∉ o -> gs.getD s 0 ≠ g := by
 have hr : aa w g 37 (rn ps tl) := h.m0;have hns : bQ w ps xs := h.m1;have hF : v7 (t :: o) gs E w := h.m2;have hs := List.pairwise_cons.1 h.sep;have eg : ∀ s, (gs.set t g).getD s 0 = if s = t then g else gs.getD s 0 := fun s => cO (by omega);have eE : ∀ s, (E.set t xs).getD s [] = if s = t then xs else E.getD s [] := fun s => cO ht;refine ⟨Fr.tR (X := [.row g 37 (rn ps tl), .ns ps xs, .eI (t :: o) gs E]) h (fun s hs hso => ?_) fun b ⟨s, hs, hso, e⟩ => ?_, fun s h1 h2 h3 e => ?_⟩
 · rw [List.length_set] at hs;rw [eg, eE];by_cases q : s = t
   · rw [if_pos q, if_pos q]; exact ⟨ps, tl, hn, hr, hns⟩
   · rw [if_neg q, if_neg q]; exact hF s hs (by simp [q, hso])
 · rw [List.length_set] at hs;rw [eg] at e;by_cases q : s = t
   · rw [if_pos q] at e; exact ⟨.row g 37 (rn ps tl), by simp, rfl, e⟩
   · rw [if_neg q] at e; exact ⟨.eI (t :: o) gs E, by simp, rfl, s, hs, by simp [q, hso], e⟩
 · exact (hs.1 (.eI (t :: o) gs E) (by simp)).1 rfl g rfl ⟨s, h1, by simp [h2, h3], e.symm⟩
theorem xe {gs : List Nat} {n t g : Nat} (hl : gs.length = n) (ht : t < n) (h : fz gs n) (hg : ∀ s, s < n -> s ≠ t -> gs.getD s 0 ≠ g) : fz (gs.set t g) n := fun a b ha hb e => by
 rw [cO (by omega), cO (by omega)] at e;by_cases h1 : a = t <;> by_cases h2 : b = t
 · omega
 · rw [if_pos h1, if_neg h2] at e; exact absurd e.symm (hg b hb h2)
 · rw [if_neg h1, if_pos h2] at e; exact absurd e (hg a ha h1)
 · rw [if_neg h1, if_neg h2] at e; exact h a b ha hb e
theorem pO {E : List (List Int)} {j : Nat} {R : List Int} (hj : j < E.length) : bE (E.set j R) = cD (bE E) j (gi R) := by
 funext t i;unfold bE cD;rw [cO hj];split <;> rfl
structure PuX where
 j : Nat
 gs : List Nat
 E : List (List Int)
 bv : Nat
 ps : List P4
 tl : List Value
 xs : List Int
structure wY (n B : Nat) (d : Int) (E0 : Mx) (v0 : Nat -> Int) (x : PuX) : Prop where
 hj : x.j <= n
 gl : x.gs.length = n
 gi_ : fz x.gs n
 El : x.E.length = n
 rl : ∀ t < n, (x.E.getD t []).length = n
 pl : x.ps.length = n
 xl : x.xs.length = n
 pu : gQ n d E0 v0 x.j (bE x.E) (gi x.xs)
 wb : ∀ a ∈ x.xs, ag a.natAbs <= B
 nt : aI x.tl
theorem wY.eb {n B : Nat} {d : Int} {E0 : Mx} {v0 : Nat -> Int} {x : PuX} (h : wY n B d E0 v0 x) {t : Nat} (ht : t < n) : ∀ a ∈ x.E.getD t [], ag a.natAbs <= ag d.natAbs := fun a ha => by
 obtain ⟨i, hi, rfl⟩ := List.getElem_of_mem ha;rw [<- c7 hi];refine aF ?_;have e : gi (x.E.getD t []) i = bE x.E t i := rfl;rw [e];have h1 := h.pu.tri.low t ht i;have h2 := h.pu.tri.pos t ht;have h3 := h.pu.tri.red t ht i;rcases Nat.lt_trichotomy i t with q | q | q
 · rw [h1 q]; simp
 · rw [q]; omega
 · have := h3 q; omega
theorem pD {x d : Int} (hd : 0 < d) : ag (x % d).natAbs <= ag d.natAbs := aF (by have := Int.emod_nonneg x (show d ≠ 0 by omega); have := Int.emod_lt_of_pos x hd; omega)
theorem lq {xs : List Int} {B j : Nat} {x : Int} (h : ∀ a ∈ xs, ag a.natAbs <= B) (hx : ag x.natAbs <= B) : ∀ a ∈ xs.set j x, ag a.natAbs <= B := fun a ha => by
 rcases List.mem_or_eq_of_mem_set ha with h1 | rfl
 · exact h a h1
 · exact hx
theorem wY.skip {n B j : Nat} {d : Int} {E0 : Mx} {v0 : Nat -> Int} {gs : List Nat} {E : List (List Int)} {bv : Nat} {ps ps' : List P4} {tl : List Value} {xs : List Int} (h : wY n B d E0 v0 ⟨j, gs, E, bv, ps, tl, xs⟩) (hj : j < n) (hd : 0 < d) (hdB : ag d.natAbs <= B) (hp : ps'.length = n) (h0 : gi xs j % d = 0) : wY n B d E0 v0 ⟨j + 1, gs, E, bv, ps', tl, xs.set j (gi xs j % d)⟩ := by
 have xl : xs.length = n := h.xl;refine ⟨hj, h.gl, h.gi_, h.El, h.rl, hp, by show (xs.set j _).length = n; rw [List.length_set]; exact xl, ?_, lq h.wb (Nat.le_trans (pD hd) hdB), h.nt⟩;exact h.pu.skip hj (fun i => gE (by omega) _) h0
theorem wY.mix {n B j : Nat} {d : Int} {E0 : Mx} {v0 : Nat -> Int} {gs : List Nat} {E : List (List Int)} {bv g1 g2 : Nat} {ps ps' : List P4} {tl : List Value} {xs : List Int} (h : wY n B d E0 v0 ⟨j, gs, E, bv, ps, tl, xs⟩) (hj : j < n) (hd : 0 < d) (hdB : ag d.natAbs <= B) (hp : ps'.length = n) (h0 : gi xs j % d ≠ 0)
 {a b : Int} {top xs1 : List Int} (ht : E.getD j [] = top) (ha : gi top j = a) (hb : gi xs j % d = b) (hx1 : xs.set j b = xs1) (hg : ∀ s, s < n -> s ≠ j -> gs.getD s 0 ≠ g1) :
 wY n B d E0 v0 ⟨j + 1, gs.set j g1, E.set j (iN n j (dV a b) top (fy a b) xs1 d), g2, ps', [], iN n j (a / bH a b) xs1 (-(b / bH a b)) top d⟩ := by
 have xl : xs.length = n := h.xl;have El : E.length = n := h.El;have gl : gs.length = n := h.gl;have x1l : xs1.length = n := by rw [<- hx1, List.length_set]; exact xl
 have hm := h.pu.mod (V := gi xs1) hj fun i => by rw [<- hx1, gE (by omega), hb]
 have hE : ∀ i, bE E j i = gi top i := fun i => by unfold bE; rw [ht]
 have hb1 : gi xs1 j = b := by rw [<- hx1, gE (by omega), if_pos rfl]
 have hb2 : 0 < b /\ b < d := by
  have := Int.emod_nonneg (gi xs j) (show d ≠ 0 by omega); have := Int.emod_lt_of_pos (gi xs j) hd; omega
 have ha2 : 0 < a /\ a <= d := by have := hm.tri.pos j hj; rw [hE, ha] at this; exact this
 obtain ⟨e0, e1, e2, _⟩ := vw ha2 hb2;have hout : ∀ l : List Int, l.length = n -> ∀ i, n <= i -> gi l i = 0 := fun l hl i hi => dY _ _ (by omega);have htl : top.length = n := by rw [<- ht]; exact h.rl j hj
 have hmx := hm.mix (g := bH a b) (x := dV a b) (y := fy a b) (p := a / bH a b) (q := b / bH a b) (R := gi (iN n j (dV a b) top (fy a b) xs1 d)) (V := gi (iN n j (a / bH a b) xs1 (-(b / bH a b)) top d)) hj hd (hout _ x1l) (fun i hi => by rw [hE]; exact hout _ htl i hi) (by rw [hb1]; exact hb2.1) (by rw [hE, ha, hb1]; exact iE a b) (by rw [hE, ha]; exact e1) (by rw [hb1]; exact e2)
  (fun i => by
   by_cases hi : i < n
   · rw [ml hi, hE]; unfold nQ;by_cases q : i < j
     · rw [if_pos q, if_pos (.inl q)]
     · rw [if_neg q, if_neg (c := i < j ∨ n <= i) (by omega)]
   · rw [if_pos (.inr (by omega))]; exact hout _ (fm ..) i (by omega))
  (fun i => by
   by_cases hi : i < n
   · rw [ml hi, hE]; unfold nQ;by_cases q : i < j
     · rw [if_pos q, if_pos (.inl q)]
     · rw [if_neg q, if_neg (c := i < j ∨ n <= i) (by omega), Int.neg_mul, <- Int.sub_eq_add_neg]
   · rw [if_pos (.inr (by omega))]; exact hout _ (fm ..) i (by omega))
 refine ⟨hj, by show (gs.set j g1).length = n; rw [List.length_set]; exact gl, xe gl hj h.gi_ hg, by show (E.set j _).length = n; rw [List.length_set]; exact El, fun t htn => ?_, hp, fm .., ?_, fun c hc => ?_, aI.nil⟩
 · show ((E.set j _).getD t []).length = n;rw [cO (by omega)];split
   · exact fm ..
   · exact h.rl t htn
 · show gQ n d E0 v0 (j + 1) (bE (E.set j _)) _;rw [pO (by omega)]; exact hmx
 · obtain ⟨i, hi, rfl⟩ := List.getElem_of_mem hc;have hin : i < n := by rw [fm] at hi; exact hi
   rw [<- c7 hi];show ag (gi (iN n j _ _ _ _ d) i).natAbs <= B;by_cases q : i < j + 1
   · rw [hmx.vz i q]; simp [aY]
   · rw [ml hin]; unfold nQ;rw [if_neg (by omega), if_neg (by omega)];exact Nat.le_trans (pD hd) hdB
theorem Al {c j g : Nat} {gs : List Nat} (h : j < gs.length) (tl : List Value) : (hG c gs ++ tl).set j (.slice (some ⟨g, 0, none⟩) c c) = hG c (gs.set j g) ++ tl := by
 rw [List.set_append_left _ _ (by rw [iB]; exact h)];congr 1;unfold hG;rw [List.map_set]
theorem dx.of {gB m n rb rc : Nat} {gs : List Nat} {E : List (List Int)} {dp : P4} {d : Int} {tl1 : List Value} {w : World} (El : E.length = n) (gl : gs.length = n) (hi : fz gs n) (ht1 : aI tl1) (hl1 : (hG m gs ++ tl1).length = rc * 1)
 (h1 : aa w gB 95 [.slice (some ⟨rb, 0, none⟩) n rc, .bool dp.1, .slice dp.2.1 dp.2.2.1 dp.2.2.2]) (h2 : aa w rb 22 (hG m gs ++ tl1)) (h4 : v7 [] gs E w) (h5 : aH w (av dp) d) :
 dx gB m ⟨some ⟨rb, 0, none⟩, rc, gs, E, dp, d⟩ w := by
 subst El;refine ⟨⟨h1, ⟨by rw [iB, gl, Nat.mul_one], ?_, .inr ⟨rb, tl1, rfl, ht1, h2, hl1⟩⟩, fun t ht _ => h4 t ht (by simp), h5⟩, gl, hi⟩;show E.length <= rc;rw [List.length_append, iB] at hl1; omega
theorem cY.of {gB rb rc : Nat} {gs : List Nat} {E : List (List Int)} {dp : P4} {d : Int} {S : Nat -> Prop} (h1 : S gB) (h2 : S rb) (h4 : ∀ t, t < E.length -> S (gs.getD t 0)) : ∀ g, cY gB ⟨some ⟨rb, 0, none⟩, rc, gs, E, dp, d⟩ g -> S g := by
 rintro g (rfl | ⟨o, e⟩ | ⟨t, ht, _, rfl⟩)
 · exact h1
 · cases e; exact h2
 · exact h4 t ht
def r5 (n : Nat) (z z' : jh) (xs : List Int) : Prop := z'.d = z.d /\ z'.E.length = n /\ (∀ t < n, (z'.E.getD t []).length = n) /\ ∃ V : List Int, V.length = n /\ gQ n z.d (bE z.E) (gi xs) n (bE z'.E) (gi V)
theorem Fr.vi {gB m : Nat} {z : jh} {g : Nat} {ps : List P4} {tl : List Value} {xs : List Int} {w : World} (h : (En.vi gB m z g ps tl xs).F w) : Fr (fun b => cY gB z b ∨ b = g) w w [.lk gB m z, .row g 37 (rn ps tl), .ns ps xs] := by
 have h0 : Fr (fun b => cY gB z b ∨ b = g) w w [.vi gB m z g ps tl xs] := ⟨aN.refl _ _, fun e he => by rcases List.mem_singleton.1 he with rfl; exact h, List.pairwise_singleton .., fun e he _ b hb => by rcases List.mem_singleton.1 he with rfl; exact .inl hb⟩;obtain ⟨h1, _, h2, h3, h4⟩ := h;refine h0.o6 (X := [.lk gB m z, .row g 37 (rn ps tl), .ns ps xs]) rfl (fun x hx => ?_) ?_
 · simp only [List.mem_cons, List.mem_nil_iff, or_false] at hx;rcases hx with rfl | rfl | rfl
   · exact ⟨h1, fun b e => .inl e⟩
   · exact ⟨h2, fun b e => .inr e⟩
   · exact ⟨h3, fun _ h => h.elim⟩
 · refine .cons (fun x hx => ?_) (.cons (fun x hx => ?_) (List.pairwise_singleton ..))
   · simp only [List.mem_cons, List.mem_nil_iff, or_false] at hx;rcases hx with rfl | rfl
     · exact ⟨fun _ b hb e => h4 (e ▸ hb), fun _ b e hb => h4 (e ▸ hb)⟩
     · exact ⟨fun _ _ _ h => h, fun q => nomatch q⟩
   · rcases List.mem_singleton.1 hx with rfl;exact ⟨fun _ _ _ h => h, fun q => nomatch q⟩
theorem zR (gB g : Nat) (z : jh) (ps : List P4) (tl : List Value) (xs : List Int) (w : World) (hz : z.E.length = 0) (hP : gQ 0 z.d (bE z.E) (gi xs) 0 (bE z.E) (gi xs)) (hxl : xs.length = 0) (h : (En.vi gB 0 z g ps tl xs).F w) :
 Calls Tryz.prog 64 #[.pointer (some ⟨gB, 0, none⟩), .slice (some ⟨g, 0, none⟩) 0 0] w fun e w' => ∃ z', e = .returned (.tuple #[]) /\ aN (fun b => cY gB z b ∨ b = g) w w' /\ dx gB 0 z' w' /\ (∀ b, cY gB z' b -> (cY gB z b ∨ b = g) ∨ w.heap.size <= b) /\ r5 0 z z' xs := by
 have HF : Hid (dx gB 0 z w) := hi_ h.1;have HR : Hid (r5 0 z z xs) := hi_ ⟨rfl, hz, fun t ht => absurd ht (Nat.not_lt_zero _), xs, hxl, hP⟩;have c0 : w.cell? ⟨gB, 0, none⟩ = some (.slice z.ro 0 z.rc) := by rw [h.1.1.1.cell]; show some (Value.slice z.ro z.E.length z.rc) = _; rw [hz]
 have HA : Fr (fun _ => False) w w [.cell ⟨gB, 0, none⟩ (.slice z.ro 0 z.rc)] := Fr.cl (Fr.nil _ w) c0 (by simp);obtain ⟨ro, rc, gs, E, dp, d⟩ := z;have HN := hi_ (fun (w' : World) (hb : Below w.heap.size w w') => show aN (fun b => cY gB ⟨ro, rc, gs, E, dp, d⟩ b ∨ b = g) w w' /\ dx gB 0 ⟨ro, rc, gs, E, dp, d⟩ w' from ⟨aN.aU hb, HF.out.gR (aN.aU (S := fun _ => False) hb) (Wl.none _) fun _ _ h => h⟩);clear h hz hP hxl c0;refine bS (S0 := fun _ => False) Tryz.func64 HA ?_;clear HA;refine ah ?_;refine rW [] ?_;(iterate 6 refine dW ?_);refine eW ?_;refine ah ?_;refine cI (X := Unit) (fun _ => True) (fun _ => 0) (fun _ => [(18, .int .i64 0), (17, .int .i64 0)]) (fun _ => []) () trivial fun _ _ => ?_;refine ah ?_;refine rW [] ?_;refine dB false ?_;refine eW ?_;refine ah ?_;refine dT ?_;refine ah ?_;refine tq fun w' H => ?_;obtain ⟨h1, h2⟩ := HN.out w' H.below;exact ⟨_, rfl, h1, h2, fun b h => .inl (.inl h), HR.out⟩
theorem Ai (gB n B g : Nat) (z : jh) (ps : List P4) (tl : List Value) (xs : List Int) (w : World) (hn0 : 0 < n) (hn : n <= 64) (hB : B <= 1000000000) (hz : z.E.length = n) (hrl : ∀ t < n, (z.E.getD t []).length = n) (hd : 0 < z.d) (hdB : ag z.d.natAbs <= B) (hxl : xs.length = n) (hxb : ∀ a ∈ xs, ag a.natAbs <= B) (hP : gQ n z.d (bE z.E) (gi xs) 0 (bE z.E) (gi xs)) (h : (En.vi gB n z g ps tl xs).F w) :
 Calls Tryz.prog 64 #[.pointer (some ⟨gB, 0, none⟩), .slice (some ⟨g, 0, none⟩) n n] w fun e w' => ∃ z', e = .returned (.tuple #[]) /\ aN (fun b => cY gB z b ∨ b = g) w w' /\ dx gB n z' w' /\ (∀ b, cY gB z' b -> (cY gB z b ∨ b = g) ∨ w.heap.size <= b) /\ r5 n z z' xs := by
 have H0 := (Fr.vi h).AQ;have hnt : aI tl := h.2.1;have hpl : ps.length = n := h.2.2.2.1.1.trans hxl;obtain ⟨ro, rc, gs, E, dp, d⟩ := z
 replace hz : E.length = n := hz
 obtain ⟨H0, h6, h7⟩ := H0
 replace h6 : gs.length = n := h6.trans hz
 replace h7 : fz gs n := by rw [<- hz]; exact h7
 obtain ⟨E0, hE0⟩ : ∃ E0, bE E = E0 := ⟨_, rfl⟩;obtain ⟨v0, hv0⟩ : ∃ v0, gi xs = v0 := ⟨_, rfl⟩;have hI : wY n B d E0 v0 ⟨0, gs, E, g, ps, tl, xs⟩ := ⟨Nat.zero_le _, h6, h7, hz, hrl, hpl, hxl, by rw [<- hE0, <- hv0]; exact hP, hxb, hnt⟩;have H1 : Fr (fun b => cY gB ⟨ro, rc, gs, E, dp, d⟩ b ∨ b = g) w w [.lg 22 1 ro n rc (hG n gs), .row g 37 (rn ps tl), .row gB 95 [.slice ro n rc, .bool dp.1, .slice dp.2.1 dp.2.2.1 dp.2.2.2], .ns ps xs, .num (av dp) d, .eI [] gs E] := by
  have H := H0;simp only [xZ, oO, List.cons_append, List.nil_append] at H;rw [hz] at H;have H2 : Fr _ w w (.iR n gs E :: [.lg 22 1 ro n rc (hG n gs), .row g 37 (rn ps tl), .row gB 95 [.slice ro n rc, .bool dp.1, .slice dp.2.1 dp.2.2.1 dp.2.2.2], .ns ps xs, .num (av dp) d]) := H.pick (by repeat (first | exact Pk.n | refine Pk.c (by repeat (first | exact Rm.z | apply Rm.s)) ?_));exact (H2.AG (by omega)).pick (by repeat (first | exact Pk.n | refine Pk.c (by repeat (first | exact Rm.z | apply Rm.s)) ?_))
 have HD : Hid (0 < d /\ ag d.natAbs <= B) := hi_ ⟨hd, hdB⟩;have HI := hi_ hI;have HE := hi_ (And.intro hE0 hv0);have HL := hi_ h6;clear H0 h hz hrl hd hdB hxl hxb hP hnt hpl h6 h7 hI hE0 hv0;refine bS (S0 := fun b => cY gB ⟨ro, rc, gs, E, dp, d⟩ b ∨ b = g) Tryz.func64 H1 ?_;clear H1;refine ah ?_;refine tS (by omega) fun rb tl1 e1 ht1 hl1 => ?_;subst e1;have HT := hi_ (And.intro ht1 hl1);clear ht1 hl1;refine rW [] ?_;(iterate 6 refine dW ?_);refine eW ?_;refine ah ?_;refine cI (X := PuX) (wY n B d E0 v0) (fun x => n - x.j) (fun x => [(18, .int .i64 (x.j : Int)), (17, .int .i64 (n : Int)), (16, .slice (some ⟨rb, 0, none⟩) n rc), (1, .slice (some ⟨x.bv, 0, none⟩) n n), (0, .pointer (some ⟨gB, 0, none⟩))])
  (fun x => [.row x.bv 37 (rn x.ps x.tl), .row rb 22 (hG n x.gs ++ tl1), .row gB 95 [.slice (some ⟨rb, 0, none⟩) n rc, .bool dp.1, .slice dp.2.1 dp.2.2.1 dp.2.2.2], .ns x.ps x.xs, .num (av dp) d, .eI [] x.gs x.E]) ⟨0, gs, E, g, ps, tl, xs⟩ HI.out fun x hx => ?_
 obtain ⟨j, gs1, E1, bv, ps1, tlv, xs1⟩ := x;have HM : Hid (wY n B d E0 v0 ⟨j, gs1, E1, bv, ps1, tlv, xs1⟩) := hi_ hx;have hj : j <= n := hx.hj;clear hx;by_cases h : j < n
 · have h01 : (j : Int) < (n : Int) := by omega
   obtain ⟨bt, hbt⟩ : ∃ bt, gs1.getD j 0 = bt := ⟨_, rfl⟩;have k1 := lK (c := n) tl1 (by rw [show gs1.length = n from HM.out.gl]; exact h) hbt;have HG := hi_ hbt;clear hbt;have k2 := rH tlv (ps := ps1) (i := j) (by rw [show ps1.length = n from HM.out.pl]; exact h);have k3 := rK tlv (ps := ps1) (i := j) (by rw [show ps1.length = n from HM.out.pl]; exact h);obtain ⟨m, hm⟩ : ∃ m, gi xs1 j % d = m := ⟨_, rfl⟩;have Hm := hi_ hm;clear hm;refine ah ?_;refine rW [] ?_;refine dB true ?_;refine eW ?_;refine ah ?_;refine fB ?_;refine ah ?_;refine rW [] ?_;(iterate 5 refine dW ?_);refine eW ?_;refine ah ?_;refine rW [] ?_;(iterate 10 refine dW ?_);refine vH (x := m) (z := .int .i64 0) (fun w' H => by
    have := rL (av (gp ps1 j)) (av dp) (gi xs1 j) d w' (aH.int ((H.all (.ns ps1 xs1) (by simp) : bQ ..).2 j (by rw [show ps1.length = n from HM.out.pl]; exact h)) (Nat.le_trans (HM.out.wb _ (jY (by rw [show xs1.length = n from HM.out.xl]; exact h))) (by omega))) (aH.int (H.all (.num (av dp) d) (by simp)) (Nat.le_trans HD.out.2 (by omega))) (by have := HD.out.1; omega);rw [Hm.out] at this; exact this) fun p3 => ?_
   obtain ⟨ps2, hps2⟩ : ∃ l, ps1.set j p3 = l := ⟨_, rfl⟩;obtain ⟨xs2, hxs2⟩ : ∃ l, xs1.set j m = l := ⟨_, rfl⟩;refine ja (e := .ns ps2 xs2) (fun w' H => by rw [<- hps2, <- hxs2]; exact bQ.set (H.all (.ns ps1 xs1) (by simp)) j (H.all (.own w.heap.size (av p3) m) (by simp [av]) : aj ..).num) ?_;(iterate 4 refine dW ?_);refine sN (ps := ps1) (ps' := ps2) j p3 (by rw [show ps1.length = n from HM.out.pl]; exact h) HM.out.nt hps2 ?_;refine eW ?_;refine ah ?_;have hpl2 : ps2.length = n := by rw [<- hps2, List.length_set]; exact HM.out.pl
   have hxl2 : xs2.length = n := by rw [<- hxs2, List.length_set]; exact HM.out.xl
   have hmj : gi xs2 j = m := by rw [<- hxs2, gE (by rw [show xs1.length = n from HM.out.xl]; exact h), if_pos rfl]
   have HX2 := hi_ (And.intro hps2 (And.intro hxs2 (And.intro hpl2 (And.intro hxl2 hmj))));clear hps2 hxs2 hpl2 hxl2 hmj k2 k3;have k2 := rH tlv (ps := ps2) (i := j) (by rw [HX2.out.2.2.1]; exact h);have k3 := rK tlv (ps := ps2) (i := j) (by rw [HX2.out.2.2.1]; exact h);refine mQ (e := .num (av (gp ps2 j)) m) (fun w' H => by have := (H.all (.ns ps2 xs2) (by simp) : bQ ..).2 j (by rw [HX2.out.2.2.1]; exact h); rw [HX2.out.2.2.2.2] at this; exact this) ?_;refine rW [] ?_;(iterate 4 refine dW ?_);refine cV (v := .int .i64 (aO m)) (fun w' H => bN (av (gp ps2 j)) m w' (aH.int (H.all (.num (av (gp ps2 j)) m) (by simp)) (by rw [<- Hm.out]; exact Nat.le_trans (pD HD.out.1) (Nat.le_trans HD.out.2 (by omega))))) ?_;by_cases hz : m = 0
   · have hz1 := zs0 hz;refine dB true ?_;refine eW ?_;refine ah ?_;refine fB ?_;refine ah ?_;refine rW [] ?_;refine dE (dR (a := j) (by omega)) ?_;refine dW ?_;refine eW ?_;refine ah ?_;exact cf (⟨j + 1, gs1, E1, bv, ps2, tlv, xs2⟩ : PuX) ⟨by have := HM.out.skip (ps' := ps2) h HD.out.1 HD.out.2 HX2.out.2.2.1 (by rw [Hm.out]; exact hz); rw [Hm.out, HX2.out.2.1] at this; exact this, by show n - (j + 1) < n - j; omega⟩
   · have hz1 := zs1 hz;have Hz := hi_ hz;clear hz;refine dB false ?_;refine eW ?_;refine ah ?_;refine dU (es' := [.eI [] gs1 E1, .row bv 37 (rn ps2 tlv), .row rb 22 (hG n gs1 ++ tl1), .row gB 95 [.slice (some ⟨rb, 0, none⟩) n rc, .bool dp.1, .slice dp.2.1 dp.2.2.1 dp.2.2.2], .num (av (gp ps2 j)) m, .ns ps2 xs2, .num (av dp) d]) ?_;refine ur j (by rw [show E1.length = n from HM.out.El]; exact h) (by simp) (by rw [show E1.length = n from HM.out.El]; exact HM.out.gi_) fun bt' psT tlT hbt htlT hpT => ?_;obtain rfl : bt = bt' := HG.out.symm.trans hbt;obtain ⟨top, htop⟩ : ∃ top, E1.getD j [] = top := ⟨_, rfl⟩;have htl : top.length = n := by rw [<- htop]; exact HM.out.rl j h
     have htb : ∀ a ∈ top, ag a.natAbs <= B := fun a ha => Nat.le_trans (HM.out.eb h a (by show a ∈ E1.getD j []; rw [htop]; exact ha)) HD.out.2;rw [htop] at hpT ⊢;rw [htl] at hpT;have k4 := rH tlT (ps := psT) (i := j) (by omega);have k5 := rK tlT (ps := psT) (i := j) (by omega);obtain ⟨a, ha⟩ : ∃ a, gi top j = a := ⟨_, rfl⟩;refine mQ (e := .num (av (gp psT j)) a) (fun w' H => by have := (H.all (.ns psT top) (by simp) : bQ ..).2 j (by omega); rw [ha] at this; exact this) ?_;have hm2 : 0 < m /\ m < d := by have h1 := Hm.out; have h2 := Hz.out; have h3 := HD.out.1; have := Int.emod_nonneg (gi xs1 j) (show d ≠ 0 by omega); have := Int.emod_lt_of_pos (gi xs1 j) h3; omega
     have ha2 : 0 < a /\ a <= d := by have := HM.out.pu.tri.pos j h; unfold bE at this; rw [show E1.getD j [] = top from htop, ha] at this; exact this
     have hex := vw ha2 hm2;have hw : ∀ y : Int, y.natAbs <= d.natAbs -> ag y.natAbs <= B := fun y hy => Nat.le_trans (aF hy) HD.out.2;have hwa := hw a (by omega);have hwm := hw m (by omega);have HW := hi_ (And.intro hex.1 (And.intro hex.2.1 (And.intro hex.2.2.1 (And.intro (hw _ hex.2.2.2.1) (And.intro (hw _ hex.2.2.2.2.1) (And.intro (hw _ hex.2.2.2.2.2.1) (And.intro (hw _ hex.2.2.2.2.2.2.1) (hw _ hex.2.2.2.2.2.2.2))))))));have HTT := hi_ (And.intro htlT (And.intro hpT (And.intro htop (And.intro htl (And.intro htb ha)))));have HWW := hi_ (And.intro hwa hwm);clear hbt htlT hpT htop htl htb ha hm2 ha2 hex hw hwa hwm;obtain ⟨eg, heg⟩ : ∃ y, bH a m = y := ⟨_, rfl⟩;obtain ⟨ex, hex⟩ : ∃ y, dV a m = y := ⟨_, rfl⟩;obtain ⟨ey, hey⟩ : ∃ y, fy a m = y := ⟨_, rfl⟩;rw [heg, hex, hey] at HW;have HEX := hi_ (And.intro heg (And.intro hex hey));clear heg hex hey;refine dU (es' := [.row bt 37 (rn psT tlT), .row bv 37 (rn ps2 tlv), .row rb 22 (hG n gs1 ++ tl1), .row gB 95 [.slice (some ⟨rb, 0, none⟩) n rc, .bool dp.1, .slice dp.2.1 dp.2.2.1 dp.2.2.2], .num (av (gp ps2 j)) m, .num (av (gp psT j)) a, .ns ps2 xs2, .ns psT top, .num (av dp) d, .eI [j] gs1 E1]) ?_;refine dT ?_;refine ah ?_;refine rW [] ?_;(iterate 8 refine dW ?_);refine cN3 (x := eg) (y := ex) (z := ey) (fun w' H => by
      have := Am (av (gp psT j)) (av (gp ps2 j)) a m w' (aH.int (H.all (.num (av (gp psT j)) a) (by simp)) (Nat.le_trans HWW.out.1 (by omega))) (aH.int (H.all (.num (av (gp ps2 j)) m) (by simp)) (Nat.le_trans HWW.out.2 (by omega)));rw [HEX.out.1, HEX.out.2.1, HEX.out.2.2] at this; exact this) fun pg px py => ?_
     (iterate 4 refine dW ?_);refine aW fun g6 => ?_;refine aW fun g7 => ?_;refine aW fun g8 => ?_;(iterate 3 refine sG ?_);refine eW ?_;refine ah ?_;refine rW [] ?_;(iterate 5 refine dW ?_);refine vH (x := a / eg) (z := .int .i64 0) (fun w' H => fR (av (gp psT j)) (av pg) a eg w' (aH.int (H.all (.num (av (gp psT j)) a) (by simp)) (Nat.le_trans HWW.out.1 (by omega))) (aj.int (H.all (.own w.heap.size (av pg) eg) (by simp [av])) (Nat.le_trans HW.out.2.2.2.1 (by omega))) (by have := HW.out.1; omega) ⟨_, HW.out.2.1⟩) fun pp => ?_;(iterate 3 refine dW ?_);refine aW fun g9 => ?_;refine sG ?_;refine dW ?_;refine eW ?_;refine ah ?_;refine rW [] ?_;(iterate 5 refine dW ?_);refine vH (x := m / eg) (z := .int .i64 0) (fun w' H => fR (av (gp ps2 j)) (av pg) m eg w' (aH.int (H.all (.num (av (gp ps2 j)) m) (by simp)) (Nat.le_trans HWW.out.2 (by omega))) (aj.int (H.all (.own w.heap.size (av pg) eg) (by simp [av])) (Nat.le_trans HW.out.2.2.2.1 (by omega))) (by have := HW.out.1; omega) ⟨_, HW.out.2.2.1⟩) fun pq => ?_;(iterate 3 refine dW ?_);refine aW fun g11 => ?_;refine sG ?_;refine dW ?_;refine eW ?_;refine ah ?_;refine rW [] ?_;(iterate 11 refine dW ?_);refine cG (α := Nat × List P4) (mk := fun p => .slice (some ⟨p.1, 0, none⟩) n n) (ens := fun p => [.row p.1 37 (rn p.2 []), .ns p.2 (iN n j ex top ey xs2 d), .pr (p.2.length = n)]) (fun w' H => by
      have hr : aa w' gB 95 [.slice (some ⟨rb, 0, none⟩) n rc, .bool dp.1, .slice dp.2.1 dp.2.2.1 dp.2.2.2] := H.all (.row gB 95 [.slice (some ⟨rb, 0, none⟩) n rc, .bool dp.1, .slice dp.2.1 dp.2.2.1 dp.2.2.2]) (by simp);exact vt gB n j B ex ey d px py dp (some ⟨bt, 0, none⟩) (some ⟨bv, 0, none⟩) n n top xs2 w' hn h hB (by have := HD.out.1; omega) (aj.int (H.all (.own w.heap.size (av px) ex) (by simp [av])) HW.out.2.2.2.2.1) (aj.int (H.all (.own w.heap.size (av py) ey) (by simp [av])) HW.out.2.2.2.2.2.1) (aH.int (H.all (.num (av dp) d) (by simp)) HD.out.2) (by rw [hr.cell]; rfl) (by rw [hr.cell]; rfl)
       (nv (H.all (.row bt 37 (rn psT tlT)) (by simp)) (H.all (.ns psT top) (by simp)) HTT.out.2.2.2.2.1) (nv (H.all (.row bv 37 (rn ps2 tlv)) (by simp)) (H.all (.ns ps2 xs2) (by simp)) (by rw [<- HX2.out.2.1]; exact lq HM.out.wb HWW.out.2)) HTT.out.2.2.2.1 HX2.out.2.2.2.1) fun q1 => ?_
     refine dW ?_;refine sW (b := rb) (k := j) (cs := hG n gs1 ++ tl1) (us := [.slice (some ⟨q1.1, 0, none⟩) n n]) (hU := rfl) (hu := ⟨(gG n gs1).append HT.out.1, by decide⟩) ?_;refine eW ?_;refine ah ?_;refine rW [] ?_;(iterate 5 refine dW ?_);refine cN (x := -(m / eg)) (fun w' H => iT (av pq) (m / eg) w' (aj.int (H.all (.own w.heap.size (av pq) (m / eg)) (by simp [av])) (Nat.le_trans HW.out.2.2.2.2.2.2.2 (by omega)))) fun pn => ?_;refine dW ?_;refine cG (α := Nat × List P4) (mk := fun p => .slice (some ⟨p.1, 0, none⟩) n n) (ens := fun p => [.row p.1 37 (rn p.2 []), .ns p.2 (iN n j (a / eg) xs2 (-(m / eg)) top d), .pr (p.2.length = n)]) (fun w' H => by
      have hr : aa w' gB 95 [.slice (some ⟨rb, 0, none⟩) n rc, .bool dp.1, .slice dp.2.1 dp.2.2.1 dp.2.2.2] := H.all (.row gB 95 [.slice (some ⟨rb, 0, none⟩) n rc, .bool dp.1, .slice dp.2.1 dp.2.2.1 dp.2.2.2]) (by simp);exact vt gB n j B (a / eg) (-(m / eg)) d pp pn dp (some ⟨bv, 0, none⟩) (some ⟨bt, 0, none⟩) n n xs2 top w' hn h hB (by have := HD.out.1; omega) (aj.int (H.all (.own w.heap.size (av pp) (a / eg)) (by simp [av])) HW.out.2.2.2.2.2.2.1) (aj.int (H.all (.own w.heap.size (av pn) (-(m / eg))) (by simp [av])) (by rw [Int.natAbs_neg]; exact HW.out.2.2.2.2.2.2.2)) (aH.int (H.all (.num (av dp) d) (by simp)) HD.out.2) (by rw [hr.cell]; rfl) (by rw [hr.cell]; rfl)
       (nv (H.all (.row bv 37 (rn ps2 tlv)) (by simp)) (H.all (.ns ps2 xs2) (by simp)) (by rw [<- HX2.out.2.1]; exact lq HM.out.wb HWW.out.2)) (nv (H.all (.row bt 37 (rn psT tlT)) (by simp)) (H.all (.ns psT top) (by simp)) HTT.out.2.2.2.2.1) HX2.out.2.2.2.1 HTT.out.2.2.2.1) fun q2 => ?_
     refine dW ?_;refine eW ?_;refine ah ?_;refine sU (A := q2.2.length = n) (by simp) fun hq2 => ?_;refine vI (A := ∀ s, s < n -> s ≠ j -> gs1.getD s 0 ≠ q1.1) (fun w' h' => by
      have h2 : Fr _ w w' (.row q1.1 37 (rn q1.2 []) :: .ns q1.2 (iN n j ex top ey xs2 d) :: .eI [j] gs1 E1 :: []) := h'.pick (by repeat (first | exact Pk.n | refine Pk.c (by repeat (first | exact Rm.z | apply Rm.s)) ?_));have h3 := (h2.rwoN (by rw [show E1.length = n from HM.out.El]; exact h) (by rw [show E1.length = n from HM.out.El]; exact HM.out.gl) aI.nil (by simp)).2;intro s h4 h5; exact h3 s (by rw [show E1.length = n from HM.out.El]; exact h4) h5 (by simp)) fun hne => ?_
     have HN := hi_ (And.intro hq2 hne);clear hq2 hne;refine rW [] ?_;refine dE (dR (a := j) (by omega)) ?_;refine dW ?_;refine eW ?_;refine ah ?_;exact cf (⟨j + 1, gs1.set j q1.1, E1.set j (iN n j ex top ey xs2 d), q2.1, q2.2, [], iN n j (a / eg) xs2 (-(m / eg)) top d⟩ : PuX) ⟨by have := HM.out.mix (g1 := q1.1) (g2 := q2.1) (ps' := q2.2) h HD.out.1 HD.out.2 HN.out.1 (by rw [Hm.out]; exact Hz.out) HTT.out.2.2.1 HTT.out.2.2.2.2.2 Hm.out HX2.out.2.1 HN.out.2; rw [HEX.out.1, HEX.out.2.1, HEX.out.2.2] at this; exact this, by show n - (j + 1) < n - j; omega⟩ (he := by
      intro w' h';have h2 : Fr _ w w' (.row q1.1 37 (rn q1.2 []) :: .ns q1.2 (iN n j ex top ey xs2 d) :: .eI [j] gs1 E1 :: [.row q2.1 37 (rn q2.2 []), .row rb 22 ((hG n gs1 ++ tl1).set j (.slice (some ⟨q1.1, 0, none⟩) n n)), .row gB 95 [.slice (some ⟨rb, 0, none⟩) n rc, .bool dp.1, .slice dp.2.1 dp.2.2.1 dp.2.2.2], .ns q2.2 (iN n j (a / eg) xs2 (-(m / eg)) top d), .num (av dp) d]) := h'.pick (by repeat (first | exact Pk.n | refine Pk.c (by repeat (first | exact Rm.z | apply Rm.s)) ?_));have h3 := (h2.rwoN (by rw [show E1.length = n from HM.out.El]; exact h) (by rw [show E1.length = n from HM.out.El]; exact HM.out.gl) aI.nil (by simp)).1;rw [Al (by rw [show gs1.length = n from HM.out.gl]; exact h)] at h3;exact h3.pick (by repeat (first | exact Pk.n | refine Pk.c (by repeat (first | exact Rm.z | apply Rm.s)) ?_)))
 · obtain rfl : n = j := by omega
   refine ah ?_;refine rW [] ?_;refine dB false ?_;refine eW ?_;refine ah ?_;refine dT ?_;refine ah ?_;refine tq fun w' H => ?_;have gl : gs1.length = n := HM.out.gl;have El : E1.length = n := HM.out.El;have hF := dx.of (dp := dp) (d := d) El gl HM.out.gi_ HT.out.1 (by have := HT.out.2; rw [List.length_append, iB] at this ⊢; rw [gl, <- HL.out]; exact this) (H.all (.row gB 95 [.slice (some ⟨rb, 0, none⟩) n rc, .bool dp.1, .slice dp.2.1 dp.2.2.1 dp.2.2.2]) (by simp)) (H.all (.row rb 22 (hG n gs1 ++ tl1)) (by simp)) (H.all (.eI [] gs1 E1) (by simp)) (H.all (.num (av dp) d) (by simp));refine ⟨_, rfl, H.bs, hF, cY.of (H.own (.row gB 95 [.slice (some ⟨rb, 0, none⟩) n rc, .bool dp.1, .slice dp.2.1 dp.2.2.1 dp.2.2.2]) (by simp) rfl gB rfl) (H.own (.row rb 22 (hG n gs1 ++ tl1)) (by simp) rfl rb rfl) (fun t ht => H.own (.eI [] gs1 E1) (by simp) rfl _ ⟨t, ht, by simp, rfl⟩), rfl, El, HM.out.rl, xs1, HM.out.xl, ?_⟩;show gQ n d (bE E) (gi xs) n (bE E1) (gi xs1);rw [HE.out.1, HE.out.2]; exact HM.out.pu
theorem zV (gB n B g : Nat) (z : jh) (ps : List P4) (tl : List Value) (xs : List Int) (w : World) (hn : n <= 64) (hB : B <= 1000000000) (hz : z.E.length = n) (hrl : ∀ t < n, (z.E.getD t []).length = n) (hd : 0 < z.d) (hdB : ag z.d.natAbs <= B) (hxl : xs.length = n) (hxb : ∀ a ∈ xs, ag a.natAbs <= B) (hP : gQ n z.d (bE z.E) (gi xs) 0 (bE z.E) (gi xs)) (h : (En.vi gB n z g ps tl xs).F w) :
 Calls Tryz.prog 64 #[.pointer (some ⟨gB, 0, none⟩), .slice (some ⟨g, 0, none⟩) n n] w fun e w' => ∃ z', e = .returned (.tuple #[]) /\ aN (fun b => cY gB z b ∨ b = g) w w' /\ dx gB n z' w' /\ (∀ b, cY gB z' b -> (cY gB z b ∨ b = g) ∨ w.heap.size <= b) /\ r5 n z z' xs := by
 rcases Nat.eq_zero_or_pos n with rfl | h0
 · exact zR gB g z ps tl xs w hz hP hxl h
 · exact Ai gB n B g z ps tl xs w h0 hn hB hz hrl hd hdB hxl hxb hP h
theorem n0.le {n r i : Nat} {d : Int} {A E : Mx} (h : n0 n d r A i n E) {t : Nat} (ht : t < n) (k : Nat) : (E t k).natAbs <= d.natAbs := by
 rcases Nat.lt_trichotomy k t with q | q | q
 · rw [h.low t ht k q]; simp
 · have := h.pos t ht; rw [q]; omega
 · rcases Nat.lt_or_ge k n with hk | hk
   · have hp := h.pos k hk;rcases Nat.lt_trichotomy t i with q2 | q2 | q2
     · have := h.up t q2 k q; omega
     · subst q2; have := h.at_ ht k q hk hk; omega
     · have := h.dn t ht q2 k hk q; omega
   · rw [h.out t ht k hk]; simp
structure TyX where
 j : Nat
 E : List (List Int)
structure uR (n r : Nat) (d : Int) (A : Mx) (i : Nat) (x : TyX) : Prop where
 hj : i < x.j /\ x.j <= n
 El : x.E.length = n
 rl : ∀ t < n, (x.E.getD t []).length = n
 td : n0 n d r A i x.j (bE x.E)
 bd : ∀ t < n, ∀ k, (bE x.E t k).natAbs <= (d.natAbs + 1) ^ (if t = i then x.j - i else 1)
section
variable {n r i j : Nat} {d : Int} {A : Mx} {E : List (List Int)}
theorem uR.open (h : n0 n d r A (i + 1) n (bE E)) (hi : i < n) (El : E.length = n) (rl : ∀ t < n, (E.getD t []).length = n) : uR n r d A i ⟨i + 1, E⟩ :=
 ⟨⟨Nat.lt_succ_self _, hi⟩, El, rl, h.above hi, fun t ht k => by
  have h1 := h.le ht k;have e : (if t = i then i + 1 - i else 1) = 1 := by split <;> omega
  show (bE E t k).natAbs <= (d.natAbs + 1) ^ (if t = i then i + 1 - i else 1);have h1 : (bE E t k).natAbs <= d.natAbs := h1;rw [e, Nat.pow_one]; omega⟩
theorem oU {d : Int} {i j t : Nat} : (d.natAbs + 1) ^ (if t = i then j - i else 1) <= (d.natAbs + 1) ^ (if t = i then j + 1 - i else 1) := Nat.pow_le_pow_right (by omega) (by split <;> omega)
theorem uR.skip (h : uR n r d A i ⟨j, E⟩) (hi : i < n) (hj : j < n) (h0 : (bE E i j).fdiv (bE E j j) = 0) : uR n r d A i ⟨j + 1, E⟩ :=
 ⟨⟨Nat.lt_succ_of_lt h.hj.1, hj⟩, h.El, h.rl, h.td.skip hi hj h.hj.1 h0, fun t ht k => Nat.le_trans (h.bd t ht k) oU⟩
theorem uR.sub {q : Int} {xs : List Int} (h : uR n r d A i ⟨j, E⟩) (hi : i < n) (hj : j < n) (hq : q = (bE E i j).fdiv (bE E j j)) (hl : xs.length = n) (hx : ∀ k < n, gi xs k = if j <= k then -q * bE E j k + bE E i k else bE E i k) : uR n r d A i ⟨j + 1, E.set i xs⟩ := by
 have El : E.length = n := h.El;have hij : i < j := h.hj.1;have hR : ∀ k, gi xs k = if k < j ∨ n <= k then bE E i k else bE E i k - q * bE E j k := fun k => by
  by_cases h1 : k < n
  · rw [hx k h1];by_cases h2 : j <= k
    · rw [if_pos h2, if_neg (by omega), Int.neg_mul]; omega
    · rw [if_neg h2, if_pos (.inl (by omega))]
  · rw [if_pos (.inr (by omega)), h.td.out i hi k (by omega)]; exact dY _ _ (by omega)
 refine ⟨⟨Nat.lt_succ_of_lt hij, hj⟩, by show (E.set i xs).length = n; rw [List.length_set]; exact El, fun t ht => ?_, ?_, fun t ht k => ?_⟩
 · show ((E.set i xs).getD t []).length = n;rw [cO (by omega)]; split
   · exact hl
   · exact h.rl t ht
 · show n0 n d r A i (j + 1) (bE (E.set i xs));rw [pO (by omega)]; exact h.td.sub hi hj hij hq hR
 · show (bE (E.set i xs) t k).natAbs <= (d.natAbs + 1) ^ (if t = i then j + 1 - i else 1);rw [pO (by omega)];by_cases e : t = i
   · subst e;rw [bP, hR];have hb := h.bd t ht;rw [if_pos rfl] at hb;by_cases h1 : k < j ∨ n <= k
     · rw [if_pos h1]; exact Nat.le_trans (h.bd t ht k) oU
     · rw [if_neg h1, if_pos rfl];have hp : 0 < bE E j j /\ bE E j j <= d := h.td.pos j hj;have he : 0 <= bE E j k /\ bE E j k <= d := by
        by_cases h2 : k = j
        · subst h2; omega
        · have h3 := h.td.dn j hj hij k (by omega) (by omega);have h4 := h.td.pos k (by omega);have h3 : 0 <= bE E j k /\ bE E j k < bE E k k := h3;have h4 : 0 < bE E k k /\ bE E k k <= d := h4;omega
       have := vk (a := bE E t k) (e := bE E j k) (q := q) (x := bE E t j) (d := d) (M := (d.natAbs + 1) ^ (j - t)) (D := d.natAbs + 1) (hb k) (hb j) he (by omega) (by rw [hq]; exact oJ hp.1) (Nat.le_refl _);rw [<- Nat.pow_succ] at this;rw [show j + 1 - t = (j - t).succ by omega]; exact this
   · rw [aT _ e]; exact Nat.le_trans (h.bd t ht k) oU
theorem ty_wl {x d : Int} {e : Nat} (h : x.natAbs <= (d.natAbs + 1) ^ e) (he : e <= 64) : ag x.natAbs <= 64 * ag d.natAbs + 1 := by
 have h1 : d.natAbs + 1 <= W ^ ag d.natAbs := bh _;have h2 := Nat.pow_le_pow_left h1 e;rw [<- Nat.pow_mul] at h2;have h3 : ag d.natAbs * e <= ag d.natAbs * 64 := Nat.mul_le_mul_left _ he;have h4 : W ^ (ag d.natAbs * e) < W ^ (64 * ag d.natAbs + 1) := Nat.pow_lt_pow_right (by unfold W; omega) (by omega);exact au (by omega)
theorem uR.wl (h : uR n r d A i ⟨j, E⟩) (hn : n <= 64) {t : Nat} (ht : t < n) (k : Nat) : ag (bE E t k).natAbs <= 64 * ag d.natAbs + 1 := by
 refine ty_wl (h.bd t ht k) ?_;have := h.hj.2;have : j <= n := this;show (if t = i then j - i else 1) <= 64;split <;> omega
end
structure TzX where
 k : Nat
 ps : List P4
 xs : List Int
structure TzI (n i j : Nat) (q : Int) (E : List (List Int)) (x : TzX) : Prop where
 hk : j <= x.k /\ x.k <= n
 pl : x.ps.length = n
 xl : x.xs.length = n
 val : ∀ k < n, gi x.xs k = if j <= k /\ k < x.k then -q * bE E j k + bE E i k else bE E i k
structure ToX where
 m : Nat
 v : Int
 E : List (List Int)
structure ToI (n r : Nat) (d : Int) (A : Mx) (x : ToX) : Prop where
 hm : x.m <= n
 hv : x.v = (x.m : Int) - 1
 El : x.E.length = n
 rl : ∀ t < n, (x.E.getD t []).length = n
 td : n0 n d r A x.m n (bE x.E)
theorem B9 {a : Int} (h : -9223372036854775800 < a) (h2 : a < 9223372036854775807) : Value.int .i64 (IntKind.i64.wrap (a - 1)) = .int .i64 (a - 1) := by
 simp only [IntKind.wrap, IntKind.signed, IntKind.bits];congr 1;simp; omega
def TdR (n r : Nat) (A : Mx) (z z' : jh) : Prop := z'.d = z.d /\ z'.E.length = n /\ (∀ t < n, (z'.E.getD t []).length = n) /\ Md n z.d r A (bE z'.E) /\ ∀ t < n, ∀ k, (bE z'.E t k).natAbs <= z.d.natAbs
theorem y3 (gB r : Nat) (A : Mx) (z : jh) (w : World) (hz : z.E.length = 0) (hT : n0 0 z.d r A 0 0 (bE z.E)) (h : dx gB 0 z w) :
 Calls Tryz.prog 65 #[.pointer (some ⟨gB, 0, none⟩)] w fun e w' => ∃ z', e = .returned (.tuple #[]) /\ aN (cY gB z) w w' /\ dx gB 0 z' w' /\ (∀ b, cY gB z' b -> cY gB z b ∨ w.heap.size <= b) /\ TdR 0 r A z z' := by
 have HF : Hid (dx gB 0 z w) := hi_ h;have HR : Hid (TdR 0 r A z z) := hi_ ⟨rfl, hz, fun t ht => absurd ht (Nat.not_lt_zero _), hT.done, fun t ht => absurd ht (Nat.not_lt_zero _)⟩;have c0 : w.cell? ⟨gB, 0, none⟩ = some (.slice z.ro 0 z.rc) := by rw [h.1.1.cell]; show some (Value.slice z.ro z.E.length z.rc) = _; rw [hz]
 have HA : Fr (fun _ => False) w w [.cell ⟨gB, 0, none⟩ (.slice z.ro 0 z.rc)] := Fr.cl (Fr.nil _ w) c0 (by simp);obtain ⟨ro, rc, gs, E, dp, d⟩ := z;have HN := hi_ (fun (w' : World) (hb : Below w.heap.size w w') => show aN (cY gB ⟨ro, rc, gs, E, dp, d⟩) w w' /\ dx gB 0 ⟨ro, rc, gs, E, dp, d⟩ w' from ⟨aN.aU hb, HF.out.gR (aN.aU (S := fun _ => False) hb) (Wl.none _) fun _ _ h => h⟩);clear h hz hT c0;refine bS (S0 := fun _ => False) Tryz.func65 HA ?_;clear HA;refine ah ?_;refine rW [] ?_;(iterate 5 refine dW ?_);refine dE (v := .int .i64 (-1)) (B9 (a := 0) (by omega) (by omega)) ?_;refine dW ?_;refine eW ?_;refine ah ?_;refine cI (X := Unit) (fun _ => True) (fun _ => 0) (fun _ => [(2, .int .i64 (-1))]) (fun _ => []) () trivial fun _ _ => ?_;refine ah ?_;refine rW [] ?_;refine dW ?_;refine dB false ?_;refine eW ?_;refine ah ?_;refine dT ?_;refine ah ?_;refine tq fun w' H => ?_;obtain ⟨h1, h2⟩ := HN.out w' H.below;exact ⟨_, rfl, h1, h2, fun b h => .inl h, HR.out⟩
theorem zv (gB n r B : Nat) (A : Mx) (z : jh) (w : World) (hn0 : 0 < n) (hn : n <= 64) (hB : B <= 1000000000) (hz : z.E.length = n) (hrl : ∀ t < n, (z.E.getD t []).length = n) (hdB : ag z.d.natAbs <= B) (hT : n0 n z.d r A n n (bE z.E)) (h : dx gB n z w) :
 Calls Tryz.prog 65 #[.pointer (some ⟨gB, 0, none⟩)] w fun e w' => ∃ z', e = .returned (.tuple #[]) /\ aN (cY gB z) w w' /\ dx gB n z' w' /\ (∀ b, cY gB z' b -> cY gB z b ∨ w.heap.size <= b) /\ TdR n r A z z' := by
 have H0 := (Fr.basS h).AQ;obtain ⟨ro, rc, gs, E, dp, d⟩ := z
 replace hz : E.length = n := hz
 obtain ⟨H0, h6, h7⟩ := H0
 replace h6 : gs.length = n := h6.trans hz
 replace h7 : fz gs n := by rw [<- hz]; exact h7
 have hI : ToI n r d A ⟨n, (n : Int) - 1, E⟩ := ⟨Nat.le_refl _, rfl, hz, hrl, hT⟩;have H1 : Fr (cY gB ⟨ro, rc, gs, E, dp, d⟩) w w [.lg 22 1 ro n rc (hG n gs), .row gB 95 [.slice ro n rc, .bool dp.1, .slice dp.2.1 dp.2.2.1 dp.2.2.2], .num (av dp) d, .eI [] gs E] := by
  have H := H0;simp only [xZ, oO, List.cons_append, List.nil_append] at H;rw [hz] at H;have H2 : Fr _ w w (.iR n gs E :: [.lg 22 1 ro n rc (hG n gs), .row gB 95 [.slice ro n rc, .bool dp.1, .slice dp.2.1 dp.2.2.1 dp.2.2.2], .num (av dp) d]) := H.pick (by repeat (first | exact Pk.n | refine Pk.c (by repeat (first | exact Rm.z | apply Rm.s)) ?_));exact (H2.AG (by omega)).pick (by repeat (first | exact Pk.n | refine Pk.c (by repeat (first | exact Rm.z | apply Rm.s)) ?_))
 have HI := hi_ hI;have HL := hi_ (And.intro h6 h7);obtain ⟨B2, hB2⟩ : ∃ B2, 64 * ag d.natAbs + 1 = B2 := ⟨_, rfl⟩;have hBm : B2 <= 64000000001 := by have hdB : ag d.natAbs <= B := hdB; omega
 have HB := hi_ hB2;clear H0 h hz hrl hdB hT h6 h7 hI hB2;refine bS (S0 := cY gB ⟨ro, rc, gs, E, dp, d⟩) Tryz.func65 H1 ?_;clear H1;refine ah ?_;refine tS (by omega) fun rb tl1 e1 ht1 hl1 => ?_;subst e1;have HT := hi_ (And.intro ht1 hl1);clear ht1 hl1;refine rW [] ?_;(iterate 5 refine dW ?_);refine dE (B9 (a := (n : Int)) (by omega) (by omega)) ?_;refine dW ?_;refine eW ?_;refine ah ?_;refine cI (X := ToX) (ToI n r d A) (fun x => x.m) (fun x => [(2, .int .i64 x.v), (0, .pointer (some ⟨gB, 0, none⟩))])
  (fun x => [.row rb 22 (hG n gs ++ tl1), .row gB 95 [.slice (some ⟨rb, 0, none⟩) n rc, .bool dp.1, .slice dp.2.1 dp.2.2.1 dp.2.2.2], .num (av dp) d, .eI [] gs x.E]) ⟨n, (n : Int) - 1, E⟩ HI.out fun x hx => ?_
 obtain ⟨m, v, E1⟩ := x;have hm : m <= n := hx.hm;have hv : v = (m : Int) - 1 := hx.hv;have HM : Hid (ToI n r d A ⟨m, v, E1⟩) := hi_ hx;clear hx;by_cases h : 0 < m
 · obtain ⟨i, rfl⟩ : ∃ i, m = i + 1 := ⟨m - 1, by omega⟩;obtain rfl : v = (i : Int) := by omega
   clear hv;have hi : i < n := by omega
   have h01 : (0 : Int) <= (i : Int) := by omega
   obtain ⟨bi, hbi⟩ : ∃ bi, gs.getD i 0 = bi := ⟨_, rfl⟩;have k1 := lK (c := n) tl1 (by rw [HL.out.1]; exact hi) hbi;have Hbi := hi_ hbi;clear hbi;refine ah ?_;refine rW [] ?_;refine dW ?_;refine dB true ?_;refine eW ?_;refine ah ?_;refine fB ?_;refine ah ?_;refine rW [] ?_;refine dW ?_;refine dE (dR (a := i) (by omega)) ?_;refine dW ?_;refine eW ?_;refine ah ?_;refine cI (X := TyX) (uR n r d A i) (fun x => n - x.j) (fun x => [(3, .int .i64 (x.j : Int)), (2, .int .i64 (i : Int)), (0, .pointer (some ⟨gB, 0, none⟩))])
    (fun x => [.row rb 22 (hG n gs ++ tl1), .row gB 95 [.slice (some ⟨rb, 0, none⟩) n rc, .bool dp.1, .slice dp.2.1 dp.2.2.1 dp.2.2.2], .num (av dp) d, .eI [] gs x.E]) ⟨i + 1, E1⟩ (uR.open HM.out.td hi HM.out.El HM.out.rl) fun x hx => ?_
   obtain ⟨j, E2⟩ := x;have hij : i < j := hx.hj.1;have hjn : j <= n := hx.hj.2;have HY : Hid (uR n r d A i ⟨j, E2⟩) := hi_ hx;clear hx;by_cases h2 : j < n
   · have h02 : (j : Int) < (n : Int) := by omega
     refine ah ?_;refine rW [] ?_;(iterate 6 refine dW ?_);refine dB true ?_;obtain ⟨bj, hbj⟩ : ∃ bj, gs.getD j 0 = bj := ⟨_, rfl⟩;have k2 := lK (c := n) tl1 (by rw [HL.out.1]; exact h2) hbj;have Hbj := hi_ hbj;clear hbj;refine eW ?_;refine ah ?_;refine dU (es' := [.eI [] gs E2, .row rb 22 (hG n gs ++ tl1), .row gB 95 [.slice (some ⟨rb, 0, none⟩) n rc, .bool dp.1, .slice dp.2.1 dp.2.2.1 dp.2.2.2], .num (av dp) d]) ?_;refine ur i (by rw [show E2.length = n from HY.out.El]; exact hi) (by simp) (by rw [show E2.length = n from HY.out.El]; exact HL.out.2) fun bi' psI tlI hbi htlI hpI => ?_;obtain rfl : bi = bi' := Hbi.out.symm.trans hbi;refine dU (es' := [.eI [i] gs E2, .row bi 37 (rn psI tlI), .row rb 22 (hG n gs ++ tl1), .row gB 95 [.slice (some ⟨rb, 0, none⟩) n rc, .bool dp.1, .slice dp.2.1 dp.2.2.1 dp.2.2.2], .ns psI (E2.getD i []), .num (av dp) d]) ?_;refine ur j (by rw [show E2.length = n from HY.out.El]; exact h2) (by simp; omega) (by rw [show E2.length = n from HY.out.El]; exact HL.out.2) fun bj' psJ tlJ hbj htlJ hpJ => ?_;obtain rfl : bj = bj' := Hbj.out.symm.trans hbj;obtain ⟨xI, hxI⟩ : ∃ x, E2.getD i [] = x := ⟨_, rfl⟩;obtain ⟨xJ, hxJ⟩ : ∃ x, E2.getD j [] = x := ⟨_, rfl⟩;have hlI : xI.length = n := by rw [<- hxI]; exact HY.out.rl i hi
     have hlJ : xJ.length = n := by rw [<- hxJ]; exact HY.out.rl j h2
     have hgI : ∀ k, gi xI k = bE E2 i k := fun k => by unfold bE; rw [hxI]
     have hgJ : ∀ k, gi xJ k = bE E2 j k := fun k => by unfold bE; rw [hxJ]
     rw [hxI] at hpI ⊢;rw [hxJ] at hpJ ⊢;rw [hlI] at hpI;rw [hlJ] at hpJ;have k3 := rH tlI (ps := psI) (i := j) (by omega);have k4 := rK tlI (ps := psI) (i := j) (by omega);have k5 := rH tlJ (ps := psJ) (i := j) (by omega);have k6 := rK tlJ (ps := psJ) (i := j) (by omega);have hwI : ∀ k, ag (bE E2 i k).natAbs <= B2 := fun k => by rw [<- HB.out]; exact HY.out.wl hn hi k
     have hwJ : ∀ k, ag (gi xJ k).natAbs <= B2 := fun k => by rw [hgJ, <- HB.out]; exact HY.out.wl hn h2 k
     obtain ⟨a, ha⟩ : ∃ a, gi xI j = a := ⟨_, rfl⟩;obtain ⟨b, hb⟩ : ∃ b, gi xJ j = b := ⟨_, rfl⟩;have hwa : ag a.natAbs <= B2 := by rw [<- ha, hgI]; exact hwI j
     have hwb : ag b.natAbs <= B2 := by rw [<- hb]; exact hwJ j
     have hb0 : 0 < b := by rw [<- hb, hgJ]; exact (HY.out.td.pos j h2).1
     obtain ⟨q, hq⟩ : ∃ q, a.fdiv b = q := ⟨_, rfl⟩;have hwq : ag q.natAbs <= B2 := by rw [<- hq]; exact Nat.le_trans (aF (oJ hb0)) hwa
     have hqe : q = (bE E2 i j).fdiv (bE E2 j j) := by rw [<- hq, <- ha, <- hb, hgI, hgJ]
     refine mQ (e := .num (av (gp psI j)) a) (fun w' H => by have := (H.all (.ns psI xI) (by simp) : bQ ..).2 j (by omega); rw [ha] at this; exact this) ?_;refine mQ (e := .num (av (gp psJ j)) b) (fun w' H => by have := (H.all (.ns psJ xJ) (by simp) : bQ ..).2 j (by omega); rw [hb] at this; exact this) ?_;have HII := hi_ (And.intro htlI (And.intro hpI (And.intro hxI (And.intro hlI hgI))));have HJJ := hi_ (And.intro htlJ (And.intro hpJ (And.intro hxJ (And.intro hlJ hgJ))));have HW := hi_ (And.intro hwI (And.intro hwJ (And.intro hwa (And.intro hwb (And.intro hwq (And.intro hb0 (And.intro hq hqe)))))));clear hbi hbj htlI htlJ hpI hpJ hxI hxJ hlI hlJ hgI hgJ hwI hwJ hwa hwb hwq hb0 hq hqe ha hb;refine dU (es' := [.row bi 37 (rn psI tlI), .row bj 37 (rn psJ tlJ), .row rb 22 (hG n gs ++ tl1), .row gB 95 [.slice (some ⟨rb, 0, none⟩) n rc, .bool dp.1, .slice dp.2.1 dp.2.2.1 dp.2.2.2], .num (av (gp psI j)) a, .num (av (gp psJ j)) b, .ns psI xI, .ns psJ xJ, .num (av dp) d, .eI [j, i] gs E2]) ?_;refine fB ?_;refine ah ?_;refine rW [] ?_;(iterate 20 refine dW ?_);refine cN2 (x := q) (y := a.fmod b) (z := .int .i64 0) (fun w' H => by
      have := nD (av (gp psI j)) (av (gp psJ j)) a b w' (aH.int (H.all (.num (av (gp psI j)) a) (by simp)) (Nat.le_trans HW.out.2.2.1 (by omega))) (aH.int (H.all (.num (av (gp psJ j)) b) (by simp)) (Nat.le_trans HW.out.2.2.2.1 (by omega))) (by have := HW.out.2.2.2.2.2.1; omega);rw [HW.out.2.2.2.2.2.2.1] at this; exact this) fun pq pf => ?_
     (iterate 4 refine dW ?_);refine aW fun g4 => ?_;refine aW fun g5 => ?_;refine sG ?_;refine sG ?_;refine dW ?_;refine eW ?_;refine ah ?_;refine rW [] ?_;refine dW ?_;refine cV (v := .int .i64 (aO q)) (fun w' H => bN (av pq) q w' (aj.int (H.all (.own w.heap.size (av pq) q) (by simp [av])) (Nat.le_trans HW.out.2.2.2.2.1 (by omega)))) ?_;by_cases hz : q = 0
     · have hz1 := zs0 hz;refine dB true ?_;refine eW ?_;refine ah ?_;refine fB ?_;refine ah ?_;refine rW [] ?_;refine dW ?_;refine dE (dR (a := j) (by omega)) ?_;refine dW ?_;refine eW ?_;refine ah ?_;exact cf (⟨j + 1, E2⟩ : TyX) ⟨HY.out.skip hi h2 (by rw [<- HW.out.2.2.2.2.2.2.2]; exact hz), by show n - (j + 1) < n - j; omega⟩ (he := by
        intro w' h';have h3 : Fr _ w w' (.row bj 37 (rn psJ tlJ) :: .ns psJ xJ :: .eI [j, i] gs E2 :: [.row bi 37 (rn psI tlI), .ns psI xI, .row rb 22 (hG n gs ++ tl1), .row gB 95 [.slice (some ⟨rb, 0, none⟩) n rc, .bool dp.1, .slice dp.2.1 dp.2.2.1 dp.2.2.2], .num (av dp) d]) := h'.pick (by repeat (first | exact Pk.n | refine Pk.c (by repeat (first | exact Rm.z | apply Rm.s)) ?_));rw [<- Hbj.out] at h3;have h4 := h3.qo (by rw [show E2.length = n from HY.out.El]; exact h2) (by simp; omega) HJJ.out.1;rw [<- HJJ.out.2.2.1, gZ (by rw [show E2.length = n from HY.out.El]; exact h2)] at h4;have h5 : Fr _ w w' (.row bi 37 (rn psI tlI) :: .ns psI xI :: .eI [i] gs E2 :: [.row rb 22 (hG n gs ++ tl1), .row gB 95 [.slice (some ⟨rb, 0, none⟩) n rc, .bool dp.1, .slice dp.2.1 dp.2.2.1 dp.2.2.2], .num (av dp) d]) := h4.pick (by repeat (first | exact Pk.n | refine Pk.c (by repeat (first | exact Rm.z | apply Rm.s)) ?_));rw [<- Hbi.out] at h5;have h6 := h5.qo (by rw [show E2.length = n from HY.out.El]; exact hi) (by simp) HII.out.1;rw [<- HII.out.2.2.1, gZ (by rw [show E2.length = n from HY.out.El]; exact hi)] at h6;exact h6.pick (by repeat (first | exact Pk.n | refine Pk.c (by repeat (first | exact Rm.z | apply Rm.s)) ?_)))
     · have hz1 := zs1 hz;clear hz;refine dB false ?_;refine eW ?_;refine ah ?_;refine dT ?_;refine ah ?_;refine rW [] ?_;refine dW ?_;refine cN (x := -q) (fun w' H => iT (av pq) q w' (aj.int (H.all (.own w.heap.size (av pq) q) (by simp [av])) (Nat.le_trans HW.out.2.2.2.2.1 (by omega)))) fun pn => ?_;refine sW ?_;refine eW ?_;refine ah ?_;refine rW [] ?_;refine dW ?_;refine dW ?_;refine eW ?_;refine ah ?_;clear k3 k4 k5 k6 hz1;refine cI (X := TzX) (TzI n i j q E2) (fun x => n - x.k) (fun x => [(7, .int .i64 (x.k : Int)), (4, .pointer (some ⟨g4, 0, none⟩)), (3, .int .i64 (j : Int)), (2, .int .i64 (i : Int)), (0, .pointer (some ⟨gB, 0, none⟩))])
        (fun x => [.row bi 37 (rn x.ps tlI), .row bj 37 (rn psJ tlJ), .row g4 37 [.bool pn.1, .slice pn.2.1 pn.2.2.1 pn.2.2.2], .row rb 22 (hG n gs ++ tl1), .row gB 95 [.slice (some ⟨rb, 0, none⟩) n rc, .bool dp.1, .slice dp.2.1 dp.2.2.1 dp.2.2.2], .own w.heap.size (av pn) (-q), .ns x.ps x.xs, .ns psJ xJ, .num (av dp) d, .eI [j, i] gs E2]) ⟨j, psI, xI⟩ ⟨⟨Nat.le_refl _, hjn⟩, HII.out.2.1, HII.out.2.2.2.1, fun k hk => by
         rw [if_neg (by show ¬ (j <= k /\ k < j); omega)]; exact HII.out.2.2.2.2 k⟩ fun x hx => ?_
       obtain ⟨k, ps3, xs3⟩ := x;have hk1 : j <= k := hx.hk.1;have hk2 : k <= n := hx.hk.2;have hpl : ps3.length = n := hx.pl;have hxl : xs3.length = n := hx.xl;have HZ : Hid (TzI n i j q E2 ⟨k, ps3, xs3⟩) := hi_ hx;have HPX := hi_ (And.intro hpl hxl);clear hx;by_cases h3 : k < n
       · have h03 : (k : Int) < (n : Int) := by omega
         have k3 := rH tlI (ps := ps3) (i := k) (by omega);have k4 := rK tlI (ps := ps3) (i := k) (by omega);have k5 := rH tlJ (ps := psJ) (i := k) (by rw [HJJ.out.2.1]; exact h3);have k6 := rK tlJ (ps := psJ) (i := k) (by rw [HJJ.out.2.1]; exact h3);have hxk : gi xs3 k = bE E2 i k := by have := HZ.out.val k h3; rw [if_neg (by show ¬ (j <= k /\ k < k); omega)] at this; exact this
         have Hxk := hi_ hxk;clear hxk hpl hxl;refine ah ?_;refine rW [] ?_;(iterate 6 refine dW ?_);refine dB true ?_;refine eW ?_;refine ah ?_;refine fB ?_;refine ah ?_;refine rW [] ?_;(iterate 29 refine dW ?_);refine cN (x := -q * gi xJ k + gi xs3 k) (fun w' H => gP (av pn) (av (gp psJ k)) (av (gp ps3 k)) (-q) (gi xJ k) (gi xs3 k) B2 B2 w' (aj.int (H.all (.own w.heap.size (av pn) (-q)) (by simp [av])) (by rw [Int.natAbs_neg]; exact HW.out.2.2.2.2.1)) (aH.int ((H.all (.ns psJ xJ) (by simp) : bQ ..).2 k (by rw [HJJ.out.2.1]; exact h3)) (HW.out.2.1 k)) (aH.int ((H.all (.ns ps3 xs3) (by simp) : bQ ..).2 k (by rw [HPX.out.1]; exact h3)) (by rw [Hxk.out]; exact Nat.le_trans (HW.out.1 k) (by omega))) (by omega)) fun p4 => ?_;refine ja (e := .ns (ps3.set k p4) (xs3.set k (-q * gi xJ k + gi xs3 k))) (fun w' H => bQ.set (H.all (.ns ps3 xs3) (by simp)) k (H.all (.own w.heap.size (av p4) (-q * gi xJ k + gi xs3 k)) (by simp [av]) : aj ..).num) ?_;refine dW ?_;refine sN (ps := ps3) k p4 (by rw [HPX.out.1]; exact h3) HII.out.1 rfl ?_;refine eW ?_;refine ah ?_;refine rW [] ?_;refine dW ?_;refine dE (dR (a := k) (by omega)) ?_;refine dW ?_;refine eW ?_;refine ah ?_;exact cf (⟨k + 1, ps3.set k p4, xs3.set k (-q * gi xJ k + gi xs3 k)⟩ : TzX) ⟨⟨⟨by show j <= k + 1; omega, h3⟩, by show (ps3.set k p4).length = n; rw [List.length_set]; exact HPX.out.1, by show (xs3.set k _).length = n; rw [List.length_set]; exact HPX.out.2, fun t ht => by
          show gi (xs3.set k _) t = if j <= t /\ t < k + 1 then _ else _;rw [gE (by rw [HPX.out.2]; exact h3)];by_cases e : t = k
          · rw [if_pos e, if_pos (by omega), e, Hxk.out, HJJ.out.2.2.2.2]
          · rw [if_neg e];have := HZ.out.val t ht;rw [this];show (if j <= t /\ t < k then _ else _) = _;by_cases e2 : j <= t /\ t < k
            · rw [if_pos e2, if_pos (by omega)]
            · rw [if_neg e2, if_neg (by omega)]⟩, by show n - (k + 1) < n - k; omega⟩
       · obtain rfl : n = k := by omega
         refine ah ?_;refine rW [] ?_;(iterate 6 refine dW ?_);refine dB false ?_;refine eW ?_;refine ah ?_;refine dT ?_;refine ah ?_;refine rW [] ?_;refine dW ?_;refine dE (dR (a := j) (by omega)) ?_;refine dW ?_;refine eW ?_;refine ah ?_;exact cf (⟨j + 1, E2.set i xs3⟩ : TyX) ⟨HY.out.sub hi h2 HW.out.2.2.2.2.2.2.2 HPX.out.2 (fun k hk => by have := HZ.out.val k hk; rw [this]; by_cases e : j <= k; rw [if_pos e, if_pos ⟨e, hk⟩]; rw [if_neg e, if_neg (fun q => e q.1)]), by show n - (j + 1) < n - j; omega⟩ (he := by
          intro w' h';have h3 : Fr _ w w' (.row bj 37 (rn psJ tlJ) :: .ns psJ xJ :: .eI [j, i] gs E2 :: [.row bi 37 (rn ps3 tlI), .ns ps3 xs3, .row rb 22 (hG n gs ++ tl1), .row gB 95 [.slice (some ⟨rb, 0, none⟩) n rc, .bool dp.1, .slice dp.2.1 dp.2.2.1 dp.2.2.2], .num (av dp) d]) := h'.pick (by repeat (first | exact Pk.n | refine Pk.c (by repeat (first | exact Rm.z | apply Rm.s)) ?_));rw [<- Hbj.out] at h3;have h4 := h3.qo (by rw [show E2.length = n from HY.out.El]; exact h2) (by simp; omega) HJJ.out.1;rw [<- HJJ.out.2.2.1, gZ (by rw [show E2.length = n from HY.out.El]; exact h2)] at h4;have h5 : Fr _ w w' (.row bi 37 (rn ps3 tlI) :: .ns ps3 xs3 :: .eI [i] gs E2 :: [.row rb 22 (hG n gs ++ tl1), .row gB 95 [.slice (some ⟨rb, 0, none⟩) n rc, .bool dp.1, .slice dp.2.1 dp.2.2.1 dp.2.2.2], .num (av dp) d]) := h4.pick (by repeat (first | exact Pk.n | refine Pk.c (by repeat (first | exact Rm.z | apply Rm.s)) ?_));rw [<- Hbi.out] at h5;have h6 := h5.qo (by rw [show E2.length = n from HY.out.El]; exact hi) (by simp) HII.out.1;exact h6.pick (by repeat (first | exact Pk.n | refine Pk.c (by repeat (first | exact Rm.z | apply Rm.s)) ?_)))
   · obtain rfl : n = j := by omega
     refine ah ?_;refine rW [] ?_;(iterate 6 refine dW ?_);refine dB false ?_;refine eW ?_;refine ah ?_;refine dT ?_;refine ah ?_;refine rW [] ?_;refine dW ?_;refine dE (B9 (a := (i : Int)) (by omega) (by omega)) ?_;refine dW ?_;refine eW ?_;refine ah ?_;exact cf (⟨i, (i : Int) - 1, E2⟩ : ToX) ⟨⟨by show i <= n; omega, rfl, HY.out.El, HY.out.rl, HY.out.td⟩, Nat.lt_succ_self _⟩
 · obtain rfl : m = 0 := by omega
   obtain rfl : v = -1 := by omega
   clear hv;refine ah ?_;refine rW [] ?_;refine dW ?_;refine dB false ?_;refine eW ?_;refine ah ?_;refine dT ?_;refine ah ?_;refine tq fun w' H => ?_;have El : E1.length = n := HM.out.El;have hF := dx.of (dp := dp) (d := d) El HL.out.1 HL.out.2 HT.out.1 HT.out.2 (H.all (.row gB 95 [.slice (some ⟨rb, 0, none⟩) n rc, .bool dp.1, .slice dp.2.1 dp.2.2.1 dp.2.2.2]) (by simp)) (H.all (.row rb 22 (hG n gs ++ tl1)) (by simp)) (H.all (.eI [] gs E1) (by simp)) (H.all (.num (av dp) d) (by simp));exact ⟨_, rfl, H.bs, hF, cY.of (H.own (.row gB 95 [.slice (some ⟨rb, 0, none⟩) n rc, .bool dp.1, .slice dp.2.1 dp.2.2.1 dp.2.2.2]) (by simp) rfl gB rfl) (H.own (.row rb 22 (hG n gs ++ tl1)) (by simp) rfl rb rfl) (fun t ht => H.own (.eI [] gs E1) (by simp) rfl _ ⟨t, ht, by simp, rfl⟩), rfl, El, HM.out.rl, HM.out.td.done, fun t ht k => HM.out.td.le ht k⟩
theorem yL (gB n r B : Nat) (A : Mx) (z : jh) (w : World) (hn : n <= 64) (hB : B <= 1000000000) (hz : z.E.length = n) (hrl : ∀ t < n, (z.E.getD t []).length = n) (hdB : ag z.d.natAbs <= B) (hT : n0 n z.d r A n n (bE z.E)) (h : dx gB n z w) :
 Calls Tryz.prog 65 #[.pointer (some ⟨gB, 0, none⟩)] w fun e w' => ∃ z', e = .returned (.tuple #[]) /\ aN (cY gB z) w w' /\ dx gB n z' w' /\ (∀ b, cY gB z' b -> cY gB z b ∨ w.heap.size <= b) /\ TdR n r A z z' := by
 rcases Nat.eq_zero_or_pos n with rfl | h0
 · exact y3 gB r A z w hz hT h
 · exact zv gB n r B A z w h0 hn hB hz hrl hdB hT h
theorem dx.uD {gB m : Nat} {z : jh} {w : World} {l : Nat} {o o' : Obj} (hl : w.heap[l]? = some o) (hn : o.isCells = false) (h : dx gB m z w) : dx gB m z (w.putObj l o') := by
 obtain ⟨⟨h1, h2, h4, h5⟩, h6, h7⟩ := h;refine ⟨⟨gT hl hn h1, ?_, fun t ht hx => ?_, kO hl hn h5⟩, h6, h7⟩
 · exact Pz.lg (te := 22) (sz := 1) (ao := z.ro) (k := z.E.length) (cap := z.rc) (cs := hG m z.gs) w l o o' hl hn h2
 · exact Pz.iR (x := z.E.length) (gs := z.gs) (E := z.E) w l o o' hl hn h4 t ht hx
theorem Pz.lk {gB m : Nat} {z : jh} : Pz (.lk gB m z) := fun _ _ _ _ hl hn h => dx.uD hl hn h
theorem Cz.lk {gB m : Nat} {z : jh} : Cz (.lk gB m z) := fun w h _ g hg => by
 obtain ⟨t, cs, hr, hn, _⟩ := dx.rows (h : dx gB m z w) hg;exact ⟨t, cs, hr, hn⟩
theorem chgI {l N : Nat} {P : Program} {n : Nat} {S0 : Nat -> Prop} {w0 : World} {c : Code} {Q : Exit -> Act -> World -> Prop} {ls : List (Nat × Value)} {es es' : List En} (h : ∀ w, Fr S0 w0 w es -> Fr S0 w0 w es') (k : CI l N P n S0 w0 c Q ls es') : CI l N P n S0 w0 c Q ls es := fun a w ha hw => k a w ha (h w hw)
theorem Fr.bavI {S0 : Nat -> Prop} {w0 w : World} {es : List En} {gB m : Nat} {z : jh} {g : Nat} {ps : List P4} {tl : List Value} {xs : List Int} (hn : aI tl) (h : Fr S0 w0 w (.row g 37 (rn ps tl) :: .ns ps xs :: .lk gB m z :: es)) : Fr S0 w0 w (.vi gB m z g ps tl xs :: es) := by
 have hs := List.pairwise_cons.1 h.sep;refine Fr.tR (X := [.row g 37 (rn ps tl), .ns ps xs, .lk gB m z]) h ⟨h.m2, hn, h.m0, h.m1, fun hb => ?_⟩ fun b hb => ?_
 · exact (hs.1 (.lk gB m z) (by simp)).1 rfl g rfl hb
 · rcases hb with hb | hb
   · exact ⟨.lk gB m z, by simp, rfl, hb⟩
   · exact ⟨.row g 37 (rn ps tl), by simp, rfl, hb⟩
theorem Fr.basR {S0 : Nat -> Prop} {w0 w : World} {es : List En} {gB m L : Nat} {z : jh} (h : Fr S0 w0 w (.lk gB m z :: es)) (hb : ∀ t < z.E.length, ∀ a ∈ z.E.getD t [], ag a.natAbs <= L) :
 Fr S0 w0 w (.row gB 95 (oO z) :: .rl z.ro (hG m z.gs) :: .zM L (z.gs.map fun g => (some ⟨g, 0, none⟩, m)) z.E :: es) := by
 obtain ⟨h1, h6, h7⟩ := h.AQ;have h2 : Fr S0 w0 w (.lg 22 1 z.ro z.E.length z.rc (hG m z.gs) :: .iR z.E.length z.gs z.E :: .row gB 95 (oO z) :: es) := (h1.sub ((((List.Sublist.refl es).cons _).cons₂ _ |>.cons₂ _) |>.cons₂ _)).perm ((List.Perm.swap ..).trans ((List.Perm.swap ..).cons _));have h3 : Fr S0 w0 w (.rl z.ro (hG m z.gs) :: .iR z.E.length z.gs z.E :: .row gB 95 (oO z) :: es) := h2.conv nE.rl (fun b ⟨_, e⟩ => e) (fun q => nomatch q);have h4 : Fr S0 w0 w (.iR z.E.length z.gs z.E :: .rl z.ro (hG m z.gs) :: .row gB 95 (oO z) :: es) := h3.perm (List.Perm.swap ..);have hm : ∀ t, t < z.E.length -> ((z.gs.map fun g => ((some ⟨g, 0, none⟩ : Option Addr), m)).getD t (none, 0)).1 = some ⟨z.gs.getD t 0, 0, none⟩ := fun t ht => by
  rw [<- h6] at ht; simp [ht]
 have h5 : Fr S0 w0 w (.zM L (z.gs.map fun g => (some ⟨g, 0, none⟩, m)) z.E :: .rl z.ro (hG m z.gs) :: .row gB 95 (oO z) :: es) := h4.conv (fun hF t ht => by
  obtain ⟨ps, tl, _, hr, hns⟩ := (hF : y9 z.E.length z.gs z.E w) t ht (by omega);rw [hm t ht]; exact nv hr hns (hb t ht)) (fun b ⟨t, ht, _, o, e⟩ => by
  rw [hm t ht] at e; cases e; exact ⟨t, ht, by omega, rfl⟩) (fun q => nomatch q)
 exact h5.perm (((List.Perm.swap ..).trans ((List.Perm.swap ..).cons _)).trans (List.Perm.swap ..))
def eN (E : List (List Int)) : Nat -> List Int
 | 0 => []
 | k + 1 => eN E k ++ E.getD k []
theorem kS {E : List (List Int)} {n : Nat} (hl : ∀ t < n, (E.getD t []).length = n) : ∀ k, k <= n -> (eN E k).length = k * n
 | 0, _ => by simp [eN]
 | k + 1, hk => by rw [eN, List.length_append, kS hl k (by omega), hl k (by omega), Nat.succ_mul]
theorem oa {E : List (List Int)} {n : Nat} (hl : ∀ t < n, (E.getD t []).length = n) : ∀ k, k <= n -> ∀ t < k, ∀ j < n, (eN E k).getD (t * n + j) 0 = gi (E.getD t []) j
 | 0, _, t, ht, _, _ => by omega
 | k + 1, hk, t, ht, j, hj => by
  have h0 := kS hl k (by omega);rw [eN, List.getD_eq_getElem?_getD];by_cases e : t < k
  · have h2 := jb (r := k) (c := n) e hj;rw [List.getElem?_append_left (by omega), <- List.getD_eq_getElem?_getD]; exact oa hl k (by omega) t e j hj
  · obtain rfl : t = k := by omega
    rw [List.getElem?_append_right (by omega), h0, Nat.add_sub_cancel_left]; simp [gi]
theorem ze {E : List (List Int)} {n : Nat} (El : E.length = n) (hl : ∀ t < n, (E.getD t []).length = n) : aE (eN E n) n n = bE E := by
 funext t j;by_cases ht : t < n
 · by_cases hj : j < n
   · rw [eA ht hj, oa hl n (Nat.le_refl _) t ht j hj]; rfl
   · unfold aE bE;rw [if_neg (by omega)]; exact (dY _ _ (by rw [hl t ht]; omega)).symm
 · unfold aE bE;rw [if_neg (by omega), List.getD_eq_getElem?_getD, List.getElem?_eq_none (by omega)]; simp [gi]
theorem yi {xs : List Int} {j : Nat} (h : j < xs.length) : xs.take (j + 1) = xs.take j ++ [gi xs j] := by
 rw [List.take_succ, List.getElem?_eq_getElem h, c7 h]; rfl
theorem row_E {xs : List Int} {r n k : Nat} (hs : xs.length = r * n) (hk : k < r) : gi (rowOf xs n k) = aE xs r n k := by
 funext j;by_cases hj : j < n
 · unfold gi; rw [fK _ _ _ _ hj, eA hk hj]
 · unfold aE; rw [if_neg (by omega)]; exact dY _ _ (by rw [bO hs hk]; omega)
structure yy (n r : Nat) (d : Int) (A : Mx) (k : Nat) (z : jh) : Prop where
 El : z.E.length = n
 rl : ∀ t < n, (z.E.getD t []).length = n
 dz : z.d = d
 bj : mE n d A k (bE z.E)
theorem yy.start {n r : Nat} {d : Int} {A : Mx} {z : jh} (hd : 0 < d) (h : z.E = kW n d n /\ z.d = d) : yy n r d A 0 z :=
 ⟨by rw [h.1, fE], fun t ht => by rw [h.1]; simp [kW, ht], h.2, mE.start hd A fun t ht i => by rw [h.1]; exact zS ht i⟩
theorem yy.next {n r k : Nat} {d : Int} {A : Mx} {z z' : jh} {xs : List Int} (h : yy n r d A k z) (hx : gi xs = A k) (hp : r5 n z z' xs) : yy n r d A (k + 1) z' := by
 obtain ⟨h1, h2, h3, V, hV, hP⟩ := hp;rw [h.dz, hx] at hP;exact ⟨h2, h3, h1.trans h.dz, h.bj.next hP fun i hi => dY _ _ (by omega)⟩
theorem yy.out {n r k : Nat} {d : Int} {A : Mx} {z : jh} (h : yy n r d A k z) : ∀ t < n, ∀ i, n <= i -> bE z.E t i = 0 := fun t ht i hi => dY _ _ (by rw [h.rl t ht]; exact hi)
theorem factQ {P : Nat} {ds : List Deferred} {S0 : Nat -> Prop} {w0 : World} {n : Nat} {ls : List (Nat × Value)} {es : List En} {Q : Exit -> Act -> World -> Prop} {e : Exit} {A : Prop} (hA : ∀ w, Fr S0 w0 w es -> A) (k : A -> n5 ds n S0 w0 Q e ls es) : n5 ds n S0 w0 Q e ls es := fun a w ha hw => k (hA w hw) a w ha hw
theorem Ag {gB m : Nat} {z : jh} {g : Nat} {ps : List P4} {tl : List Value} {xs : List Int} {w : World} (h : (En.vi gB m z g ps tl xs).F w) : Wl (fun b => cY gB z b ∨ b = g) w := fun b hb => by
 rcases hb with hb | rfl
 · exact h.1.rows hb
 · exact ⟨_, _, h.2.2.1, aI.rn h.2.1, by decide⟩
structure LoX where
 i : Nat
 k : Nat
 ao : Option Addr
 cap : Nat
 ps : List P4
structure LoI (n : Nat) (x : LoX) : Prop where
 hi : x.i <= n
 hk : x.i * n = x.k
structure LiX where
 j : Nat
 k : Nat
 ao : Option Addr
 cap : Nat
 ps : List P4
 zs : List Int
structure LiI (n i : Nat) (row base : List Int) (x : LiX) : Prop where
 hj : x.j <= n
 hk : i * n + x.j = x.k
 hz : x.zs = base ++ row.take x.j
def lr (n r : Nat) (d : Int) (A : Mx) (zs : List Int) : Prop := zs.length = n * n /\ Md n ((d.natAbs : Nat) : Int) r A (aE zs n n) /\ ∀ t < n, ∀ k, (aE zs n n t k).natAbs <= d.natAbs
theorem nU (r n nm B cap : Nat) (ao : Option Addr) (xs : List Int) (d : Int) (pd : P4) (w : World) (hr : r <= 64) (hn : n <= 64) (hB : B <= 1000000000) (hA : aL w B ao xs) (hs : xs.length = r * n) (hnm : xs.length = nm) (hd0 : d ≠ 0) (hD : ai w B (av pd) d) :
 Calls Tryz.prog 28 #[.agg #[.int .i64 (r : Int), .int .i64 (n : Int), .slice ao nm cap], av pd] w fun e w' => (∃ p : (Option Addr × Nat) × List Int, e = .returned (.tuple #[.agg #[.int .i64 (n : Int), .int .i64 (n : Int), .slice p.1.1 (n * n) p.1.2], .int .i64 0]) /\ ik w' p.1.1 p.2 /\ lr n r d (aE xs r n) p.2 /\ ∀ b o, p.1.1 = some ⟨b, o, none⟩ -> w.heap.size <= b) /\ Below w.heap.size w w' := by
 have hxb := je hA;have hC : ∀ w', Calls Tryz.prog 7 #[.agg #[.int .i64 (r : Int), .int .i64 (n : Int), .slice ao nm cap]] w' fun e w'' => e = .returned (.int .i64 0) /\ Below w'.heap.size w' w'' := fun w' => by
  have := cJ (r : Int) (n : Int) ao nm cap w' (by omega) (by omega);rw [dC (by unfold aR bJ; rw [<- hnm, hs]; simp; omega)] at this; exact this
 have cL := fun w' (h : aL w' B ao xs) => qF r n nm ao cap xs w' hr hn (fun hl => by
  obtain ⟨b, o, e, hlt, hc⟩ := h hl;exact ⟨b, o, e, hlt, fun i hi => by obtain ⟨p, h0, h1, hn⟩ := hc i hi; exact ⟨p, h0, h1, hn.mono (by omega)⟩⟩) hs hnm
 have hwx : ∀ x ∈ xs, ag x.natAbs <= B := fun x hx => au (hxb x hx);obtain ⟨dd, hdd⟩ : ∃ dd : Int, ((d.natAbs : Nat) : Int) = dd := ⟨_, rfl⟩;have hdp : 0 < dd := by omega
 have hdw : ag dd.natAbs <= B := by rw [<- hdd]; exact hD.ag
 obtain ⟨A, hAe⟩ : ∃ A, aE xs r n = A := ⟨_, rfl⟩;have hrow : ∀ k < r, gi (rowOf xs n k) = A k := fun k hk => by rw [<- hAe]; exact row_E hs hk
 have hrl : ∀ k < r, (rowOf xs n k).length = n := fun k hk => bO hs hk;have hrw : ∀ k, ∀ x ∈ rowOf xs n k, ag x.natAbs <= B := fun k x hx => hwx x (List.mem_of_mem_drop (List.mem_of_mem_take hx));have HC := hi_ (And.intro hC cL);have HS := hi_ (And.intro hs (And.intro hnm (fun x hx => Nat.le_trans (hwx x hx) (show B <= 17592186044415 by omega))));have HR := hi_ (And.intro hrow (And.intro hrl hrw));have HD := hi_ (And.intro hdd (And.intro hdp hdw));have HA := hi_ hAe;have hz1 := zs1 hd0;rw [hAe];have HF := ((Fr.nil (fun _ => False) w).i hD).l hA (by simp [En.wr, En.at]);clear hC cL hxb hwx hs hnm hrow hrl hrw hdd hdp hdw hAe hA hD;refine zD (S0 := fun _ => False) Tryz.func28 HF ?_;clear HF;refine ah ?_;refine rW [] ?_;refine aW fun g2 => ?_;refine aW fun g3 => ?_;refine aW fun g4 => ?_;refine dW ?_;refine eW ?_;refine ah ?_;refine rW [] ?_;refine dW ?_;refine cV (v := .int .i64 0) (fun w' H => HC.out.1 w') ?_;refine dW ?_;refine eW ?_;refine ah ?_;refine rW [] ?_;refine dW ?_;refine dB false ?_;refine eW ?_;refine ah ?_;refine dT ?_;refine ah ?_;refine rW [] ?_;refine dW ?_;refine cV (v := .int .i64 (aO d)) (fun w' H => bN (av pd) d w' ((H.all (.at B (av pd) d) (by simp [av]) : ai ..).mono (by omega))) ?_;refine dB false ?_;refine eW ?_;refine ah ?_;refine dT ?_;refine ah ?_;refine rW [] ?_;(iterate 3 refine dW ?_);refine cG (α := Nat × jh) (mk := fun q => .pointer (some ⟨q.1, 0, none⟩)) (ens := fun q => [.lk q.1 n q.2, .pr (q.2.E = kW n dd n /\ q.2.d = dd)]) (hne := ⟨(0, ⟨none, 0, [], [], p0, 0⟩)⟩) (fun w' H => (vY n d pd w' hn ((H.all (.at B (av pd) d) (by simp [av]) : ai ..).mono (by omega))).mono fun e w'' ⟨q, he, hnw, h1, h2⟩ => ⟨q, he, hnw.1, fun e he => by
  rcases List.mem_cons.1 he with rfl | he
  · exact hnw.2.1 _ (List.mem_singleton.2 rfl)
  · rcases List.mem_singleton.1 he with rfl;rw [<- HD.out.1]; exact ⟨⟨h1, h2⟩, fun _ h => h.elim⟩, .cons (fun x hx => by rcases List.mem_singleton.1 hx with rfl; exact ⟨fun _ _ _ h => h, fun q => nomatch q⟩) (List.pairwise_singleton ..)⟩) fun q0 => ?_
 refine aW fun g7 => ?_;refine sG ?_;refine eW ?_;refine ah ?_;refine sU (A := q0.2.E = kW n dd n /\ q0.2.d = dd) (by simp) fun hq0 => ?_;have HQ0 := hi_ (yy.start (r := r) (A := A) HD.out.2.1 hq0);clear hq0;obtain ⟨gB, z0⟩ := q0;refine dU (es' := [.row g7 88 [.pointer (some ⟨gB, 0, none⟩)], .row g2 24 [.int .i64 (r : Int), .int .i64 (n : Int), .slice ao nm cap], .row g4 24 [.int .i64 0, .int .i64 0, .slice none 0 0], .ls B ao xs, .lk gB n z0]) ?_;refine rW [] ?_;refine dW ?_;refine cG (α := (Nat × Nat) × List P4 × List Value) (mk := fun q => .func (.func 89) #[] #[.pointer (some ⟨q.1.1, 0, none⟩)]) (ens := fun q => [.row q.1.1 24 [.int .i64 (r : Int), .int .i64 (n : Int), .slice (some ⟨q.1.2, 0, none⟩) nm nm], .row q.1.2 37 (rn q.2.1 q.2.2), .ns q.2.1 xs, .pr (aI q.2.2)]) (fun w' H => HC.out.2 w' (H.all (.ls B ao xs) (by simp))) fun q => ?_;refine eW ?_;refine ah ?_;refine sU (A := aI q.2.2) (by simp) fun hq => ?_;refine tt (X := jh) (gb := q.1.1) (b := q.1.2) (r := r) (c := n) (m := nm) (ps := q.2.1) (tl := q.2.2) (xs := xs) (yy n r dd A)
  (fun x => [.row g7 88 [.pointer (some ⟨gB, 0, none⟩)], .row g2 24 [.int .i64 (r : Int), .int .i64 (n : Int), .slice ao nm cap], .row g4 24 [.int .i64 0, .int .i64 0, .slice none 0 0], .lk gB n x])
  (fun D x => [.row g7 88 [.pointer (some ⟨gB, 0, none⟩)], .row g2 24 [.int .i64 (r : Int), .int .i64 (n : Int), .slice ao nm cap], .row g4 24 [.int .i64 0, .int .i64 0, .slice none 0 0], .lk gB n x, .uB w.heap.size D])
  z0 (fun k g => [(9, .slice (some ⟨g, 0, none⟩) n n), (7, .pointer (some ⟨g7, 0, none⟩))]) hr hn HS.out.1 HS.out.2.1 HS.out.2.2 hq HQ0.out (fun l k g W => ?_) (fun l k x g qs tk S' W hx hk htk => ?_) (fun D x hx => ?_)
  (fun x => .cons .row .row (.cons .row .row (.cons .row .row (.cons .lk .lk .nil))))
 · refine xL ?_;refine rI [] ?_;refine dW ?_;refine eW ?_;refine xL ?_;exact asgE
 · have HX := hi_ hx;clear hx;refine xL ?_;refine chgI (es' := [.row g7 88 [.pointer (some ⟨gB, 0, none⟩)], .row g2 24 [.int .i64 (r : Int), .int .i64 (n : Int), .slice ao nm cap], .row g4 24 [.int .i64 0, .int .i64 0, .slice none 0 0], .vi gB n x g qs tk (rowOf xs n k)]) (fun w' h => by
    have h2 : Fr S' W w' (.row g 37 (rn qs tk) :: .ns qs (rowOf xs n k) :: .lk gB n x :: [.row g7 88 [.pointer (some ⟨gB, 0, none⟩)], .row g2 24 [.int .i64 (r : Int), .int .i64 (n : Int), .slice ao nm cap], .row g4 24 [.int .i64 0, .int .i64 0, .slice none 0 0]]) := h.pick (by repeat (first | exact Pk.n | refine Pk.c (by repeat (first | exact Rm.z | apply Rm.s)) ?_));exact (h2.bavI htk).pick (by repeat (first | exact Pk.n | refine Pk.c (by repeat (first | exact Rm.z | apply Rm.s)) ?_))) ?_
   refine rI [] ?_;refine dW ?_;refine dW ?_;refine cUp (α := jh) (mk := fun _ => .tuple #[]) (e := .vi gB n x g qs tk (rowOf xs n k)) (e' := fun p => .lk gB n p) (ens := fun p => [.pr (r5 n x p (rowOf xs n k))]) (fun w' H => (zV gB n B g x qs tk (rowOf xs n k) w' hn hB HX.out.El HX.out.rl (by rw [HX.out.dz]; exact HD.out.2.1) (by rw [HX.out.dz]; exact HD.out.2.2) (HR.out.2.1 k hk) (HR.out.2.2 k) (by rw [HX.out.dz, HR.out.1 k hk]; exact HX.out.bj.open) (H.all (.vi gB n x g qs tk (rowOf xs n k)) (by simp))).mono fun e w'' ⟨p, he, q1, q2, q3, q4⟩ => ⟨p, he, q1, q2, q3, fun y hy => by rcases List.mem_singleton.1 hy with rfl; exact ⟨q4, fun _ h => h⟩⟩) (fun w h => Ag h) (hne := ⟨x⟩) fun p => ?_;refine eW ?_;refine xL ?_;refine factQ (P := 0) (A := r5 n x p (rowOf xs n k)) (fun w' h => h.all (.pr (r5 n x p (rowOf xs n k))) (by simp)) fun hp => ?_;exact rdE p (HX.out.next (HR.out.1 k hk) hp)
 have HX := hi_ hx;clear hx;refine ah ?_;refine rW [] ?_;refine dW ?_;refine cUp (α := jh) (mk := fun _ => .tuple #[]) (e := .lk gB n x) (e' := fun p => .lk gB n p) (ens := fun p => [.pr (TdR n r A x p)]) (fun w' H => (yL gB n r B A x w' hn hB HX.out.El HX.out.rl (by rw [HX.out.dz]; exact HD.out.2.2) (by rw [HX.out.dz]; exact n0.start HX.out.bj HD.out.2.1 HX.out.out) (H.all (.lk gB n x) (by simp))).mono fun e w'' ⟨p, he, q1, q2, q3, q4⟩ => ⟨p, he, q1, q2, q3, fun y hy => by rcases List.mem_singleton.1 hy with rfl; exact ⟨q4, fun _ h => h⟩⟩) (fun w h => dx.wl h) (hne := ⟨x⟩) fun p => ?_;refine eW ?_;refine ah ?_;refine sU (A := TdR n r A x p) (by simp) fun hp => ?_;have HP := hi_ hp;clear hp;obtain ⟨ro, rc, gs, E, dp, d'⟩ := p;refine dU (es' := [.row g7 88 [.pointer (some ⟨gB, 0, none⟩)], .row g2 24 [.int .i64 (r : Int), .int .i64 (n : Int), .slice ao nm cap], .row g4 24 [.int .i64 0, .int .i64 0, .slice none 0 0], .lk gB n ⟨ro, rc, gs, E, dp, d'⟩, .uB w.heap.size D]) ?_;have hEb : ∀ t < n, ∀ a ∈ E.getD t [], ag a.natAbs <= B := fun t ht a ha => by
  obtain ⟨i, hi, rfl⟩ := List.getElem_of_mem ha;rw [<- c7 hi];have h1 : (bE E t i).natAbs <= x.d.natAbs := HP.out.2.2.2.2 t ht i;rw [HX.out.dz] at h1;exact Nat.le_trans (aF h1) HD.out.2.2
 have HEb := hi_ hEb;clear hEb;obtain ⟨hs, hhs⟩ : ∃ hs : List (Option Addr × Nat), (gs.map fun g => ((some ⟨g, 0, none⟩ : Option Addr), n)) = hs := ⟨_, rfl⟩;refine vI (A := gs.length = n) (fun w' h' => (h'.m3 : dx gB n ⟨ro, rc, gs, E, dp, d'⟩ w').2.1.trans HP.out.2.1) fun hgl => ?_;refine vU (es' := [.row g7 88 [.pointer (some ⟨gB, 0, none⟩)], .row g2 24 [.int .i64 (r : Int), .int .i64 (n : Int), .slice ao nm cap], .row g4 24 [.int .i64 0, .int .i64 0, .slice none 0 0], .row gB 95 [.slice ro n rc, .bool dp.1, .slice dp.2.1 dp.2.2.1 dp.2.2.2], .rl ro (hG n gs), .zM B hs E, .uB w.heap.size D]) (fun w' h' => by
  have h2 : Fr _ w w' (.lk gB n ⟨ro, rc, gs, E, dp, d'⟩ :: [.row g7 88 [.pointer (some ⟨gB, 0, none⟩)], .row g2 24 [.int .i64 (r : Int), .int .i64 (n : Int), .slice ao nm cap], .row g4 24 [.int .i64 0, .int .i64 0, .slice none 0 0], .uB w.heap.size D]) := h'.pick (by repeat (first | exact Pk.n | refine Pk.c (by repeat (first | exact Rm.z | apply Rm.s)) ?_));have h3 := h2.basR (L := B) (fun t ht => HEb.out t (by rw [<- HP.out.2.1]; exact ht));have h4 : Fr _ w w' (.row gB 95 [.slice ro E.length rc, .bool dp.1, .slice dp.2.1 dp.2.2.1 dp.2.2.2] :: .rl ro (hG n gs) :: .zM B (gs.map fun g => (some ⟨g, 0, none⟩, n)) E :: [.row g7 88 [.pointer (some ⟨gB, 0, none⟩)], .row g2 24 [.int .i64 (r : Int), .int .i64 (n : Int), .slice ao nm cap], .row g4 24 [.int .i64 0, .int .i64 0, .slice none 0 0], .uB w.heap.size D]) := h3;rw [show E.length = n from HP.out.2.1, hhs] at h4;exact h4.pick (by repeat (first | exact Pk.n | refine Pk.c (by repeat (first | exact Rm.z | apply Rm.s)) ?_))) ?_
 have HG := hi_ (And.intro hhs hgl);clear hhs hgl;refine rW [] ?_;(iterate 5 refine dW ?_);refine aW fun g10 => ?_;refine sG ?_;refine eW ?_;refine ah ?_;refine rW [] ?_;(iterate 6 refine dW ?_);refine eW ?_;refine ah ?_;refine lst0W ?_;refine mQ (e := .ns [] []) (fun w' _ => bQ.nil w') ?_;refine cI (X := LoX) (LoI n) (fun x => n - x.i) (fun x => [(48, .int .i64 (x.i : Int)), (47, .int .i64 (n : Int)), (46, .slice ro n rc), (10, .pointer (some ⟨g10, 0, none⟩)), (4, .pointer (some ⟨g4, 0, none⟩))])
  (fun x => [.row g10 24 [.int .i64 (n : Int), .int .i64 (n : Int), .slice x.ao x.k x.cap], .row g4 24 [.int .i64 0, .int .i64 0, .slice none 0 0], .kY x.ao x.k x.cap x.ps, .ns x.ps (eN E x.i), .rl ro (hG n gs), .zM B hs E, .uB w.heap.size D]) ⟨0, 0, none, 0, []⟩ ⟨Nat.zero_le _, Nat.zero_mul _⟩ fun y hy => ?_
 obtain ⟨i, K, ao1, cap1, ps1⟩ := y;have hi : i <= n := hy.hi;have HK : Hid (i * n = K) := hi_ hy.hk;clear hy;by_cases h : i < n
 · have h01 : (i : Int) < (n : Int) := by omega
   refine ah ?_;refine rW [] ?_;refine dB true ?_;refine eW ?_;refine ah ?_;obtain ⟨bi, hbi⟩ : ∃ bi, gs.getD i 0 = bi := ⟨_, rfl⟩;have k1 := lK (c := n) [] (by rw [HG.out.2]; exact h) hbi;rw [List.append_nil] at k1;refine rlW (ao := ro) (cs := hG n gs) (v := .slice (some ⟨bi, 0, none⟩) n n) i (by simp) k1 fun rb hrb => ?_;subst hrb;refine lrsW (L := B) (hs := hs) (R := E) i (by simp) (by rw [show E.length = n from HP.out.2.1]; exact h) ?_;rw [show (hs.getD i (none, 0)).1 = some ⟨bi, 0, none⟩ by rw [<- HG.out.1, <- hbi]; have := HG.out.2; simp [show i < gs.length by omega]];obtain ⟨row, hrow⟩ : ∃ row, E.getD i [] = row := ⟨_, rfl⟩;rw [hrow];have hrl : row.length = n := by rw [<- hrow]; exact HP.out.2.2.1 i h
   have HW := hi_ (And.intro hrow hrl);clear hrow hrl hbi k1;refine fB ?_;refine ah ?_;refine rW [] ?_;(iterate 3 refine dW ?_);refine eW ?_;refine ah ?_;refine rW [] ?_;(iterate 3 refine dW ?_);refine eW ?_;refine ah ?_;refine cI (X := LiX) (LiI n i row (eN E i)) (fun x => n - x.j) (fun x => [(54, .int .i64 (x.j : Int)), (53, .int .i64 (n : Int)), (52, .slice (some ⟨bi, 0, none⟩) n n), (48, .int .i64 (i : Int)), (47, .int .i64 (n : Int)), (46, .slice (some ⟨rb, 0, none⟩) n rc), (10, .pointer (some ⟨g10, 0, none⟩)), (4, .pointer (some ⟨g4, 0, none⟩))])
    (fun x => [.row g10 24 [.int .i64 (n : Int), .int .i64 (n : Int), .slice x.ao x.k x.cap], .row g4 24 [.int .i64 0, .int .i64 0, .slice none 0 0], .kY x.ao x.k x.cap x.ps, .ns x.ps x.zs, .ls B (some ⟨bi, 0, none⟩) row, .rl (some ⟨rb, 0, none⟩) (hG n gs), .zM B hs E, .uB w.heap.size D]) ⟨0, K, ao1, cap1, ps1, eN E i⟩ ⟨Nat.zero_le _, HK.out, by simp⟩ fun y hy => ?_
   obtain ⟨j, K2, ao2, cap2, ps2, zs⟩ := y;have hj : j <= n := hy.hj;have HY := hi_ (And.intro (show i * n + j = K2 from hy.hk) (show zs = eN E i ++ row.take j from hy.hz));clear hy;by_cases h2 : j < n
   · have h02 : (j : Int) < (n : Int) := by omega
     have hKN : K2 <= 100000000 := by have h3 := HY.out.1; have h4 := jb (r := n) (c := n) h h2; have := Nat.mul_le_mul hn hn; omega
     refine ah ?_;refine rW [] ?_;refine dB true ?_;refine eW ?_;refine ah ?_;refine rO (L := B) (xs := row) (b := bi) (o := 0) j (by simp) (by rw [HW.out.2]; exact h2) fun pv => ?_;rw [Nat.zero_add];refine fB ?_;refine ah ?_;refine rW [] ?_;refine dW ?_;refine dW ?_;refine aW fun g14 => ?_;refine sG ?_;refine eW ?_;refine ah ?_;refine rW [] ?_;(iterate 3 refine dW ?_);refine cN (x := gi row j) (fun w' H => fM (av pv) (gi row j) w' ((H.all (.at B (av pv) (gi row j)) (by simp [av]) : ai ..).mono (by omega))) fun q => ?_;refine ja (e := .ns (ps2 ++ [q]) (zs ++ [gi row j])) (fun w' H => bQ.snoc (H.all (.ns ps2 zs) (by simp)) (H.all (.own w.heap.size (av q) (gi row j)) (by simp [av]) : aj ..).num) ?_;refine bW (m := 1) fun g62 => ?_;refine Ad (g := g62) (t := 37) (c := 1) (ao := ao2) (k := K2) (cap := cap2) (ps := ps2) q hKN (by simp) fun z => ?_;refine dW ?_;refine sW ?_;refine eW ?_;refine ah ?_;refine rW [] ?_;refine dE (dR (a := j) (by omega)) ?_;refine dW ?_;refine eW ?_;refine ah ?_;exact cf (⟨j + 1, K2 + 1, z.1, z.2, ps2 ++ [q], zs ++ [gi row j]⟩ : LiX) ⟨⟨h2, by show i * n + (j + 1) = K2 + 1; have := HY.out.1; omega, by show zs ++ [gi row j] = eN E i ++ row.take (j + 1); rw [yi (by rw [HW.out.2]; exact h2), HY.out.2, List.append_assoc]⟩, by show n - (j + 1) < n - j; omega⟩
   · obtain rfl : n = j := by omega
     have hzs : zs = eN E (i + 1) := by rw [HY.out.2, eN, HW.out.1, <- HW.out.2, List.take_length]
     have HZ := hi_ hzs;clear hzs;refine ah ?_;refine rW [] ?_;refine dB false ?_;refine eW ?_;refine ah ?_;refine dT ?_;refine ah ?_;refine rW [] ?_;refine dE (dR (a := i) (by omega)) ?_;refine dW ?_;refine eW ?_;refine ah ?_;exact cf (⟨i + 1, K2, ao2, cap2, ps2⟩ : LoX) ⟨⟨h, by show (i + 1) * n = K2; rw [Nat.succ_mul]; exact HY.out.1⟩, by show n - (i + 1) < n - i; omega⟩ (he := by
      intro w' h';rw [HZ.out] at h';exact h'.pick (by repeat (first | exact Pk.n | refine Pk.c (by repeat (first | exact Rm.z | apply Rm.s)) ?_)))
 · obtain rfl : n = i := by omega
   refine ah ?_;refine rW [] ?_;refine dB false ?_;refine eW ?_;refine ah ?_;refine dT ?_;refine ah ?_;refine rW [] ?_;refine dW ?_;refine sW ?_;refine dW ?_;refine eW ?_;refine ah ?_;refine fin2M (D := D) (es' := [.row g4 24 [.int .i64 (n : Int), .int .i64 (n : Int), .slice ao1 K cap1], .kY ao1 K cap1 ps1, .ns ps1 (eN E n)]) (fun w' H => ?_) (.cons .row .row (.cons .kY .kY (.cons .ns (.no rfl) .nil))) (by simp);have hK := HK.out;subst hK;have hE := ze HP.out.2.1 HP.out.2.2.1;refine ⟨_, _, uK H.m0, ee, ⟨((ao1, cap1), eN E n), rfl, oX H.m1 H.m2, ⟨kS HP.out.2.2.1 n (Nat.le_refl _), ?_, ?_⟩, fun b o e => (H.own (.kY ao1 (n * n) cap1 ps1) (by simp) rfl b ⟨o, e⟩).elim (fun h => h.elim) id⟩, H.below⟩
   · show Md n _ r A (aE (eN E n) n n);rw [hE, HD.out.1, <- HX.out.dz]; exact HP.out.2.2.2.1
   · show ∀ t < n, ∀ k, (aE (eN E n) n n t k).natAbs <= _;rw [hE];intro t ht k;have := HP.out.2.2.2.2 t ht k;rw [HX.out.dz, <- HD.out.1] at this; exact this
section
variable {ops : Array Oper} {Q : Exit -> Act -> World -> Prop} {ds : List Deferred} {S0 : Nat -> Prop} {w0 : World} {E0 : List En} {hd : List (List Nat)} {n j s : Nat} {l : List Nat} {G E : List En} {ls : List (Nat × Value)} {ty : TypeId} {pos : String} {af : Array Edge}
theorem mI {sl sc : Operand} (y : Nat) (hb : y <= 4096) (k : ∀ g, dy ds ⟨Tryz.prog, ops, Q, S0, w0, E0, hd⟩ n l (.row g 3 (iL (List.replicate y 0)) :: G) E ((s, .slice (some ⟨g, 0, none⟩) y y) :: ls))
 (ho : ops[j]? = some ⟨some s, .makeSlice 34 sl sc, ty, pos, af, none⟩ := by rfl) (hk : (dK ls (.makeSlice 34 sl sc) && Nat.blt s n) = true := by kernel_rfl)
 (h1 : cT ls sl = .int .i64 (y : Int) := by (simp only [bX, Nat.reduceEqDiff, ↓reduceIte]) <;> rfl) (h2 : cT ls sc = .int .i64 (y : Int) := by (simp only [bX, Nat.reduceEqDiff, ↓reduceIte]) <;> rfl) : dy ds ⟨Tryz.prog, ops, Q, S0, w0, E0, hd⟩ n (j :: l) G E ls := fun A hA => by
 simp only [Bool.and_eq_true] at hk;refine ⟨_, ho, .inr (.inl ⟨rfl, rfl, fun g => .slice (some ⟨g, 0, none⟩) y y, 3, iL (List.replicate y 0), ⟨rfl, fun w => ?_⟩, fun g => k g _ (hA.put (Nat.le_of_ble_eq_true hk.2) _)⟩)⟩;rw [hA.exec (o := ⟨some s, .makeSlice 34 sl sc, ty, pos, af, none⟩) hk.1];obtain ⟨i, hi, hz, hs, hbt⟩ := info_parts sS;have hr := run_make (P := Tryz.prog) w 34 3 i (.int .i64 0) Tryz.underlying34 hi hz .i64 .i64 y y (by omega) (by omega) (by rw [hbt]; omega) (by omega);simp only [Int.toNat_natCast] at hr;have e : madeCells (Value.int .i64 0).cells (y * i.size) = (iL (List.replicate y 0)).toArray := by
  have := fc (.int .i64 0) rfl y;rw [hs, show iL (List.replicate y 0) = List.replicate y (.int .i64 0) by simp [iL], <- this]
 simp [execOp, h1, h2, hr, Result.andThen, e]
end
structure UtX where
 k : Nat
 ns : List Nat
structure UtI (n : Nat) (x : UtX) : Prop where
 hk : x.k <= n
 hl : x.ns.length = n
 val : ∀ t < x.k, x.ns.getD t 0 = t
theorem AH {ns : List Nat} {k x : Nat} : (iL ns).set k (.int .i64 (x : Int)) = iL (ns.set k x) := by unfold iL; rw [List.map_set]
theorem xQ (n : Nat) (w : World) (hn : n <= 64) : Calls Tryz.prog 36 #[.int .i64 (n : Int)] w fun e w' => ∃ g : Nat, e = .returned (.slice (some ⟨g, 0, none⟩) n n) /\ Nw w w' [.row g 3 (iL (List.range n))] := by
 refine bS (S0 := fun _ => False) Tryz.func36 (Fr.nil _ w) ?_;refine ah ?_;refine rW [] ?_;refine dW ?_;refine eW ?_;refine ah ?_;refine rW [] ?_;refine dW ?_;refine mI n (by omega) fun g => ?_;refine dW ?_;refine eW ?_;refine ah ?_;refine rW [] ?_;(iterate 3 refine dW ?_);refine eW ?_;refine ah ?_;refine cI (X := UtX) (UtI n) (fun x => n - x.k) (fun x => [(9, .int .i64 (x.k : Int)), (8, .int .i64 (n : Int)), (3, .slice (some ⟨g, 0, none⟩) n n)])
  (fun x => [.row g 3 (iL x.ns)]) ⟨0, List.replicate n 0⟩ ⟨Nat.zero_le _, by simp, fun t ht => absurd ht (Nat.not_lt_zero _)⟩ fun x hx => ?_
 obtain ⟨k, ns⟩ := x;have hk : k <= n := hx.hk;have HX : Hid (UtI n ⟨k, ns⟩) := hi_ hx;clear hx;by_cases h : k < n
 · have h01 : (k : Int) < (n : Int) := by omega
   obtain ⟨x0, hx0⟩ : ∃ x0, ns.getD k 0 = x0 := ⟨_, rfl⟩;have k1 := np [] (by rw [show ns.length = n from HX.out.hl]; exact h) hx0;rw [List.append_nil] at k1;clear hx0;refine ah ?_;refine rW [] ?_;refine dB true ?_;refine eW ?_;refine ah ?_;refine fB ?_;refine ah ?_;refine rW [] ?_;refine dW ?_;refine dW ?_;refine eW ?_;refine ah ?_;refine rW [] ?_;(iterate 4 refine dW ?_);refine sW (b := g) (k := k) (cs := iL ns) (us := [.int .i64 (k : Int)]) (hU := rfl) (hu := ⟨iF ns, by decide⟩) ?_;refine eW ?_;refine ah ?_;refine rW [] ?_;refine dE (dR (a := k) (by omega)) ?_;refine dW ?_;refine eW ?_;refine ah ?_;exact cf (⟨k + 1, ns.set k k⟩ : UtX) ⟨⟨h, by show (ns.set k k).length = n; rw [List.length_set]; exact HX.out.hl, fun t ht => by
    show (ns.set k k).getD t 0 = t;rw [cO (by rw [show ns.length = n from HX.out.hl]; exact h)];split
    · omega
    · exact HX.out.val t (by show t < k; have ht : t < k + 1 := ht; omega)⟩, by show n - (k + 1) < n - k; omega⟩ (he := by
    intro w' h';rw [AH] at h';exact h'.pick (by repeat (first | exact Pk.n | refine Pk.c (by repeat (first | exact Rm.z | apply Rm.s)) ?_)))
 · obtain rfl : n = k := by omega
   have hE : ns = List.range n := List.ext_getElem (by rw [show ns.length = n from HX.out.hl]; simp) fun t h1 h2 => by
    have := HX.out.val t (by show t < n; have := HX.out.hl; have h3 : ns.length = n := this; omega);rw [show ns.getD t 0 = ns[t] by simp [h1]] at this;rw [this]; simp
   have HE := hi_ hE;clear hE;refine ah ?_;refine rW [] ?_;refine dB false ?_;refine eW ?_;refine ah ?_;refine dT ?_;refine ah ?_;refine rW [] ?_;refine dW ?_;refine dW ?_;refine eW ?_;refine ah ?_;refine ei fun w' H => ?_;exact ⟨_, ee, g, rfl, H.below, fun e he => by rcases List.mem_singleton.1 he with rfl; exact ⟨by rw [<- HE.out]; exact H.m0, fun b hb => (H.own _ (List.mem_cons_self ..) rfl b hb).elim (fun h => h.elim) id⟩, List.pairwise_singleton ..⟩
theorem qN {m k mw : Nat} {xs : List Int} {c1 c2 : Nat -> Nat} (hk : k <= 64) (h : ∀ x ∈ xs, ag x.natAbs <= mw) : ag (dZ m xs k c1 c2).natAbs <= 64 * (mw + 1) := by
 unfold dZ;refine au (Nat.lt_of_le_of_lt (sK (B := W ^ mw) k _ fun i j => ?_) (r9 hk));have hb := pS (m := m) (K := k * k) (k := k) (rs := (List.range k).map c1) (cs := (List.range k).map c2) h;refine Nat.le_of_lt (fV (Nat.pow_pos (by unfold W; omega)) (fun x hx => ?_) i j);exact Nat.lt_of_lt_of_le (bh _) (Nat.pow_le_pow_right (by decide) (hb x hx))
def uv (n m : Nat) (xs : List Int) (k : Nat) (c1 c2 : Nat -> Nat) (zs : List Int) : Prop := iK m n (aE (mj n m xs) m n) k c1 /\ iK n m (aE xs n m) k c2 /\ lr k n (dZ m xs k c1 c2) (aE (c8 k (fv m xs (List.range n) ((List.range k).map c2)) (n * k)) n k) zs
theorem uF (n m nm mw cap : Nat) (ao : Option Addr) (xs : List Int) (w : World) (hn : n <= 64) (hm : m <= 64) (hmw : mw <= 1048577) (hA : aL w mw ao xs) (hs : xs.length = n * m) (hnm : xs.length = nm) (hrk : ∀ k1 c1 k2 c2, iK m n (aE (mj n m xs) m n) k1 c1 -> iK n m (aE xs n m) k2 c2 -> k1 = k2) (hcd : ∀ k c1 c2, iK m n (aE (mj n m xs) m n) k c1 -> iK n m (aE xs n m) k c2 -> dZ m xs k c1 c2 ≠ 0) :
 Calls Tryz.prog 35 #[.agg #[.int .i64 (n : Int), .int .i64 (m : Int), .slice ao nm cap]] w fun e w' => ∃ p : (((Option Addr × Nat) × List Int) × (Option Addr × Nat) × (Option Addr × Nat)) × (Nat × (Nat -> Nat) × (Nat -> Nat)) × P4, e = .returned (.tuple #[.agg #[.int .i64 (p.2.1.1 : Int), .int .i64 (p.2.1.1 : Int), .slice p.1.1.1.1 (p.2.1.1 * p.2.1.1) p.1.1.1.2], .slice p.1.2.1.1 p.2.1.1 p.1.2.1.2, .slice p.1.2.2.1 p.2.1.1 p.1.2.2.2, av p.2.2, .int .i64 0]) /\ Nw w w' [.pr (uv n m xs p.2.1.1 p.2.1.2.1 p.2.1.2.2 p.1.1.2), .kP p.1.1.1.1 p.1.1.2, .lg 3 1 p.1.2.1.1 p.2.1.1 p.1.2.1.2 (iL ((List.range p.2.1.1).map p.2.1.2.1)), .lg 3 1 p.1.2.2.1 p.2.1.1 p.1.2.2.2 (iL ((List.range p.2.1.1).map p.2.1.2.2)), .own w.heap.size (av p.2.2) (dZ m xs p.2.1.1 p.2.1.2.1 p.2.1.2.2)] := by
 have hwx : ∀ x ∈ xs, ag x.natAbs <= mw := fun x hx => au (je hA x hx);have hC := fun w' (h : aL w' mw ao xs) => xP n m nm mw cap ao xs w' hn hm hmw h hs hnm hrk;have hK := fun k1 c1 k2 c2 ro co (rs cs : List Nat) w' a1 a2 (a3 : aL w' mw ao xs) a4 a5 a6 a7 a8 a9 => tw n m nm cap k1 c1 k2 c2 mw ao ro co rs cs xs w' a1 a2 a3 (by omega) a4 a5 hs hnm a6 a7 hn hm a8 a9;have HC := hi_ (And.intro hC (And.intro hK (And.intro hcd hwx)));obtain ⟨B, hB⟩ : ∃ B, 64 * (mw + 1) = B := ⟨_, rfl⟩;have hBm : B <= 1000000000 := by omega
 have hmB : mw <= B := by omega
 have HB := hi_ hB;clear hC hK hrk hcd hwx hs hnm hB;refine bS (S0 := fun _ => False) Tryz.func35 ((Fr.nil _ w).l hA (by simp)) ?_;clear hA;refine ah ?_;refine rW [] ?_;refine aW fun g1 => ?_;refine aW fun g2 => ?_;refine dW ?_;refine dW ?_;refine aW fun g5 => ?_;refine dW ?_;refine eW ?_;refine ah ?_;refine rW [] ?_;refine dW ?_;refine cG (α := ((Option Addr × Nat) × (Option Addr × Nat)) × (Nat × (Nat -> Nat) × (Nat -> Nat)) × P4) (mk := fun p => .tuple #[.slice p.1.1.1 p.2.1.1 p.1.1.2, .slice p.1.2.1 p.2.1.1 p.1.2.2, .agg #[.bool p.2.2.1, .slice p.2.2.2.1 p.2.2.2.2.1 p.2.2.2.2.2], .int .i64 0]) (ens := fun p => [.pr (iK m n (aE (mj n m xs) m n) p.2.1.1 p.2.1.2.1 /\ iK n m (aE xs n m) p.2.1.1 p.2.1.2.2), .lg 3 1 p.1.1.1 p.2.1.1 p.1.1.2 (iL ((List.range p.2.1.1).map p.2.1.2.1)), .lg 3 1 p.1.2.1 p.2.1.1 p.1.2.2 (iL ((List.range p.2.1.1).map p.2.1.2.2)), .own w.heap.size (av p.2.2) (dZ m xs p.2.1.1 p.2.1.2.1 p.2.1.2.2)]) (hne := ⟨(((none, 0), (none, 0)), (0, fun _ => 0, fun _ => 0), p0)⟩) (fun w' H => (HC.out.1 w' (H.all (.ls mw ao xs) (by simp))).mono fun e w'' ⟨p, he, hb, hx, hp⟩ => ⟨p, he, hb, fun e he => by
  simp only [List.mem_cons, List.mem_nil_iff, or_false] at he;rcases he with rfl | rfl | rfl | rfl
  · exact hx _ (by simp)
  · exact hx _ (by simp)
  · exact hx _ (by simp)
  · exact ⟨aj.mono (hx (.own w'.heap.size (av p.2.2) (dZ m xs p.2.1.1 p.2.1.2.1 p.2.1.2.2)) (by simp [av])).1 H.size, fun _ h => h.elim⟩, by
  refine .cons (fun x _ => ⟨(fun q => nomatch q), fun _ _ _ h => h⟩) ?_;have h2 := (List.pairwise_cons.1 hp).2;refine .cons (fun x hx => ?_) (.cons (fun x hx => ?_) (List.pairwise_singleton ..))
  · rcases List.mem_cons.1 hx with rfl | hx
    · exact (List.pairwise_cons.1 h2).1 _ (by simp)
    · rcases List.mem_singleton.1 hx with rfl;exact ⟨fun _ _ _ h => h, fun q => nomatch q⟩
  · rcases List.mem_singleton.1 hx with rfl;exact ⟨fun _ _ _ h => h, fun q => nomatch q⟩⟩) fun q1 => ?_
 (iterate 7 refine dW ?_);refine sW ?_;refine dW ?_;refine eW ?_;refine ah ?_;refine rW [] ?_;refine dW ?_;refine dB false ?_;refine eW ?_;refine ah ?_;obtain ⟨⟨⟨ro, rc⟩, ⟨co, cc⟩⟩, ⟨k, c1, c2⟩, pd⟩ := q1;refine sU (A := iK m n (aE (mj n m xs) m n) k c1 /\ iK n m (aE xs n m) k c2) (by simp) fun hp => ?_;have hl1 := iK.lt hp.1;have hl2 := iK.lt hp.2;have hk64 : k <= 64 := by omega
 have HP := hi_ (And.intro hp (And.intro hl2.2 (HC.out.2.2.1 k c1 c2 hp.1 hp.2)));clear hp hl1 hl2;refine dT ?_;refine ah ?_;refine rW [] ?_;(iterate 3 refine dW ?_);refine cG (α := Nat) (mk := fun g => .slice (some ⟨g, 0, none⟩) n n) (ens := fun g => [.row g 3 (iL (List.range n))]) (fun w' H => xQ n w' hn) fun gu => ?_;refine dW ?_;refine uP (α := Option Addr × Nat) (mk := fun p => .tuple #[.agg #[.int .i64 (n : Int), .int .i64 (k : Int), .slice p.1 (n * k) p.2], .int .i64 0]) (ao := fun p => p.1) (xs := fun _ => c8 k (fv m xs (List.range n) ((List.range k).map c2)) (n * k)) (A := fun _ => True) (fun w' H => HC.out.2.1 n n k cc (some ⟨gu, 0, none⟩) co (List.range n) ((List.range k).map c2) w' (fun _ => by have h1 : aa w' gu 3 (iL (List.range n)) := H.all (.row gu 3 (iL (List.range n))) (by simp); exact ⟨gu, rfl, h1.lt, fun i v hv => by rw [h1.cell]; exact hv⟩) (nE.rl (H.all (.lg 3 1 co k cc (iL ((List.range k).map c2))) (by simp))) (H.all (.ls mw ao xs) (by simp)) (by simp) (by simp) (fun i hi => by simpa [hi] using hi) HP.out.2.1 hn hk64) fun t => ?_;(iterate 3 refine dW ?_);refine aW fun g7 => ?_;refine sG ?_;refine dW ?_;refine eW ?_;refine ah ?_;refine rW [] ?_;refine dW ?_;refine dW ?_;refine uP (α := (Option Addr × Nat) × List Int) (mk := fun p => .tuple #[.agg #[.int .i64 (k : Int), .int .i64 (k : Int), .slice p.1.1 (k * k) p.1.2], .int .i64 0]) (ao := fun p => p.1.1) (xs := fun p => p.2) (A := fun p => lr k n (dZ m xs k c1 c2) (aE (c8 k (fv m xs (List.range n) ((List.range k).map c2)) (n * k)) n k) p.2) (hne := ⟨((none, 0), [])⟩) (fun w' H => nU n k (n * k) B t.2 t.1 _ (dZ m xs k c1 c2) pd w' hn hk64 hBm (ik.po (H.all (.kP t.1 (c8 k (fv m xs (List.range n) ((List.range k).map c2)) (n * k))) (by simp)) (fun x hx => Nat.le_trans (pS HC.out.2.2.2 x hx) hmB)) (cU ..) (cU ..) HP.out.2.2 (aj.int (H.all (.own w.heap.size (av pd) (dZ m xs k c1 c2)) (by simp [av])) (by rw [<- HB.out]; exact qN hk64 HC.out.2.2.2))) fun z => ?_;(iterate 3 refine dW ?_);refine sW ?_;refine dW ?_;refine eW ?_;refine ah ?_;refine dU (es' := [.row g2 24 [.int .i64 (k : Int), .int .i64 (k : Int), .slice z.1.1 (k * k) z.1.2], .row g5 37 [.bool pd.1, .slice pd.2.1 pd.2.2.1 pd.2.2.2], .kP z.1.1 z.2, .pr (lr k n (dZ m xs k c1 c2) (aE (c8 k (fv m xs (List.range n) ((List.range k).map c2)) (n * k)) n k) z.2 /\ ∀ b o, z.1.1 = some ⟨b, o, none⟩ -> w.heap.size <= b), .lg 3 1 ro k rc (iL ((List.range k).map c1)), .lg 3 1 co k cc (iL ((List.range k).map c2)), .own w.heap.size (av pd) (dZ m xs k c1 c2)]) ?_;refine rW [[], [], [], [0]] ?_;(iterate 5 refine dH ?_);refine sW ?_;refine dH ?_;refine dH ?_;refine sW ?_;refine dH ?_;refine eW ?_;refine ah ?_;refine fin5 (fun w' H => ?_);have hA : lr k n (dZ m xs k c1 c2) (aE (c8 k (fv m xs (List.range n) ((List.range k).map c2)) (n * k)) n k) z.2 /\ ∀ b o, z.1.1 = some ⟨b, o, none⟩ -> w.heap.size <= b := H.all (.pr (lr k n (dZ m xs k c1 c2) (aE (c8 k (fv m xs (List.range n) ((List.range k).map c2)) (n * k)) n k) z.2 /\ ∀ b o, z.1.1 = some ⟨b, o, none⟩ -> w.heap.size <= b)) (by simp);have H2 : Fr _ w w' [.kP z.1.1 z.2, .lg 3 1 ro k rc (iL ((List.range k).map c1)), .lg 3 1 co k cc (iL ((List.range k).map c2)), .own w.heap.size (av pd) (dZ m xs k c1 c2)] := H.pick (by repeat (first | exact Pk.n | refine Pk.c (by repeat (first | exact Rm.z | apply Rm.s)) ?_));have H3 := H2.pure (e := .pr (uv n m xs k c1 c2 z.2)) ⟨HP.out.1.1, HP.out.1.2, hA.1⟩ (fun _ h => h);refine ⟨_, _, _, _, _, uK (H.all (.row g2 24 [.int .i64 (k : Int), .int .i64 (k : Int), .slice z.1.1 (k * k) z.1.2]) (by simp)), ee, ee, jB (H.all (.row g5 37 [.bool pd.1, .slice pd.2.1 pd.2.2.1 pd.2.2.2]) (by simp)), ee, ((z, (ro, rc), (co, cc)), (k, c1, c2), pd), rfl, H.below, fun e he => ⟨H3.all e he, fun b hb => ?_⟩, H3.sep⟩;have he' := he;simp only [List.mem_cons, List.mem_nil_iff, or_false] at he';rcases he' with rfl | rfl | rfl | rfl | rfl
 · exact hb.elim
 · obtain ⟨_, o, e⟩ := hb; exact hA.2 b o e
 · exact (H3.own _ he rfl b hb).elim (fun h => h.elim) id
 · exact (H3.own _ he rfl b hb).elim (fun h => h.elim) id
 · exact hb.elim
def wS (E : Mx) : Nat -> Int
 | 0 => 1
 | t + 1 => wS E t * E t t
theorem lr.wl {n r B : Nat} {d : Int} {A : Mx} {zs : List Int} (h : lr n r d A zs) (hB : ag d.natAbs <= B) : ∀ x ∈ zs, ag x.natAbs <= B := fun x hx => by
 obtain ⟨i, hi, rfl⟩ := List.getElem_of_mem hx;rw [h.1] at hi;have hn : 0 < n := by
  rcases Nat.eq_zero_or_pos n with e | e
  · subst e; omega
  · exact e
 have h1 : i / n < n := Nat.div_lt_of_lt_mul hi;have h2 := Nat.mod_lt i hn;have h3 := h.2.2 (i / n) h1 (i % n);rw [eA h1 h2] at h3;have e : i / n * n + i % n = i := by rw [Nat.mul_comm]; exact Nat.div_add_mod i n
 rw [e] at h3;refine Nat.le_trans (aF ?_) hB;rw [show zs.getD i 0 = zs[i] by simp [show i < zs.length by rw [h.1]; exact hi]] at h3;exact h3
theorem wL {E : Mx} {B : Nat} (h : ∀ t, ag (E t t).natAbs <= B) : ∀ k, ag (wS E k).natAbs <= k * B + 1
 | 0 => by show ag (1 : Int).natAbs <= _; exact Nat.le_trans (au (k := 1) (by unfold W; decide)) (by omega)
 | k + 1 => by
  have h1 := wL h k;have h2 := h k;show ag (wS E k * E k k).natAbs <= _;rw [Int.natAbs_mul];have := cP (wS E k).natAbs (E k k).natAbs;have : (k + 1) * B = k * B + B := Nat.succ_mul k B;omega
theorem zp (n m nm mw cap : Nat) (ao : Option Addr) (xs : List Int) (w : World) (hn : n <= 64) (hm : m <= 64) (hmw : mw <= 1048577) (hA : aL w mw ao xs) (hs : xs.length = n * m) (hnm : xs.length = nm) (hrk : ∀ k1 c1 k2 c2, iK m n (aE (mj n m xs) m n) k1 c1 -> iK n m (aE xs n m) k2 c2 -> k1 = k2) (hcd : ∀ k c1 c2, iK m n (aE (mj n m xs) m n) k c1 -> iK n m (aE xs n m) k c2 -> dZ m xs k c1 c2 ≠ 0) :
 Calls Tryz.prog 13 #[.agg #[.int .i64 (n : Int), .int .i64 (m : Int), .slice ao nm cap]] w fun e w' => (∃ k c1 c2 zs v, uv n m xs k c1 c2 zs /\ e = .returned (.tuple #[v, .int .i64 0]) /\ aj w' w.heap.size v (wS (aE zs k k) k)) /\ Below w.heap.size w w' := by
 have hwx : ∀ x ∈ xs, ag x.natAbs <= mw := fun x hx => au (je hA x hx);have hN := fun w' (h : aL w' mw ao xs) => uF n m nm mw cap ao xs w' hn hm hmw h hs hnm hrk hcd;have HC := hi_ (And.intro hN hwx);obtain ⟨B, hB⟩ : ∃ B, 64 * (mw + 1) = B := ⟨_, rfl⟩;have hBm : B <= 1000000000 := by omega
 have HB := hi_ hB;clear hN hrk hcd hwx hs hnm hB;refine bS (S0 := fun _ => False) Tryz.func13 ((Fr.nil _ w).l hA (by simp)) ?_;clear hA;refine ah ?_;refine rW [] ?_;refine aW fun g1 => ?_;refine aW fun g2 => ?_;refine dW ?_;refine eW ?_;refine ah ?_;refine rW [] ?_;refine dW ?_;refine cG (α := (((Option Addr × Nat) × List Int) × (Option Addr × Nat) × (Option Addr × Nat)) × (Nat × (Nat -> Nat) × (Nat -> Nat)) × P4) (mk := fun p => .tuple #[.agg #[.int .i64 (p.2.1.1 : Int), .int .i64 (p.2.1.1 : Int), .slice p.1.1.1.1 (p.2.1.1 * p.2.1.1) p.1.1.1.2], .slice p.1.2.1.1 p.2.1.1 p.1.2.1.2, .slice p.1.2.2.1 p.2.1.1 p.1.2.2.2, .agg #[.bool p.2.2.1, .slice p.2.2.2.1 p.2.2.2.2.1 p.2.2.2.2.2], .int .i64 0]) (ens := fun p => [.pr (uv n m xs p.2.1.1 p.2.1.2.1 p.2.1.2.2 p.1.1.2), .kP p.1.1.1.1 p.1.1.2]) (hne := ⟨(((((none, 0), []), (none, 0), (none, 0))), (0, fun _ => 0, fun _ => 0), p0)⟩) (fun w' H => (HC.out.1 w' (H.all (.ls mw ao xs) (by simp))).mono fun e w'' ⟨p, he, hb, hx, hp⟩ => ⟨p, he, hb, fun e he => by
  simp only [List.mem_cons, List.mem_nil_iff, or_false] at he;rcases he with rfl | rfl
  · exact hx _ (by simp)
  · exact hx _ (by simp), .cons (fun x _ => ⟨(fun q => nomatch q), fun _ _ _ h => h⟩) (List.pairwise_singleton ..)⟩) fun q1 => ?_
 (iterate 6 refine dW ?_);refine aW fun g4 => ?_;refine aW fun g7 => ?_;refine sG ?_;refine dW ?_;refine dW ?_;refine sG ?_;refine dW ?_;refine eW ?_;refine ah ?_;obtain ⟨⟨⟨⟨zo, zc⟩, zs⟩, ⟨ro, rc⟩, ⟨co, cc⟩⟩, ⟨k, c1, c2⟩, pd⟩ := q1;refine sU (A := uv n m xs k c1 c2 zs) (by simp) fun hp => ?_;have hk64 : k <= 64 := by have := (iK.lt hp.2.1).1; omega
 have hzl : zs.length = k * k := hp.2.2.1;have hzw := hp.2.2.wl (B := B) (by rw [<- HB.out]; exact qN hk64 HC.out.2);have HP := hi_ (And.intro hp (And.intro hzl hzw));clear hp hzl hzw;refine dU (es' := [.kP zo zs, .row g4 24 [.int .i64 (k : Int), .int .i64 (k : Int), .slice zo (k * k) zc], .row g2 37 [.bool false, .slice none 0 0]]) ?_;refine vU (es' := [.ls B zo zs, .row g4 24 [.int .i64 (k : Int), .int .i64 (k : Int), .slice zo (k * k) zc], .row g2 37 [.bool false, .slice none 0 0]]) (fun w' h' => h'.conv (fun h => ik.po h HP.out.2.2) (fun b h => h) (fun q => nomatch q)) ?_;refine rW [] ?_;refine dW ?_;refine dB false ?_;refine eW ?_;refine ah ?_;refine dT ?_;refine ah ?_;refine rW [] ?_;refine cN (fun w' H => ko 1 w' (by omega) (by omega)) fun p1 => ?_;refine aW fun g9 => ?_;refine sG ?_;refine eW ?_;refine ah ?_;refine rW [] ?_;(iterate 3 refine dW ?_);refine eW ?_;refine ah ?_;obtain ⟨K, hK⟩ : ∃ K, k * k = K := ⟨_, rfl⟩;rw [hK];have HK := hi_ hK;clear hK;refine cI (X := Nat × P4) (fun x => x.1 <= k) (fun x => k - x.1) (fun x => [(26, .int .i64 (x.1 : Int)), (25, .int .i64 (k : Int)), (9, .pointer (some ⟨g9, 0, none⟩)), (4, .pointer (some ⟨g4, 0, none⟩)), (2, .pointer (some ⟨g2, 0, none⟩))])
  (fun x => [.row g9 37 [.bool x.2.1, .slice x.2.2.1 x.2.2.2.1 x.2.2.2.2], .row g4 24 [.int .i64 (k : Int), .int .i64 (k : Int), .slice zo K zc], .row g2 37 [.bool false, .slice none 0 0], .own w.heap.size (av x.2) (wS (aE zs k k) x.1), .ls B zo zs]) (0, p1) (Nat.zero_le _) fun x hx => ?_
 obtain ⟨i, p⟩ := x
 replace hx : i <= k := hx
 by_cases h : i < k
 · have h01 : (i : Int) < (k : Int) := by omega
   have hlt := jb h h;have hb1 : i * k <= 4096 := Nat.mul_le_mul (show i <= 64 by omega) hk64;obtain ⟨t, ht⟩ : ∃ t, i * k + i = t := ⟨_, rfl⟩;have htK : t < K := by rw [<- HK.out, <- ht]; exact hlt
   have htl : t < zs.length := by rw [HP.out.2.1, HK.out]; exact htK
   have h03 : (t : Int) < (K : Int) := by omega
   have HT := hi_ ht;clear ht hlt;refine ah ?_;refine rW [] ?_;refine dB true ?_;refine eW ?_;refine ah ?_;refine zz (L := B) (ao := zo) (xs := zs) (by simp) (by omega) fun bx ox e => ?_;subst e;refine rO (L := B) (xs := zs) (b := bx) (o := ox) t (by simp) htl fun pv => ?_;refine fB ?_;refine ah ?_;refine rW [] ?_;refine dW ?_;refine dW ?_;refine eW ?_;refine ah ?_;refine rW [] ?_;(iterate 6 refine dW ?_);refine dE (qJ (a := i) (b := k) (by omega)) ?_;refine dW ?_;refine dE ((AN (a := i * k) (b := i) (by omega)).trans (by rw [HT.out])) ?_;refine dW ?_;refine dW ?_;refine cN (x := wS (aE zs k k) (i + 1)) (fun w' H => by
    have hE : ∀ t, ag (aE zs k k t t).natAbs <= B := fun t => by
     by_cases q : t < k
     · rw [eA q q];have h4 : t * k + t < zs.length := by rw [HP.out.2.1]; exact jb q q
       exact HP.out.2.2 _ (jY h4)
     · unfold aE; rw [if_neg (by omega)]; simp [aY]
    have h5 : gi zs t = aE zs k k i i := by rw [eA h h, HT.out]; rfl
    have h6 := wL hE i;have h7 : i * B <= 64 * B := Nat.mul_le_mul_right _ (by omega);have := gL (av p) (av pv) (wS (aE zs k k) i) (gi zs t) (64 * B + 1) B w' (aj.int (H.all (.own w.heap.size (av p) (wS (aE zs k k) i)) (by simp [av])) (by omega)) (H.all (.at B (av pv) (gi zs t)) (by simp [av])) (by omega);rw [h5] at this; exact this) fun p2 => ?_
   refine sW ?_;refine eW ?_;refine ah ?_;refine rW [] ?_;refine dE (dR (a := i) (by omega)) ?_;refine dW ?_;refine eW ?_;refine ah ?_;exact cf (i + 1, p2) ⟨h, by show k - (i + 1) < k - i; omega⟩
 · obtain rfl : k = i := by omega
   refine ah ?_;refine rW [] ?_;refine dB false ?_;refine eW ?_;refine ah ?_;refine dT ?_;refine ah ?_;refine rW [] ?_;refine dW ?_;refine sW ?_;refine dW ?_;refine eW ?_;refine ah ?_;refine iO fun w' H => ?_;exact ⟨_, _, jB (H.all (.row g2 37 [.bool p.1, .slice p.2.1 p.2.2.1 p.2.2.2]) (by simp)), ee, ⟨k, c1, c2, zs, _, HP.out.1, rfl, H.all (.own w.heap.size (av p) (wS (aE zs k k) k)) (by simp [av])⟩, H.below⟩
theorem mZ (v u : Value) (x y : Int) (w : World) (h1 : aH w v x) (h2 : aH w u y) (hx : ag x.natAbs <= 17592186044415) (hy : ag y.natAbs <= 17592186044415) :
 Calls Tryz.prog 32 #[v, u] w fun e w' => e = .returned (.bool (decide (x = y))) /\ Below w.heap.size w w' := by
 obtain ⟨ao1, cap1, rfl, hW1, _⟩ := h1.least;obtain ⟨ao2, cap2, rfl, hW2, _⟩ := h2.least;have hAL := su x y;obtain ⟨n1, hn1⟩ : ∃ n1, decide (x < 0) = n1 := ⟨_, rfl⟩;obtain ⟨n2, hn2⟩ : ∃ n2, decide (y < 0) = n2 := ⟨_, rfl⟩;obtain ⟨m, hm⟩ : ∃ m, decide (fp x.natAbs = fp y.natAbs) = m := ⟨_, rfl⟩;have hS := fun w' => y6 ao1 ao2 (ag x.natAbs) cap1 (ag y.natAbs) cap2 (fp x.natAbs) (fp y.natAbs) w';simp only [hm] at hS;obtain ⟨r, hr⟩ : ∃ r, decide (x = y) = r := ⟨_, rfl⟩;rw [hn1, hn2, hm, hr] at hAL;rw [hn1, hn2, hr];refine bS (S0 := fun _ => False) Tryz.func32 (Fr.nil _ w) ?_;refine ah ?_;refine rW [] ?_;refine aW fun g2 => ?_;refine aW fun g3 => ?_;refine dW ?_;refine eW ?_;refine ah ?_;refine rW [] ?_;(iterate 4 refine dW ?_);clear hn1 hn2 hm hr;by_cases e : n1 = n2
 · subst e;have hAL : m = r := by simpa using hAL
   subst hAL;refine dB true ?_;refine dW ?_;(iterate 4 refine dG ?_);refine AI (fun w' H => hS w' (hW1.below H.below) (hW2.below H.below) rfl rfl hx hy) ?_;refine dW ?_;refine dW ?_;refine eW ?_;refine ah ?_;refine ei fun w' H => ?_;exact ⟨_, ee, rfl, H.below⟩
 · have hr : r = false := by rw [<- hAL]; cases n1 <;> cases n2 <;> simp_all
   subst hr;refine dB false ?_;refine dW ?_;(iterate 4 refine uG ?_);refine uC ?_;refine dW ?_;refine dW ?_;refine eW ?_;refine ah ?_;refine ei fun w' H => ?_;exact ⟨_, ee, rfl, H.below⟩
theorem sX (aoA aoB : Option Addr) (cA cB : Nat) (xs ys : List Int) (w : World) (hA : ik w aoA xs) (hB : ik w aoB ys) (hmA : xs.length <= 8796093022208) (hmB : ys.length <= 8796093022208)
 (hx : ∀ x ∈ xs, ag x.natAbs <= 17592186044415) (hy : ∀ x ∈ ys, ag x.natAbs <= 17592186044415) :
 Calls Tryz.prog 45 #[.slice aoA xs.length cA, .slice aoB ys.length cB] w fun e w' => e = .returned (.bool (decide (xs = ys))) /\ Below w.heap.size w w' := by
 refine bS (S0 := fun _ => False) Tryz.func45 (((Fr.nil _ w).ln hA (by simp)).ln hB (by simp [En.wr, En.kP])) ?_;refine ah ?_;refine rW [] ?_;refine dW ?_;refine eW ?_;refine ah ?_;refine rW [] ?_;(iterate 4 refine dW ?_);by_cases hs : xs.length = ys.length
 · have HS := hi_ hs;have hne : ((xs.length : Int) != (ys.length : Int)) = false := by rw [hs]; simp
   clear hs;refine dB false ?_;refine eW ?_;refine ah ?_;refine dT ?_;refine ah ?_;refine rW [] ?_;refine dW ?_;refine eW ?_;refine ah ?_;refine cI (X := Nat) (fun i => i <= xs.length /\ ∀ k, k < i -> gi xs k = gi ys k) (fun i => xs.length - i) (fun i => [(5, .int .i64 (i : Int)), (0, .slice aoA xs.length cA), (1, .slice aoB ys.length cB)]) (fun _ => [.kP aoB ys, .kP aoA xs]) 0 ⟨Nat.zero_le _, fun k h => absurd h (Nat.not_lt_zero k)⟩ fun i hz => ?_;obtain ⟨hi, hag⟩ := hz;by_cases h : i < xs.length
   · have h' : i < ys.length := by have := HS.out; omega
     obtain ⟨bx, ox, rfl⟩ := hA.pos h;obtain ⟨b_, oy, rfl⟩ := hB.pos h';have HX := hi_ (hx _ (jY h));have HY := hi_ (hy _ (jY h'));have HH := hi_ h;refine ah ?_;refine rW [] ?_;(iterate 3 refine dW ?_);refine dB true ?_;refine eW ?_;refine ah ?_;refine fB ?_;refine zK (xs := xs) (b := bx) (o := ox) i (by simp) h fun p => ?_;refine zK (xs := ys) (b := b_) (o := oy) i (by simp) h' fun q => ?_;refine ah ?_;refine rW [] ?_;(iterate 8 refine dW ?_);refine cV (fun w' H => mZ (av p) (av q) _ _ w' H.m5 H.m2 HX.out HY.out) ?_;by_cases e : gi xs i = gi ys i
     · have HE := hi_ e;rw [decide_eq_true e];clear e;refine dW ?_;refine eW ?_;refine ah ?_;refine dT ?_;refine ah ?_;refine rW [] ?_;refine dW ?_;refine dE (dR (a := i) (by omega)) ?_;refine dW ?_;refine eW ?_;refine ah ?_;exact cf (i + 1) ⟨⟨h, fun k hk => by
        by_cases e : k = i
        · subst e; exact HE.out
        · exact hag k (by omega)⟩, by omega⟩
     · have hd : decide (xs = ys) = false := by
        rw [decide_eq_false_iff_not]; intro h; exact e (by rw [h])
       rw [decide_eq_false e, hd];refine dW ?_;refine eW ?_;refine ah ?_;refine fB ?_;refine ah ?_;refine rW [] ?_;refine dW ?_;refine eW ?_;refine ah ?_;refine ei fun w' H => ?_;exact ⟨_, ee, rfl, H.below⟩
   · obtain rfl : i = xs.length := by omega
     have hd : decide (xs = ys) = true := by
      rw [decide_eq_true_iff];refine List.ext_getElem HS.out fun j h1 h2 => ?_;have := hag j h1
      rwa [c7 h1, c7 h2] at this
     rw [hd];refine ah ?_;refine rW [] ?_;(iterate 3 refine dW ?_);refine dB false ?_;refine eW ?_;refine ah ?_;refine dT ?_;refine ah ?_;refine rW [] ?_;refine dW ?_;refine eW ?_;refine ah ?_;refine ei fun w' H => ?_;exact ⟨_, ee, rfl, H.below⟩
 · have hne : ((xs.length : Int) != (ys.length : Int)) = true := by rw [bne_iff_ne]; omega
   have hd : decide (xs = ys) = false := by
    rw [decide_eq_false_iff_not]; intro h; exact hs (by rw [h])
   rw [hd];clear hs;refine dB true ?_;refine eW ?_;refine ah ?_;refine fB ?_;refine ah ?_;refine rW [] ?_;refine dW ?_;refine eW ?_;refine ah ?_;refine ei fun w' H => ?_;exact ⟨_, ee, rfl, H.below⟩
theorem rY (r c : Nat) (aoA aoB : Option Addr) (cA cB : Nat) (xs ys : List Int) (w : World) (hA : ik w aoA xs) (hB : ik w aoB ys) (hmA : xs.length <= 8796093022208) (hmB : ys.length <= 8796093022208)
 (hx : ∀ x ∈ xs, ag x.natAbs <= 17592186044415) (hy : ∀ x ∈ ys, ag x.natAbs <= 17592186044415) :
 Calls Tryz.prog 12 #[.agg #[.int .i64 (r : Int), .int .i64 (c : Int), .slice aoA xs.length cA], .agg #[.int .i64 (r : Int), .int .i64 (c : Int), .slice aoB ys.length cB]] w fun e w' => e = .returned (.bool (decide (xs = ys))) /\ Below w.heap.size w w' := by
 have hK := fun w' (hA : ik w' aoA xs) (hB : ik w' aoB ys) => sX aoA aoB cA cB xs ys w' hA hB hmA hmB hx hy;refine bS (S0 := fun _ => False) Tryz.func12 (Fr.nil _ w) ?_;refine ah ?_;refine rW [] ?_;refine aW fun g2 => ?_;refine aW fun g3 => ?_;refine dW ?_;refine eW ?_;refine ah ?_;refine rW [] ?_;(iterate 4 refine dW ?_);refine dB true ?_;refine dW ?_;(iterate 4 refine dG ?_);refine rJ true ?_;refine dW ?_;refine dW ?_;(iterate 4 refine dG ?_);refine AI (fun w' H => hK w' (hA.below H.below) (hB.below H.below)) ?_;refine dW ?_;refine dW ?_;refine eW ?_;refine ah ?_;refine ei fun w' H => ?_;exact ⟨_, ee, rfl, H.below⟩
theorem tN (n : Nat) (w : World) (h0 : 0 < n) (hW : n < W) : Calls Tryz.prog 33 #[.int .u64 (n : Int)] w fun e w' => (∃ v', e = .returned v' /\ aj w' w.heap.size v' (n : Int)) /\ Below w.heap.size w w' := by
 refine bS (S0 := fun _ => False) Tryz.func33 (Fr.nil _ w) ?_;refine ah ?_;refine rW [] ?_;refine aW fun g2 => ?_;refine eW ?_;refine ah ?_;refine rW [] ?_;refine dW ?_;refine bW (m := 1) fun g4 => ?_;refine dW ?_;refine sW ?_;refine eW ?_;refine ah ?_;refine ei fun w' H => ?_;have hown := aa.own (ws := [n]) (B := w.heap.size) (n := 1) (cap := 1) H.m0 (Ok.one hW) ((H.own _ (List.mem_cons_self ..) rfl _ rfl).elim (fun h => h.elim) id) (by simp) rfl (by unfold maxLen; omega);have h1 := aj.mk (m := n) false (by rw [iD (by omega) hW, vv (by omega) hW]; exact hown);rw [iD (by omega) hW] at h1;exact ⟨_, jB H.m1, ⟨_, rfl, h1⟩, H.below⟩
theorem pc {A : Mx} {k : Nat} {c : Nat -> Nat} (h : iK 1 1 A k c) (hA : A 0 0 ≠ 0) : k = 1 /\ c 0 = 0 := by
 obtain ⟨nu, R, d, h⟩ := h;have hk := h.kn;have h1 : k = 1 := by
  rcases Nat.eq_zero_or_pos k with e | e
  · exfalso;subst e;have h2 := h.z 0 (Nat.le_refl _) (by omega) 0 (by omega);have h3 := h.row 0 (Nat.le_refl _) (by omega) 0 (by omega);have h4 : nu 0 = 0 := by have := h.lt 0 (by omega); omega
    rw [h2, h4] at h3;have h5 : mn 0 A nu c 0 0 = A 0 0 := by
     show 0 + gn 0 * A (if 0 < 0 then nu 0 else 0) (if 0 < 0 then c 0 else 0) * 1 = A 0 0;rw [if_neg (Nat.lt_irrefl 0), if_neg (Nat.lt_irrefl 0), show gn 0 = 1 by decide]; omega
    exact hA (h5.symm.trans h3.symm)
  · omega
 subst h1;exact ⟨rfl, by have := h.csl 0 (by omega); omega⟩
theorem zH {k : Nat} {c1 c2 : Nat -> Nat} (h1 : iK 1 1 (aE (mj 1 1 [-6]) 1 1) k c1) (h2 : iK 1 1 (aE [-6] 1 1) k c2) : k = 1 /\ c1 0 = 0 /\ c2 0 = 0 /\ dZ 1 [-6] k c1 c2 = -6 := by
 obtain ⟨_, e1⟩ := pc h1 (by decide);obtain ⟨rfl, e2⟩ := pc h2 (by decide);refine ⟨rfl, e1, e2, ?_⟩;unfold dZ;rw [show (List.range 1).map c1 = [0] by simp [List.range_succ, e1], show (List.range 1).map c2 = [0] by simp [List.range_succ, e2]];decide
theorem vol6 {k : Nat} {c1 c2 : Nat -> Nat} {zs : List Int} (h : uv 1 1 [-6] k c1 c2 zs) : wS (aE zs k k) k = 6 := by
 obtain ⟨h1, h2, h3⟩ := h;obtain ⟨rfl, e1, e2, e3⟩ := zH h1 h2;rw [e3, show (List.range 1).map c2 = [0] by simp [List.range_succ, e2]] at h3;have h4 := yq (n := 1) (r := 1) (d := 6) (by omega) h3.2.1 (fun t ht i => by
  obtain rfl : t = 0 := by omega
  by_cases hi : i < 1
  · obtain rfl : i = 0 := by omega
    decide
  · unfold aE; rw [if_neg (by omega)]; exact Int.dvd_zero _) (fun t ht i hi => by unfold aE; rw [if_neg (by omega)]) 0 (by omega) 0
 show 1 * aE zs 1 1 0 0 = 6;rw [h4]; simp
theorem jT (w : World) : Calls Tryz.prog 6 #[] w fun e w' => e = .returned (.bool true) /\ Below w.heap.size w w' := by
 have hV := fun cap ao w' (h : aL w' 1 ao [-6]) => zp 1 1 1 1 cap ao [-6] w' (by omega) (by omega) (by omega) h rfl rfl (fun k1 c1 k2 c2 h1 h2 => by rw [(pc h1 (by decide)).1, (pc h2 (by decide)).1]) (fun k c1 c2 h1 h2 => by rw [(zH h1 h2).2.2.2]; decide);have HV := hi_ hV;clear hV;refine bS (S0 := fun _ => False) Tryz.func6 (Fr.nil _ w) ?_;refine ah ?_;refine rW [] ?_;refine dW ?_;refine eW ?_;refine ah ?_;refine rW [] ?_;refine bW (m := 1) fun g4 => ?_;refine dW ?_;refine bW (m := 1) fun g6 => ?_;refine dW ?_;refine vH (x := 6) (z := .int .i64 0) (fun w' H => (HV.out 1 (some ⟨g6, 0, none⟩) w' (by
  have a1 : aa w' g4 60 [.int .u64 6] := H.all (.row g4 60 [.int .u64 6]) (by simp);have a2 : aa w' g6 37 [.bool true, .slice (some ⟨g4, 0, none⟩) 1 1] := H.all (.row g6 37 [.bool true, .slice (some ⟨g4, 0, none⟩) 1 1]) (by simp);have hown := aa.own (ws := [6]) (B := w.heap.size) (n := 1) (cap := 1) a1 (Ok.one (by unfold W; omega)) ((H.own (.row g4 60 [.int .u64 6]) (by simp) rfl _ rfl).elim (fun h => h.elim) id) (by simp) rfl (by unfold maxLen; omega);have h1 := aj.mk (m := 6) true (by rw [iD (by omega) (by unfold W; omega), vv (by omega) (by unfold W; omega)]; exact hown);rw [iD (by omega) (by unfold W; omega)] at h1;intro _;refine ⟨g6, 0, rfl, a2.lt, fun i hi => ?_⟩;obtain rfl : i = 0 := by simpa using hi
  exact ⟨(true, some ⟨g4, 0, none⟩, 1, 1), a2.cell 0, a2.cell 1, show ai w' 1 _ (-6) from aj.int h1 (by show ag 6 <= 1; rw [iD (by omega) (by unfold W; omega)]; omega)⟩)).mono fun e w'' ⟨⟨k, c1, c2, zs, v, hn, he, hv⟩, hb⟩ => by rw [vol6 hn] at hv; exact ⟨⟨v, he, hv⟩, hb⟩) fun p => ?_
 (iterate 3 refine dW ?_);refine aW fun g1 => ?_;refine sG ?_;refine dW ?_;refine eW ?_;refine ah ?_;refine rW [] ?_;refine dW ?_;refine dB true ?_;refine dW ?_;refine dG ?_;refine cGg (mk := av) (ens := fun p => [.own w.heap.size (av p) ((6 : Nat) : Int)]) (fun w' H => cNo' (tN 6 w' (by omega) (by unfold W; omega)) H.size) fun q => ?_;refine AI (v := .bool true) (fun w' H => by have := mZ (av p) (av q) 6 6 w' (aj.num (H.all (.own w.heap.size (av p) 6) (by simp [av]))) (aj.num (H.all (.own w.heap.size (av q) 6) (by simp [av]))) (by show ag 6 <= _; rw [iD (by omega) (by unfold W; omega)]; omega) (by show ag 6 <= _; rw [iD (by omega) (by unfold W; omega)]; omega); exact this) ?_;refine dW ?_;refine dW ?_;refine eW ?_;refine ah ?_;refine ei fun w' H => ?_;exact ⟨_, ee, rfl, H.below⟩
theorem ym (r c : Int) (ao : Option Addr) (len cap : Nat) (w : World) (hr : -9223372036854775808 <= r /\ r <= 9223372036854775807) (hc : -9223372036854775808 <= c /\ c <= 9223372036854775807) (hs : aR r c len = false) :
 Calls Tryz.prog 79 #[.agg #[.int .i64 r, .int .i64 c, .slice ao len cap]] w fun e w' => e = .returned (.tuple #[.agg #[.int .i64 0, .int .i64 0, .slice none 0 0], .int .i64 1]) /\ Below w.heap.size w w' := by
 have hC := fun w' => cJ r c ao len cap w' hr hc;rw [gW hs] at hC;have HC := hi_ hC;clear hC hs;refine bS (S0 := fun _ => False) Tryz.func79 (Fr.nil _ w) ?_;refine ah ?_;refine rW [] ?_;refine aW fun g1 => ?_;refine aW fun g2 => ?_;refine dW ?_;refine eW ?_;refine ah ?_;refine rW [] ?_;refine dW ?_;refine cV (v := .int .i64 1) (fun w' H => HC.out w') ?_;refine dW ?_;refine eW ?_;refine ah ?_;refine rW [] ?_;refine dW ?_;refine dB true ?_;refine eW ?_;refine ah ?_;refine fB ?_;refine ah ?_;refine rW [] ?_;refine dW ?_;refine dW ?_;refine sW ?_;refine dW ?_;refine eW ?_;refine ah ?_;refine iO fun w' H => ?_;exact ⟨_, _, uK (H.all (.row g2 24 [.int .i64 0, .int .i64 0, .slice none 0 0]) (by simp)), ee, rfl, H.below⟩
theorem uN (r c : Int) (ao : Option Addr) (len cap : Nat) (w : World) (hr : -9223372036854775808 <= r /\ r <= 9223372036854775807) (hc : -9223372036854775808 <= c /\ c <= 9223372036854775807) (hs : aR r c len = false) :
 Calls Tryz.prog 46 #[.agg #[.int .i64 r, .int .i64 c, .slice ao len cap]] w fun e w' => e = .returned (.tuple #[.slice none 0 0, .int .i64 1]) /\ Below w.heap.size w w' := by
 have HC := hi_ (fun w' => ym r c ao len cap w' hr hc hs);clear hs;refine bS (S0 := fun _ => False) Tryz.func46 (Fr.nil _ w) ?_;refine ah ?_;refine rW [] ?_;refine aW fun g1 => ?_;refine dW ?_;refine dW ?_;refine eW ?_;refine ah ?_;refine rW [] ?_;refine dW ?_;refine cV (v := .tuple #[.agg #[.int .i64 0, .int .i64 0, .slice none 0 0], .int .i64 1]) (fun w' H => HC.out w') ?_;(iterate 3 refine dW ?_);refine aW fun g4 => ?_;refine sG ?_;refine dW ?_;refine eW ?_;refine ah ?_;refine rW [] ?_;refine dW ?_;refine dB true ?_;refine eW ?_;refine ah ?_;refine fB ?_;refine ah ?_;refine rW [] ?_;(iterate 3 refine dW ?_);refine eW ?_;refine ah ?_;refine iO fun w' H => ?_;exact ⟨_, _, ee, ee, rfl, H.below⟩
theorem tz (r c : Int) (ao : Option Addr) (len cap : Nat) (w : World) (hr : -9223372036854775808 <= r /\ r <= 9223372036854775807) (hc : -9223372036854775808 <= c /\ c <= 9223372036854775807) (hs : aR r c len = false) :
 Calls Tryz.prog 15 #[.agg #[.int .i64 r, .int .i64 c, .slice ao len cap]] w fun e w' => e = .returned (.tuple #[.slice none 0 0, .slice none 0 0, .agg #[.bool false, .slice none 0 0], .int .i64 1]) /\ Below w.heap.size w w' := by
 have HC := hi_ (fun w' => uN r c ao len cap w' hr hc hs);clear hs;refine bS (S0 := fun _ => False) Tryz.func15 (Fr.nil _ w) ?_;refine ah ?_;refine rW [] ?_;refine aW fun g1 => ?_;refine dW ?_;refine dW ?_;refine aW fun g4 => ?_;refine dW ?_;refine eW ?_;refine ah ?_;refine rW [] ?_;refine dW ?_;refine cV (v := .tuple #[.slice none 0 0, .int .i64 1]) (fun w' H => HC.out w') ?_;(iterate 5 refine dW ?_);refine eW ?_;refine ah ?_;refine rW [] ?_;refine dW ?_;refine dB true ?_;refine eW ?_;refine ah ?_;refine fB ?_;refine ah ?_;refine rW [] ?_;(iterate 4 refine dW ?_);refine sW ?_;refine dW ?_;refine eW ?_;refine ah ?_;refine fin4 fun w' H => ?_;exact ⟨_, _, _, _, ee, ee, jB H.m0, ee, rfl, H.below⟩
theorem u7 (r c : Int) (ao : Option Addr) (len cap : Nat) (pd : P4) (w : World) (hr : -9223372036854775808 <= r /\ r <= 9223372036854775807) (hc : -9223372036854775808 <= c /\ c <= 9223372036854775807) (hs : aR r c len = false) :
 Calls Tryz.prog 28 #[.agg #[.int .i64 r, .int .i64 c, .slice ao len cap], av pd] w fun e w' => e = .returned (.tuple #[.agg #[.int .i64 0, .int .i64 0, .slice none 0 0], .int .i64 1]) /\ Below w.heap.size w w' := by
 have hC := fun w' => cJ r c ao len cap w' hr hc;rw [gW hs] at hC;have HC := hi_ hC;clear hC hs;refine bS (S0 := fun _ => False) Tryz.func28 (Fr.nil _ w) ?_;refine ah ?_;refine rW [] ?_;refine aW fun g2 => ?_;refine aW fun g3 => ?_;refine aW fun g4 => ?_;refine dW ?_;refine eW ?_;refine ah ?_;refine rW [] ?_;refine dW ?_;refine cV (v := .int .i64 1) (fun w' H => HC.out w') ?_;refine dW ?_;refine eW ?_;refine ah ?_;refine rW [] ?_;refine dW ?_;refine dB true ?_;refine eW ?_;refine ah ?_;refine fB ?_;refine ah ?_;refine rW [] ?_;refine dW ?_;refine dW ?_;refine sW ?_;refine dW ?_;refine eW ?_;refine ah ?_;refine iO fun w' H => ?_;exact ⟨_, _, uK (H.all (.row g4 24 [.int .i64 0, .int .i64 0, .slice none 0 0]) (by simp)), ee, rfl, H.below⟩
theorem oA (r c : Int) (ao : Option Addr) (len cap : Nat) (w : World) (hr : -9223372036854775808 <= r /\ r <= 9223372036854775807) (hc : -9223372036854775808 <= c /\ c <= 9223372036854775807) (hs : aR r c len = false) :
 Calls Tryz.prog 35 #[.agg #[.int .i64 r, .int .i64 c, .slice ao len cap]] w fun e w' => e = .returned (.tuple #[.agg #[.int .i64 0, .int .i64 0, .slice none 0 0], .slice none 0 0, .slice none 0 0, .agg #[.bool false, .slice none 0 0], .int .i64 1]) /\ Below w.heap.size w w' := by
 have HC := hi_ (fun w' => tz r c ao len cap w' hr hc hs);clear hs;refine bS (S0 := fun _ => False) Tryz.func35 (Fr.nil _ w) ?_;refine ah ?_;refine rW [] ?_;refine aW fun g1 => ?_;refine aW fun g2 => ?_;refine dW ?_;refine dW ?_;refine aW fun g5 => ?_;refine dW ?_;refine eW ?_;refine ah ?_;refine rW [] ?_;refine dW ?_;refine cV (v := .tuple #[.slice none 0 0, .slice none 0 0, .agg #[.bool false, .slice none 0 0], .int .i64 1]) (fun w' H => HC.out w') ?_;(iterate 7 refine dW ?_);refine sW ?_;refine dW ?_;refine eW ?_;refine ah ?_;refine rW [] ?_;refine dW ?_;refine dB true ?_;refine eW ?_;refine ah ?_;refine fB ?_;refine ah ?_;refine rW [] ?_;(iterate 3 refine dW ?_);refine sW ?_;refine dW ?_;refine dW ?_;refine sW ?_;refine dW ?_;refine eW ?_;refine ah ?_;refine fin5 fun w' H => ?_;exact ⟨_, _, _, _, _, uK (H.all (.row g2 24 [.int .i64 0, .int .i64 0, .slice none 0 0]) (by simp)), ee, ee, jB (H.all (.row g5 37 [.bool false, .slice none 0 0]) (by simp)), ee, rfl, H.below⟩
theorem yx (r c : Int) (ao : Option Addr) (len cap : Nat) (w : World) (hr : -9223372036854775808 <= r /\ r <= 9223372036854775807) (hc : -9223372036854775808 <= c /\ c <= 9223372036854775807) (hs : aR r c len = false) :
 Calls Tryz.prog 9 #[.agg #[.int .i64 r, .int .i64 c, .slice ao len cap]] w fun e w' => e = .returned (.tuple #[.agg #[.int .i64 0, .int .i64 0, .slice none 0 0], .int .i64 1]) /\ Below w.heap.size w w' := by
 have HC := hi_ (fun w' => oA r c ao len cap w' hr hc hs);clear hs;refine bS (S0 := fun _ => False) Tryz.func9 (Fr.nil _ w) ?_;refine ah ?_;refine rW [] ?_;refine aW fun g1 => ?_;refine aW fun g2 => ?_;refine dW ?_;refine eW ?_;refine ah ?_;refine rW [] ?_;refine dW ?_;refine cV (v := .tuple #[.agg #[.int .i64 0, .int .i64 0, .slice none 0 0], .slice none 0 0, .slice none 0 0, .agg #[.bool false, .slice none 0 0], .int .i64 1]) (fun w' H => HC.out w') ?_;(iterate 6 refine dW ?_);refine aW fun g4 => ?_;refine aW fun g7 => ?_;refine sG ?_;refine dW ?_;refine dW ?_;refine sG ?_;refine dW ?_;refine eW ?_;refine ah ?_;refine rW [] ?_;refine dW ?_;refine dB true ?_;refine eW ?_;refine ah ?_;refine fB ?_;refine ah ?_;refine rW [] ?_;refine dW ?_;refine dW ?_;refine sW ?_;refine dW ?_;refine eW ?_;refine ah ?_;refine iO fun w' H => ?_;exact ⟨_, _, uK (H.all (.row g2 24 [.int .i64 0, .int .i64 0, .slice none 0 0]) (by simp)), ee, rfl, H.below⟩
theorem zU (r c : Int) (ao : Option Addr) (len cap : Nat) (w : World) (hr : -9223372036854775808 <= r /\ r <= 9223372036854775807) (hc : -9223372036854775808 <= c /\ c <= 9223372036854775807) (hs : aR r c len = false) :
 Calls Tryz.prog 13 #[.agg #[.int .i64 r, .int .i64 c, .slice ao len cap]] w fun e w' => e = .returned (.tuple #[.agg #[.bool false, .slice none 0 0], .int .i64 1]) /\ Below w.heap.size w w' := by
 have HC := hi_ (fun w' => oA r c ao len cap w' hr hc hs);clear hs;refine bS (S0 := fun _ => False) Tryz.func13 (Fr.nil _ w) ?_;refine ah ?_;refine rW [] ?_;refine aW fun g1 => ?_;refine aW fun g2 => ?_;refine dW ?_;refine eW ?_;refine ah ?_;refine rW [] ?_;refine dW ?_;refine cV (v := .tuple #[.agg #[.int .i64 0, .int .i64 0, .slice none 0 0], .slice none 0 0, .slice none 0 0, .agg #[.bool false, .slice none 0 0], .int .i64 1]) (fun w' H => HC.out w') ?_;(iterate 6 refine dW ?_);refine aW fun g4 => ?_;refine aW fun g7 => ?_;refine sG ?_;refine dW ?_;refine dW ?_;refine sG ?_;refine dW ?_;refine eW ?_;refine ah ?_;refine rW [] ?_;refine dW ?_;refine dB true ?_;refine eW ?_;refine ah ?_;refine fB ?_;refine ah ?_;refine rW [] ?_;refine dW ?_;refine dW ?_;refine sW ?_;refine dW ?_;refine eW ?_;refine ah ?_;refine iO fun w' H => ?_;exact ⟨_, _, jB (H.all (.row g2 37 [.bool false, .slice none 0 0]) (by simp)), ee, rfl, H.below⟩
theorem oG (w : World) (L : Nat) : ai w L (.agg #[.bool false, .slice none 0 0]) 0 := aj.int (aj.zero w 0) (by simp [aY])
theorem zf (r c : Int) (ao : Option Addr) (len cap : Nat) (w : World) (hr : -9223372036854775808 <= r /\ r <= 9223372036854775807) (hc : -9223372036854775808 <= c /\ c <= 9223372036854775807) (hs : aR r c len = false) :
 Calls Tryz.prog 14 #[.agg #[.int .i64 r, .int .i64 c, .slice ao len cap]] w fun e w' => (∃ v, e = .returned (.tuple #[v, .int .i64 1]) /\ aj w' w.heap.size v 0) /\ Below w.heap.size w w' := by
 have HC := hi_ (fun w' => tz r c ao len cap w' hr hc hs);clear hs;refine bS (S0 := fun _ => False) Tryz.func14 (Fr.nil _ w) ?_;refine ah ?_;refine rW [] ?_;refine aW fun g1 => ?_;refine aW fun g2 => ?_;refine dW ?_;refine eW ?_;refine ah ?_;refine rW [] ?_;refine dW ?_;refine cV (v := .tuple #[.slice none 0 0, .slice none 0 0, .agg #[.bool false, .slice none 0 0], .int .i64 1]) (fun w' H => HC.out w') ?_;(iterate 5 refine dW ?_);refine aW fun g6 => ?_;refine dW ?_;refine dW ?_;refine sG ?_;refine dW ?_;refine eW ?_;refine ah ?_;refine rW [] ?_;refine dW ?_;refine cN (x := ((0 : Nat) : Int)) (fun w' H => kU _ 0 w' (oG w' _)) fun p => ?_;refine dW ?_;refine sW ?_;refine dW ?_;refine eW ?_;refine ah ?_;refine iO fun w' H => ?_;exact ⟨_, _, jB (H.all (.row g2 37 [.bool p.1, .slice p.2.1 p.2.2.1 p.2.2.2]) (by simp)), ee, ⟨_, rfl, H.all (.own w.heap.size (av p) ((0 : Nat) : Int)) (by simp [av])⟩, H.below⟩
theorem zw (r c : Int) (ao : Option Addr) (len cap : Nat) (w : World) (hr : -9223372036854775808 <= r /\ r <= 9223372036854775807) (hc : -9223372036854775808 <= c /\ c <= 9223372036854775807) (hs : aR r c len = false) :
 Calls Tryz.prog 8 #[.agg #[.int .i64 r, .int .i64 c, .slice ao len cap]] w fun e w' => e = .returned (.bool true) /\ Below w.heap.size w w' := by
 have HC := hi_ (And.intro (fun pd w' => u7 r c ao len cap pd w' hr hc hs) (And.intro (fun w' => yx r c ao len cap w' hr hc hs) (And.intro (fun w' => zU r c ao len cap w' hr hc hs) (fun w' => zf r c ao len cap w' hr hc hs))));clear hs;refine bS (S0 := fun _ => False) Tryz.func8 (Fr.nil _ w) ?_;refine ah ?_;refine rW [] ?_;refine aW fun g1 => ?_;refine dW ?_;refine eW ?_;refine ah ?_;refine rW [] ?_;refine dW ?_;refine cN (x := ((1 : Nat) : Int)) (fun w' H => tN 1 w' (by omega) (by unfold W; omega)) fun p1 => ?_;refine cV (v := .tuple #[.agg #[.int .i64 0, .int .i64 0, .slice none 0 0], .int .i64 1]) (fun w' H => HC.out.1 p1 w') ?_;(iterate 3 refine dW ?_);refine aW fun g3 => ?_;refine sG ?_;refine dW ?_;refine eW ?_;refine ah ?_;refine rW [] ?_;refine dW ?_;refine cV (v := .tuple #[.agg #[.int .i64 0, .int .i64 0, .slice none 0 0], .int .i64 1]) (fun w' H => HC.out.2.1 w') ?_;(iterate 3 refine dW ?_);refine aW fun g5 => ?_;refine sG ?_;refine dW ?_;refine eW ?_;refine ah ?_;refine rW [] ?_;refine dW ?_;refine cV (v := .tuple #[.agg #[.bool false, .slice none 0 0], .int .i64 1]) (fun w' H => HC.out.2.2.1 w') ?_;(iterate 3 refine dW ?_);refine aW fun g7 => ?_;refine sG ?_;refine dW ?_;refine eW ?_;refine ah ?_;refine rW [] ?_;refine dW ?_;refine vH (x := 0) (z := .int .i64 1) (fun w' H => HC.out.2.2.2 w') fun p2 => ?_;(iterate 3 refine dW ?_);refine aW fun g9 => ?_;refine sG ?_;refine dW ?_;refine eW ?_;refine ah ?_;refine rW [] ?_;refine dW ?_;refine dB true ?_;refine dW ?_;refine dG ?_;refine rJ true ?_;refine dW ?_;refine dW ?_;refine dG ?_;refine rJ true ?_;refine dW ?_;refine dW ?_;refine dG ?_;refine rJ true ?_;refine dW ?_;refine dW ?_;(iterate 3 refine dG ?_);refine rJ true ?_;refine dW ?_;refine dW ?_;refine dG ?_;refine AI (v := .int .i64 0) (fun w' H => bN _ 0 w' (oG w' _)) ?_;refine rJ true ?_;refine dW ?_;refine dW ?_;refine dG ?_;refine AI (v := .int .i64 0) (fun w' H => bN (av p2) 0 w' (aj.int (H.all (.own w.heap.size (av p2) 0) (by simp [av])) (by simp [aY]))) ?_;refine rJ true ?_;refine dW ?_;refine dW ?_;refine eW ?_;refine ah ?_;refine ei fun w' H => ?_;exact ⟨_, ee, rfl, H.below⟩
section
variable {ops : Array Oper} {Q : Exit -> Act -> World -> Prop} {ds : List Deferred} {S0 : Nat -> Prop} {w0 : World} {E0 : List En} {n j s : Nat} {l : List Nat} {G E : List En} {ls : List (Nat × Value)} {ty : TypeId} {pos : String} {af : Array Edge}
theorem slW {sx sl sh : Operand} (a : Option Addr) (len cap x y : Nat) (v : Value) (hxy : x <= y) (hy : y <= cap) (hv : sliced a x y cap 2 = v) (k : dy ds ⟨Tryz.prog, ops, Q, S0, w0, E0, []⟩ n l G E ((s, v) :: ls))
 (ho : ops[j]? = some ⟨some s, .slice 22 sx (some sl) (some sh) none, ty, pos, af, none⟩ := by rfl) (hk : (bF (.slice 22 sx (some sl) (some sh) none) && dK ls (.slice 22 sx (some sl) (some sh) none) && Nat.blt s n) = true := by kernel_rfl)
 (h1 : cT ls sx = .slice a len cap := by (simp only [bX, Nat.reduceEqDiff, ↓reduceIte]) <;> rfl) (h2 : cT ls sl = .int .i64 (x : Int) := by (simp only [bX, Nat.reduceEqDiff, ↓reduceIte]) <;> rfl) (h3 : cT ls sh = .int .i64 (y : Int) := by (simp only [bX, Nat.reduceEqDiff, ↓reduceIte]) <;> rfl) : dy ds ⟨Tryz.prog, ops, Q, S0, w0, E0, []⟩ n (j :: l) G E ls := by
 refine dW k ho hk fun w _ => ?_;subst hv;obtain ⟨i, hi, hz, hs, hbt⟩ := info_parts iS;have e := run_slice_lh (P := Tryz.prog) w 22 a len cap Tryz.underlying22 .i64 .i64 (x : Int) (y : Int) (by omega) (by omega) (by omega);have e2 := run_sliceAt_slice (P := Tryz.prog) w 22 (.slice a len cap) (some (.int .i64 (x : Int))) (some (.int .i64 (y : Int))) none Tryz.underlying22;have e3 : (sizeOf (Tryz.prog.elem 22)).run Tryz.prog w = .ok 2 w := by go_simp <;> rfl
 rw [e3] at e;simp only [Int.toNat_natCast, Result.andThen] at e;simp [execOp, h1, h2, h3, e2, e, Result.andThen]
end
theorem sF {b o c i cap : Nat} (hc : 0 < c) (h : (i + 1) * c <= cap) : sliced (some ⟨b, o, none⟩) (i * c) ((i + 1) * c) cap 2 = .slice (some ⟨b, o + i * c * 2, none⟩) c (cap - i * c) := by
 have e : (i + 1) * c = i * c + c := Nat.succ_mul i c;unfold sliced;rw [if_neg (by omega), Option.map_some, Go.WideShapes.add_plain, e, Nat.add_sub_cancel_left]
theorem wj {xs : List Int} {r c i j : Nat} (hs : xs.length = r * c) (hi : i < r) (hj : j < c) : (rowOf xs c i).length = c /\ gi (rowOf xs c i) j = gi xs (i * c + j) := by
 have hl := bO hs hi;refine ⟨hl, ?_⟩;unfold gi; exact fK xs c i j hj
theorem Af {w : World} {L b o r c i : Nat} {xs : List Int} (h : aL w L (some ⟨b, o, none⟩) xs) (hs : xs.length = r * c) (hi : i < r) : aL w L (some ⟨b, o + i * c * 2, none⟩) (rowOf xs c i) := fun hp => by
 have hl := bO hs hi;have hlt : ∀ j, j < c -> i * c + j < xs.length := fun j hj => by rw [hs]; exact jb hi hj
 obtain ⟨b', o', e, hb, hc⟩ := h (by have := hlt 0 (by omega); omega);cases e;refine ⟨b, o + i * c * 2, rfl, hb, fun j hj => ?_⟩;rw [hl] at hj;obtain ⟨p, h0, h1, hI⟩ := hc (i * c + j) (hlt j hj);refine ⟨p, ?_, ?_, ?_⟩
 · rw [show o + i * c * 2 + j * 2 = o + (i * c + j) * 2 by rw [Nat.add_mul, Nat.add_assoc]]; exact h0
 · rw [show o + i * c * 2 + j * 2 + 1 = o + (i * c + j) * 2 + 1 by rw [Nat.add_mul, Nat.add_assoc o]]; exact h1
 · have := (wj hs hi hj).2;rw [c7 (by omega), c7 (hlt j hj)] at this;rw [this]; exact hI
theorem vV (r c i L cap nm : Nat) (ao : Option Addr) (xs : List Int) (w : World) (hr : r <= 64) (hc : c <= 64) (hA : aL w L ao xs) (hs : xs.length = r * c) (hnm : xs.length = nm) (hcap : nm <= cap) (hi : i < r) (hc0 : 0 < c) :
 Calls Tryz.prog 22 #[.agg #[.int .i64 (r : Int), .int .i64 (c : Int), .slice ao nm cap], .int .i64 (i : Int)] w fun e w' => (∃ q : Addr × Nat, e = .returned (.slice (some q.1) c q.2) /\ aL w' L (some q.1) (rowOf xs c i) /\ ∀ b o, (some q.1 : Option Addr) = some ⟨b, o, none⟩ -> ∃ o', ao = some ⟨b, o', none⟩) /\ Below w.heap.size w w' := by
 have hic : i * c <= 4096 := Nat.mul_le_mul (show i <= 64 by omega) hc;have hic1 : (i + 1) * c <= r * c := Nat.mul_le_mul_right c hi;have hrc : r * c <= 4096 := Nat.mul_le_mul hr hc;have e1 : (i + 1) * c = i * c + c := Nat.succ_mul i c;obtain rfl : r * c = nm := by omega
 have HR := hi_ (fun w' b o h => Af (w := w') (L := L) (b := b) (o := o) h hs hi);have hpos : 0 < xs.length := by omega
 obtain ⟨bx, ox, rfl⟩ := hA.pos (i := 0) hpos;have hsl := sF (b := bx) (o := ox) (c := c) (i := i) (cap := cap) hc0 (by omega);obtain ⟨m, hm⟩ : ∃ m, r * c = m := ⟨_, rfl⟩;rw [hm] at hcap hic1 hrc ⊢;obtain ⟨x, hx⟩ : ∃ x, i * c = x := ⟨_, rfl⟩;obtain ⟨y, hy⟩ : ∃ y, (i + 1) * c = y := ⟨_, rfl⟩;have HX := hi_ (And.intro hx hy);rw [hx, hy] at hsl;rw [hx] at hic e1 HR;rw [hy] at hic1 e1;have h1 : ¬ (i : Int) < 0 := by omega
 have h2 : ¬ (r : Int) <= (i : Int) := by omega
 have h3 : ¬ (m : Int) < (y : Int) := by omega
 have HS := hi_ hsl;clear hx hy hsl hs hm hpos;refine bS (S0 := fun _ => False) Tryz.func22 ((Fr.nil _ w).l hA (by simp)) ?_;refine ah ?_;refine rW [] ?_;refine aW fun g2 => ?_;refine dW ?_;refine eW ?_;refine ah ?_;refine rW [] ?_;refine dW ?_;refine dB false ?_;refine dW ?_;(iterate 3 refine dG ?_);refine rJ false ?_;refine dW ?_;refine dW ?_;refine dG ?_;refine dGE (dR (a := i) (by omega)) ?_;refine dG ?_;refine dG ?_;refine dGE ((qJ (a := i + 1) (b := c) (by have := HX.out.2; omega)).trans (by rw [HX.out.2])) ?_;(iterate 3 refine dG ?_);refine rJ false ?_;refine dW ?_;refine eW ?_;refine ah ?_;refine dT ?_;refine ah ?_;refine rW [] ?_;(iterate 5 refine dW ?_);refine dE ((qJ (a := i) (b := c) (by have := HX.out.1; omega)).trans (by rw [HX.out.1])) ?_;refine dW ?_;refine dE (dR (a := i) (by omega)) ?_;refine dW ?_;refine dW ?_;refine dE ((qJ (a := i + 1) (b := c) (by have := HX.out.2; omega)).trans (by rw [HX.out.2])) ?_;refine slW (some ⟨bx, ox, none⟩) m cap x y (.slice (some ⟨bx, ox + x * 2, none⟩) c (cap - x)) (by omega) (by omega) HS.out ?_;refine dW ?_;refine eW ?_;refine ah ?_;refine ei fun w' H => ?_;exact ⟨_, ee, ⟨(⟨bx, ox + x * 2, none⟩, cap - x), rfl, HR.out w' bx ox (H.all (.ls L (some ⟨bx, ox, none⟩) xs) (by simp)), fun b o e => by cases e; exact ⟨ox, rfl⟩⟩, H.below⟩
end Go.Proofs.YtjjlmfmoihooiaaGreat
namespace Go.Proofs.YtjjlmfmoihooiaaGreat
section
variable {n m : Nat} {A : Mx} {k : Nat} {nu cs : Nat -> Nat} {R : Mx} {d : Int}
end
end Go.Proofs.YtjjlmfmoihooiaaGreat
namespace Go.Proofs.YtjjlmfmoihooiaaGreat
open Go.RowKit
end Go.Proofs.YtjjlmfmoihooiaaGreat
namespace Go.Proofs.YtjjlmfmoihooiaaGreat
end Go.Proofs.YtjjlmfmoihooiaaGreat
namespace Go.Proofs.YtjjlmfmoihooiaaGreat
open Go.RowKit
end Go.Proofs.YtjjlmfmoihooiaaGreat
namespace Go.Proofs.YtjjlmfmoihooiaaGreat
def HF (r c : Nat) (E : Nat -> Nat -> Int) : Prop := ∃ k l, k <= r /\ eK k c E l /\ ∀ i, k <= i -> i < r -> ∀ b, E i b = 0
structure l4 (c : Nat) (E : Nat -> Nat -> Int) (i j : Nat) : Prop where
 le : j <= c
 zero : ∀ b, b < j -> E i b = 0
 ne : j < c -> E i j ≠ 0
def FI (c : Nat) (E : Nat -> Nat -> Int) (i : Nat) (last : Int) : Prop :=
 ∃ k l, k <= i /\ eK k c E l /\ (∀ a, k <= a -> a < i -> ∀ b, b < c -> E a b = 0) /\ last = (if k < i then (c : Int) else if k = 0 then -1 else (l (k - 1) : Int))
theorem FI.start (c : Nat) (E : Nat -> Nat -> Int) : FI c E 0 (-1) :=
 ⟨0, fun _ => 0, Nat.le_refl _, ⟨⟨fun i k _ h => by omega, fun i h => by omega, fun i h => by omega, fun i h => by omega⟩, fun i k _ h => by omega⟩, fun a _ h => by omega, rfl⟩
theorem FI.fin {r c : Nat} {E : Nat -> Nat -> Int} {last : Int} (hE : ∀ i b, c <= b -> E i b = 0) (h : FI c E r last) : HF r c E := by
 obtain ⟨k, l, hk, hH, hz, _⟩ := h;exact ⟨k, l, hk, hH, fun i hi hr b => by
  by_cases hb : b < c
  · exact hz i hi hr b hb
  · exact hE i b (by omega)⟩
theorem FI.skip {c i : Nat} {E : Nat -> Nat -> Int} {last : Int} (h : FI c E i last) (hl : l4 c E i c) : FI c E (i + 1) (c : Int) := by
 obtain ⟨k, l, hk, hH, hz, _⟩ := h;refine ⟨k, l, by omega, hH, fun a h1 h2 b hb => ?_, by rw [if_pos (by omega)]⟩;by_cases e : a = i
 · subst e; exact hl.zero b hb
 · exact hz a h1 (by omega) b hb
theorem FI.next {c i j : Nat} {E : Nat -> Nat -> Int} {last : Int} (h : FI c E i last) (hl : l4 c E i j) (hj : j < c) (hlast : last < (j : Int)) (hp : 0 < E i j) (hr : ∀ a, a < i -> 0 <= E a j /\ E a j < E i j) : FI c E (i + 1) (j : Int) := by
 obtain ⟨k, l, hk, hH, hz, hla⟩ := h;have hki : k = i := by
  by_cases e : k < i
  · rw [if_pos e] at hla; omega
  · omega
 subst hki;rw [if_neg (by omega)] at hla;have hlo : ∀ a, a < k -> l a < j := fun a ha => by
  rw [if_neg (by omega)] at hla;rcases Nat.lt_or_eq_of_le (show a <= k - 1 by omega) with e | e
  · have := hH.inc a (k - 1) e (by omega); omega
  · subst e; omega
 have h2 : ∀ a, a < k -> (if a < k then l a else j) = l a := fun a ha => if_pos ha;have h3 : (if k < k then l k else j) = j := if_neg (by omega);refine ⟨k + 1, fun a => if a < k then l a else j, Nat.le_refl _, ⟨⟨fun a b hab hb => ?_, fun a ha => ?_, fun a ha b hb => ?_, fun a ha => ?_⟩, fun a b hab hb => ?_⟩, fun a h1 h2 => by omega, ?_⟩
 · show (if a < k then l a else j) < (if b < k then l b else j);rw [h2 a (by omega)];by_cases e : b < k
   · rw [h2 b e]; exact hH.inc a b hab e
   · obtain rfl : b = k := by omega
     rw [h3]; exact hlo a (by omega)
 · show (if a < k then l a else j) < c;by_cases e : a < k
   · rw [h2 a e]; exact hH.lt a e
   · obtain rfl : a = k := by omega
     rw [h3]; exact hj
 · have hb : b < (if a < k then l a else j) := hb;by_cases e : a < k
   · rw [h2 a e] at hb; exact hH.zero a e b hb
   · obtain rfl : a = k := by omega
     rw [h3] at hb; exact hl.zero b hb
 · show 0 < E a (if a < k then l a else j);by_cases e : a < k
   · rw [h2 a e]; exact hH.pos a e
   · obtain rfl : a = k := by omega
     rw [h3]; exact hp
 · show 0 <= E a (if b < k then l b else j) /\ E a (if b < k then l b else j) < E b (if b < k then l b else j);by_cases e : b < k
   · rw [h2 b e]; exact hH.red a b hab e
   · obtain rfl : b = k := by omega
     rw [h3]; exact hr a hab
 · rw [if_neg (by omega), if_neg (by omega)];show (j : Int) = ((if k + 1 - 1 < k then l (k + 1 - 1) else j : Nat) : Int);rw [if_neg (by omega)]
theorem HF.row {r c i j : Nat} {E : Nat -> Nat -> Int} {last : Int} (h : HF r c E) (hi : i < r) (hl : l4 c E i j) (hj : j < c) (hF : FI c E i last) : last < (j : Int) /\ 0 < E i j /\ ∀ a, a < i -> 0 <= E a j /\ E a j < E i j := by
 obtain ⟨K, L, hK, hH, hz⟩ := h;obtain ⟨k, l, hk, hHk, hzk, hla⟩ := hF;have hiK : i < K := by
  by_cases e : i < K
  · exact e
  · exact absurd (hz i (by omega) hi j) (hl.ne hj)
 have hLj : ∀ {a q : Nat}, a < K -> (∀ b, b < q -> E a b = 0) -> E a q ≠ 0 -> L a = q := fun {a q} ha h0 hn => by
  rcases Nat.lt_trichotomy (L a) q with e | e | e
  · have := hH.pos a ha; have := h0 _ e; omega
  · exact e
  · exact absurd (hH.zero a ha q e) hn
 have hLi : L i = j := hLj hiK hl.zero (hl.ne hj);have hki : k = i := by
  by_cases e : k < i
  · exfalso;have h1 := hH.pos k (by omega);rw [hzk k (Nat.le_refl _) e (L k) (hH.lt k (by omega))] at h1;omega
  · omega
 subst hki;rw [if_neg (by omega)] at hla;refine ⟨?_, by rw [<- hLi]; exact hH.pos k hiK, fun a ha => by rw [<- hLi]; exact hH.red a k ha hiK⟩;by_cases e : k = 0
 · rw [if_pos e] at hla; omega
 · rw [if_neg e] at hla;have h1 : L (k - 1) = l (k - 1) := hLj (by omega) (hHk.zero (k - 1) (by omega)) (by have := hHk.pos (k - 1) (by omega); omega);have h2 := hH.inc (k - 1) k (by omega) hiK;omega
theorem HF.kF {r c i : Nat} {E : Nat -> Nat -> Int} (h : HF r c E) (hi : i < r) (hl : ∀ b, E i b = 0) : ∀ a, i <= a -> a < r -> ∀ b, E a b = 0 := by
 obtain ⟨K, L, hK, hH, hz⟩ := h;have hiK : K <= i := by
  by_cases e : K <= i
  · exact e
  · have := hH.pos i (by omega); rw [hl] at this; omega
 exact fun a h1 h2 b => hz a (by omega) h2 b
theorem HF.congr {r c : Nat} {E F : Nat -> Nat -> Int} (h : HF r c E) (e : ∀ i, i < r -> ∀ b, F i b = E i b) : HF r c F := by
 obtain ⟨k, l, hk, hH, hz⟩ := h;exact ⟨k, l, hk, hH.congr (fun a ha b => e a (by omega) b), fun i hi hr b => (e i hr b).trans (hz i hi hr b)⟩
end Go.Proofs.YtjjlmfmoihooiaaGreat
namespace Go.Proofs.YtjjlmfmoihooiaaGreat
open Go.RowKit
theorem oI {R : List Hd} {c i : Nat} (hi : i < R.length) (hs : Sh c R) : l4 c (aw R) i (aM R i) := by
 have h := nj hi hs;exact ⟨h.1, h.2.1, h.2.2⟩
theorem wH (r c m : Nat) (ao : Option Addr) (len cap : Nat) (xs : List Int) (w : World) (hr : r <= 64) (hc : c <= 64) (h : aL w 17592186044415 ao xs) (hm : ∀ x ∈ xs, ag x.natAbs <= m) (hm1 : m <= 8796093022208) (hl : len = xs.length) (hs : xs.length = r * c) :
 Calls Tryz.prog 11 #[.agg #[.int .i64 (r : Int), .int .i64 (c : Int), .slice ao len cap]] w fun e w' => (∃ t, e = .returned (.tuple #[.bool t, .int .i64 0]) /\ (t = true ↔ HF r c (aE xs r c))) /\ Below w.heap.size w w' := by
 subst hl;have hwl : ∀ x ∈ xs, ag x.natAbs <= 17592186044415 := fun x hx => Nat.le_trans (hm x hx) (by omega);have HXS := hi_ h; clear h;have HWL := hi_ hwl; clear hwl;have hsnd : aR (r : Int) (c : Int) xs.length = true := by
  unfold aR bJ;rw [hs]; simp; omega
 have HS := hi_ hs; clear hs;have HM := hi_ hm; clear hm;have HCK := hi_ (dC hsnd); clear hsnd;have r1 := aa.new w #[.int .i64 (r : Int), .int .i64 (c : Int), .slice ao xs.length cap] 24;have hb : Below w.heap.size w (w.alloc (.cells #[.int .i64 (r : Int), .int .i64 (c : Int), .slice ao xs.length cap] 24)) := (Below.refl _ _).alloc (Nat.le_refl _) _;go_enter Tryz.func11, Tryz.ntmps11;go_wp2_with fail
 generalize w.alloc (.cells #[.int .i64 (r : Int), .int .i64 (c : Int), .slice ao xs.length cap] 24) = w2 at *;refine (cJ (r : Int) (c : Int) ao xs.length cap _ (by omega) (by omega)).mono ?_;rintro e w3 ⟨rfl, hb3⟩;rw [HCK.out];have R1 := hi_ (r1.below hb3 r1.lt);have L3 := hi_ ((HXS.out.below hb).below hb3);have B3 := hi_ (hb.trans (hb3.mono hb.size));have e0 := R1.out.cell 0;have e1 := R1.out.cell 1;have e2 := R1.out.cell 2;have hs3 : w.heap.size < w3.heap.size := R1.out.lt;clear r1 hb hb3;go_wp2_with fail
 refine (callsIn_wide.1 (pX r c ao xs.length cap xs w3 hr hc L3.out HWL.out rfl HS.out)).mono ?_;rintro e w4 ⟨⟨o, R, rfl, hM, hRl, hRx, hob, hRb⟩, hb4⟩;obtain ⟨hSh, hE⟩ := kM hRl HS.out hRx;have hbd : ∀ q ∈ R, ∀ x ∈ q.xs, ag x.natAbs <= m := fun q hq x hx => by
  obtain ⟨k, hk, rfl⟩ := List.getElem_of_mem hq;rw [hRx k hk] at hx;exact HM.out x (List.mem_of_mem_drop (List.mem_of_mem_take hx))
 have HH := hi_ (And.intro hSh (And.intro hE hbd));have HMN := hi_ hM; clear hM;have R14 := hi_ (R1.out.below hb4 R1.out.lt);have B4 := hi_ (B3.out.trans (hb4.mono B3.out.size));have HRl := hi_ hRl;clear hb4 e0 e1 e2 hSh hE hRx hbd R1 L3 B3 hob hRb;rw [hRl];clear hRl;go_wp2;go_loopw [5, 21] (fun l_ i_ wr => ∃ (i : Nat) (last : Int), i <= r /\ i_ = .int .i64 (i : Int) /\ l_ = .int .i64 last /\ -1 <= last /\ last <= 64 /\ Hid (FI c (aw R) i last) /\ Hid (Below w4.heap.size w4 wr)) (fun _ i_ _ => r - (intOf i_).toNat)
 case atStart => exact ⟨0, -1, Nat.zero_le _, rfl, rfl, by omega, by omega, hi_ (FI.start c _), hi_ (Below.refl _ _)⟩
 case round =>
  obtain ⟨i, last, hi, rfl, rfl, hla1, hla2, hF, hBl⟩ := hrel;by_cases hin : i < r
  · have hin1 : (i : Int) < (r : Int) := by omega
    have hiR : i < R.length := by rw [HRl.out]; exact hin
    have hM' := HMN.out.below hBl.out;have c0 := hM'.cF hiR;have hxl : R[i].xs.length = c := HH.out.1.get hiR;unfold Hd.cF at c0;have hlead := jk R[i].blk R[i].cap R[i].xs wr (hM'.row _ (List.getElem_mem hiR)) (fun x hx => Nat.le_trans (HH.out.2.2 _ (List.getElem_mem hiR) x hx) (by omega)) (by omega);have hle := eT hiR;rw [<- hle] at hlead;rw [hxl] at c0 hlead;have hIL := oI hiR HH.out.1;obtain ⟨j, hj⟩ : ∃ j, aM R i = j := ⟨_, rfl⟩;rw [hj] at hlead hIL;have HLead := hi_ hlead; clear hlead;have HIL := hi_ hIL;have hjc : j <= c := hIL.le;have g1 := (R14.out.below hBl.out R14.out.lt).cell 1;simp only [List.getElem?_cons_zero, List.getElem?_cons_succ] at g1;clear hIL hle hj;go_wp2_with fail
    refine HLead.out.mono ?_;rintro e w5 ⟨rfl, hb5⟩;have B5 := hi_ (hBl.out.trans (hb5.mono hBl.out.size));have g1' := (R14.out.below B5.out R14.out.lt).cell 1;simp only [List.getElem?_cons_zero, List.getElem?_cons_succ] at g1';clear hb5 g1 c0 hBl;by_cases hjl : j = c
    · subst hjl;have hs2 := hi_ (hF.out.skip HIL.out);have hjj : ((j : Int) == (j : Int)) = true := by simp
      go_wp2;go_roundw
      case rel => exact ⟨i + 1, (j : Int), by omega, by go_num, rfl, by omega, by omega, hs2, B5⟩
      case measure => simp [intOf]; omega
    · have hjn : ((j : Int) == (c : Int)) = false := by simp; omega
      have hjc2 : j < c := by omega
      obtain ⟨p, q0, q1, hn⟩ := ((HMN.out.below B5.out).row _ (List.getElem_mem hiR)).get (i := j) (by rw [hxl]; exact hjc2);have hjx : (j : Int) < (c : Int) := by omega
      have hent : aw R i j = R[i].xs[j]'(by rw [hxl]; exact hjc2) := fP hiR (by rw [hxl]; exact hjc2);rw [<- hent] at hn;have hwx : ag (aw R i j).natAbs <= m := by rw [hent]; exact HH.out.2.2 _ (List.getElem_mem hiR) _ (List.getElem_mem _)
      have HN := hi_ (hn.int (L := 17592186044415) (by omega));have HENT := hi_ hent;clear hn hent hwx;have hnot : ∀ t : Bool, t = false -> (∀ h : HF r c (aw R), False) -> (t = true ↔ HF r c (aE xs r c)) := fun t ht hno => by
       subst ht;exact Iff.intro (fun h => by cases h) (fun h => (hno (HF.congr h (fun a _ b => HH.out.2.1 a b))).elim)
      have HNo := hi_ hnot; clear hnot;have hBf : Below w.heap.size w w5 := B4.out.trans (B5.out.mono B4.out.size);have HBf := hi_ hBf; clear hBf;by_cases hjla : (j : Int) <= last
      · have hno := hi_ (fun h : HF r c (aw R) => by have := (h.row hin HIL.out hjc2 hF.out).1; omega : HF r c (aw R) -> False);have t1 : decide ((j : Int) <= last) = true := by simpa using hjla
        go_wp2;go_ret2;exact ⟨⟨false, rfl, HNo.out _ rfl hno.out⟩, HBf.out⟩
      · have t1 : decide ((j : Int) <= last) = false := by simpa using hjla
        have hF' := hi_ (And.intro hF.out (show last < (j : Int) by omega));have hs1 := bN (av p) (aw R i j) w5 HN.out;obtain ⟨x, hx⟩ : ∃ x, aw R i j = x := ⟨_, rfl⟩;rw [hx] at hs1;obtain ⟨zs, hzs⟩ : ∃ zs, aO x = zs := ⟨_, rfl⟩;rw [hzs] at hs1;have HS1 := hi_ hs1; clear hs1;unfold av at *;clear hjla hF;by_cases hxn : x < 0
        · have t2 : decide (zs < 0) = true := by rw [<- hzs]; unfold aO; rw [if_pos hxn]; rfl
          have hno := hi_ (fun h : HF r c (aw R) => by have := (h.row hin HIL.out hjc2 hF'.out.1).2.1; omega : HF r c (aw R) -> False);clear hx hzs hxn;go_wp2_with fail
          refine HS1.out.mono ?_;rintro e w6 ⟨rfl, hb6⟩;have HB6 := hi_ (HBf.out.trans (hb6.mono HBf.out.size)); clear hb6;go_wp2;go_ret2;exact ⟨⟨false, rfl, HNo.out _ rfl hno.out⟩, HB6.out⟩
        · have t2 : decide (zs < 0) = false := by rw [<- hzs]; unfold aO; rw [if_neg hxn]; split <;> rfl
          have hxp : 0 < x := by have := HIL.out.ne hjc2; rw [hx] at this; omega
          have HX := hi_ (And.intro hx hxp); clear hx hzs hxn hxp;go_wp2_with fail
          refine HS1.out.mono ?_;rintro e w6 ⟨rfl, hb6⟩;have B6 := hi_ (B5.out.trans (hb6.mono B5.out.size)); clear hb6 q0 q1 g1' HS1;clear B5 HBf HN;go_wp2;go_loopw [49] (fun a_ wq => ∃ (a : Nat), a <= i /\ a_ = .int .i64 (a : Int) /\ Hid (∀ a', a' < a -> 0 <= aw R a' j /\ aw R a' j < x) /\ Hid (Below w4.heap.size w4 wq)) (fun a_ _ => i - (intOf a_).toNat)
          case atStart => exact ⟨0, Nat.zero_le _, rfl, hi_ (fun a' h => by omega), B6⟩
          case round =>
           obtain ⟨a, ha, rfl, hag, hBl⟩ := hrel;by_cases hai : a < i
           · have hai1 : (a : Int) < (i : Int) := by omega
             have haR : a < R.length := by omega
             have hM' := HMN.out.below hBl.out;have c0 := hM'.cF haR;unfold Hd.cF at c0;have hal : R[a].xs.length = c := HH.out.1.get haR;rw [hal] at c0;obtain ⟨pa, qa0, qa1, hna⟩ := (hM'.row _ (List.getElem_mem haR)).get (i := j) (by rw [hal]; exact hjc2);obtain ⟨pi, qi0, qi1, hni⟩ := (hM'.row _ (List.getElem_mem hiR)).get (i := j) (by rw [hxl]; exact hjc2);have hea : aw R a j = R[a].xs[j]'(by rw [hal]; exact hjc2) := fP haR (by rw [hal]; exact hjc2);rw [<- hea] at hna;rw [<- HENT.out, HX.out.1] at hni;have hwa : ag (aw R a j).natAbs <= m := by rw [hea]; exact HH.out.2.2 _ (List.getElem_mem haR) _ (List.getElem_mem _)
             have hwi : ag x.natAbs <= m := by rw [<- HX.out.1, HENT.out]; exact HH.out.2.2 _ (List.getElem_mem hiR) _ (List.getElem_mem _)
             have hba : R[a].blk < wr.heap.size := (hM'.row _ (List.getElem_mem haR)).lt;have hbi : R[i].blk < wr.heap.size := (hM'.row _ (List.getElem_mem hiR)).lt;obtain ⟨y, hy⟩ : ∃ y, aw R a j = y := ⟨_, rfl⟩;rw [hy] at hna hwa;have HY := hi_ hy; clear hy hea;have HNa := hi_ (hna.int (L := 17592186044415) (by omega));have HNi := hi_ (hni.int (L := 17592186044415) (by omega));clear hna hni hwa hwi hM';obtain ⟨za, hza⟩ : ∃ za, aO y = za := ⟨_, rfl⟩;obtain ⟨zc, hzc⟩ : ∃ zc, nM y x = zc := ⟨_, rfl⟩;have hS : Hid (Calls Tryz.prog 16 #[.agg #[.bool pa.1, .slice pa.2.1 pa.2.2.1 pa.2.2.2]] wr.drew fun e w' => e = .returned (.int .i64 za) /\ Below wr.drew.heap.size wr.drew w') := hi_ (by
              have := bN (av pa) y wr.drew (ai.below (w := wr) HNa.out (Below.refl _ _).drew); rw [hza] at this; exact this)
             have hC : Hid (∀ W : World, Below wr.heap.size wr W -> Calls Tryz.prog 17 #[.agg #[.bool pa.1, .slice pa.2.1 pa.2.2.1 pa.2.2.2], .agg #[.bool pi.1, .slice pi.2.1 pi.2.2.1 pi.2.2.2]] W fun e w' => e = .returned (.int .i64 zc) /\ Below W.heap.size W w') := hi_ (fun W hW => by
              have := AW (av pa) (av pi) y x W (ai.below HNa.out hW) (ai.below HNi.out hW); rw [hzc] at this; exact this)
             unfold av at *;by_cases hyn : y < 0
             · have t3 : decide (za < 0) = true := by rw [<- hza]; unfold aO; rw [if_pos hyn]; rfl
               have hno := hi_ (fun h : HF r c (aw R) => by have := (h.row hin HIL.out hjc2 hF'.out.1).2.2 a hai; rw [HY.out] at this; omega : HF r c (aw R) -> False);have T3 := hi_ t3;clear hza hzc hyn hC qi0 qi1 t3;go_wp2;have t3 : decide (za < 0) = true := T3.out;refine wp_region_any (by kernel_rfl) ?_;try (change wpAny _ _ _ _ _ _ _ (World.drew _))
               refine wpAny_take (i := 0) (v := ?_) rfl (by kernel_rfl) (by kernel_rfl) (by kernel_rfl) (fun _ _ _ h => h) (Or.inl ⟨by kernel_rfl, ?_⟩) ?_;rotate_left
               · intro w; go_simp; try (with_reducible rfl)
               refine wpAny_take (i := 1) (v := ?_) rfl (by kernel_rfl) (by kernel_rfl) (by kernel_rfl) (fun _ _ _ h => h) (Or.inl ⟨by kernel_rfl, ?_⟩) ?_;rotate_left
               · intro w; go_simp; try (with_reducible rfl)
               refine wpAny_take (i := 2) (v := ?_) rfl (by kernel_rfl) (by kernel_rfl) (by kernel_rfl) (fun _ _ _ h => h) (Or.inl ⟨by kernel_rfl, ?_⟩) ?_;rotate_left
               · intro w; go_simp; try (with_reducible rfl)
               refine wpAny_ready (rs := [3]) (by kernel_rfl) (by simp) ?_;refine AllReady.cons rfl (fun K hK => ?_) AllReady.nil;go_simp;refine hK _ _ ?_;clear hK K;refine wpAny_ready (rs := [4]) (by kernel_rfl) (by simp) ?_;refine AllReady.cons rfl (fun K hK => ?_) AllReady.nil;go_simp;go_wp2_with (first | (go_at_call 16; refine hS.out.mono ?_; rintro e w7 ⟨rfl, hb7⟩))
               refine wpAny_take (i := 5) (v := ?_) rfl (by kernel_rfl) (by kernel_rfl) (by kernel_rfl) (fun _ _ _ h => h) (Or.inl ⟨by kernel_rfl, ?_⟩) ?_;rotate_left
               · intro w; go_simp; try (with_reducible rfl)
               refine wpAny_take (i := 6) (v := ?_) rfl (by kernel_rfl) (by kernel_rfl) (by kernel_rfl) (fun _ _ _ h => h) (Or.inl ⟨by kernel_rfl, ?_⟩) ?_;rotate_left
               · intro w; go_simp; try (with_reducible rfl)
               refine wpAny_take (i := 7) (v := undef) rfl (by kernel_rfl) (by kernel_rfl) (by kernel_rfl) (fun _ _ _ h => h) (Or.inr ⟨by kernel_rfl, rfl⟩) ?_;refine wpAny_take (i := 8) (v := undef) rfl (by kernel_rfl) (by kernel_rfl) (by kernel_rfl) (fun _ _ _ h => h) (Or.inr ⟨by kernel_rfl, rfl⟩) ?_;refine wpAny_take (i := 9) (v := undef) rfl (by kernel_rfl) (by kernel_rfl) (by kernel_rfl) (fun _ _ _ h => h) (Or.inr ⟨by kernel_rfl, rfl⟩) ?_;refine wpAny_take (i := 10) (v := undef) rfl (by kernel_rfl) (by kernel_rfl) (by kernel_rfl) (fun _ _ _ h => h) (Or.inr ⟨by kernel_rfl, rfl⟩) ?_;refine wpAny_take (i := 11) (v := undef) rfl (by kernel_rfl) (by kernel_rfl) (by kernel_rfl) (fun _ _ _ h => h) (Or.inr ⟨by kernel_rfl, rfl⟩) ?_;refine wpAny_take (i := 12) (v := undef) rfl (by kernel_rfl) (by kernel_rfl) (by kernel_rfl) (fun _ _ _ h => h) (Or.inr ⟨by kernel_rfl, rfl⟩) ?_;refine wpAny_take (i := 13) (v := undef) rfl (by kernel_rfl) (by kernel_rfl) (by kernel_rfl) (fun _ _ _ h => h) (Or.inr ⟨by kernel_rfl, rfl⟩) ?_;refine wpAny_take (i := 14) (v := undef) rfl (by kernel_rfl) (by kernel_rfl) (by kernel_rfl) (fun _ _ _ h => h) (Or.inr ⟨by kernel_rfl, rfl⟩) ?_;refine wpAny_take (i := 15) (v := undef) rfl (by kernel_rfl) (by kernel_rfl) (by kernel_rfl) (fun _ _ _ h => h) (Or.inr ⟨by kernel_rfl, rfl⟩) ?_;refine wpAny_take (i := 16) (v := undef) rfl (by kernel_rfl) (by kernel_rfl) (by kernel_rfl) (fun _ _ _ h => h) (Or.inr ⟨by kernel_rfl, rfl⟩) ?_;refine wpAny_take (i := 17) (v := ?_) rfl (by kernel_rfl) (by kernel_rfl) (by kernel_rfl) (fun _ _ _ h => h) (Or.inl ⟨by kernel_rfl, ?_⟩) ?_;rotate_left
               · intro w; go_simp; try (with_reducible rfl)
               refine wpAny_done (by kernel_rfl) ?_ _;have HB7 : Hid (Below w.heap.size w w7) := hi_ (B4.out.trans ((hBl.out.drew.trans (hb7.mono hBl.out.size)).mono B4.out.size));clear hb7 hS hBl;go_simp;go_wp2;go_ret2;exact ⟨⟨false, rfl, HNo.out _ rfl hno.out⟩, HB7.out⟩
             · have t3 : decide (za < 0) = false := by rw [<- hza]; unfold aO; rw [if_neg hyn]; split <;> rfl
               obtain ⟨t, ht⟩ : ∃ t, decide (0 <= zc) = t := ⟨_, rfl⟩;have hty : t = false -> y < x := fun e => by
                subst e;rw [decide_eq_false_iff_not, <- hzc] at ht;unfold nM at ht;by_cases h : y < x
                · exact h
                · rw [if_neg h] at ht; split at ht <;> omega
               have hty2 : t = true -> ¬ y < x := fun e h => by
                subst e;rw [decide_eq_true_iff, <- hzc] at ht;unfold nM at ht;rw [if_pos h] at ht;omega
               have HTY := hi_ (And.intro hty (And.intro hty2 hyn));have T3 := hi_ t3;clear hza hzc hyn hty hty2 t3;go_wp2;have t3 : decide (za < 0) = false := T3.out;refine wp_region_any (by kernel_rfl) ?_;try (change wpAny _ _ _ _ _ _ _ (World.drew _))
               refine wpAny_take (i := 0) (v := ?_) rfl (by kernel_rfl) (by kernel_rfl) (by kernel_rfl) (fun _ _ _ h => h) (Or.inl ⟨by kernel_rfl, ?_⟩) ?_;rotate_left
               · intro w; go_simp; try (with_reducible rfl)
               refine wpAny_take (i := 1) (v := ?_) rfl (by kernel_rfl) (by kernel_rfl) (by kernel_rfl) (fun _ _ _ h => h) (Or.inl ⟨by kernel_rfl, ?_⟩) ?_;rotate_left
               · intro w; go_simp; try (with_reducible rfl)
               refine wpAny_take (i := 2) (v := ?_) rfl (by kernel_rfl) (by kernel_rfl) (by kernel_rfl) (fun _ _ _ h => h) (Or.inl ⟨by kernel_rfl, ?_⟩) ?_;rotate_left
               · intro w; go_simp; try (with_reducible rfl)
               refine wpAny_ready (rs := [3]) (by kernel_rfl) (by simp) ?_;refine AllReady.cons rfl (fun K hK => ?_) AllReady.nil;go_simp;refine hK _ _ ?_;clear hK K;refine wpAny_ready (rs := [4]) (by kernel_rfl) (by simp) ?_;refine AllReady.cons rfl (fun K hK => ?_) AllReady.nil;go_simp;go_wp2_with (first | (go_at_call 16; refine hS.out.mono ?_; rintro e w7 ⟨rfl, hb7⟩; have k0 := (hb7.cell (p := ⟨R[a].blk, j * 2, none⟩) hba).trans qa0; have k1 := (hb7.cell (p := ⟨R[a].blk, j * 2 + 1, none⟩) hba).trans qa1; have k2 := (hb7.cell (p := ⟨R[i].blk, j * 2, none⟩) hbi).trans qi0; have k3 := (hb7.cell (p := ⟨R[i].blk, j * 2 + 1, none⟩) hbi).trans qi1))
               refine wpAny_take (i := 5) (v := ?_) rfl (by kernel_rfl) (by kernel_rfl) (by kernel_rfl) (fun _ _ _ h => h) (Or.inl ⟨by kernel_rfl, ?_⟩) ?_;rotate_left
               · intro w; go_simp; try (with_reducible rfl)
               refine wpAny_take (i := 6) (v := ?_) rfl (by kernel_rfl) (by kernel_rfl) (by kernel_rfl) (fun _ _ _ h => h) (Or.inl ⟨by kernel_rfl, ?_⟩) ?_;rotate_left
               · intro w; go_simp; try (with_reducible rfl)
               refine wpAny_take (i := 7) (v := ?_) rfl (by kernel_rfl) (by kernel_rfl) (by kernel_rfl) (fun _ _ _ h => h) (Or.inl ⟨by kernel_rfl, ?_⟩) ?_;rotate_left
               · intro w; go_simp; try (with_reducible rfl)
               refine wpAny_take (i := 8) (v := ?_) rfl (by kernel_rfl) (by kernel_rfl) (by kernel_rfl) (fun _ _ _ h => h) (Or.inl ⟨by kernel_rfl, ?_⟩) ?_;rotate_left
               · intro w; go_simp; try (with_reducible rfl)
               refine wpAny_take (i := 9) (v := ?_) rfl (by kernel_rfl) (by kernel_rfl) (by kernel_rfl) (fun _ _ _ h => h) (Or.inl ⟨by kernel_rfl, ?_⟩) ?_;rotate_left
               · intro w; go_simp; try (with_reducible rfl)
               refine wpAny_take (i := 11) (v := ?_) rfl (by kernel_rfl) (by kernel_rfl) (by kernel_rfl) (fun _ _ _ h => h) (Or.inl ⟨by kernel_rfl, ?_⟩) ?_;rotate_left
               · intro w; go_simp; try (with_reducible rfl)
               refine wpAny_take (i := 12) (v := ?_) rfl (by kernel_rfl) (by kernel_rfl) (by kernel_rfl) (fun _ _ _ h => h) (Or.inl ⟨by kernel_rfl, ?_⟩) ?_;rotate_left
               · intro w; go_simp; try (with_reducible rfl)
               refine wpAny_take (i := 13) (v := ?_) rfl (by kernel_rfl) (by kernel_rfl) (by kernel_rfl) (fun _ _ _ h => h) (Or.inl ⟨by kernel_rfl, ?_⟩) ?_;rotate_left
               · intro w; go_simp; try (with_reducible rfl)
               refine wpAny_ready (rs := [10, 14]) (by kernel_rfl) (by simp) ?_;refine AllReady.cons rfl (fun K hK => ?_) (AllReady.cons rfl (fun K hK => ?_) AllReady.nil)
               · go_simp;refine hK _ _ ?_;clear hK K;refine wpAny_ready (rs := [14]) (by kernel_rfl) (by simp) ?_;refine AllReady.cons rfl (fun K hK => ?_) AllReady.nil;go_simp;refine hK _ _ ?_;clear hK K;refine wpAny_ready (rs := [15]) (by kernel_rfl) (by simp) ?_;refine AllReady.cons rfl (fun K hK => ?_) AllReady.nil;go_simp;go_wp2_with (first | (go_at_call 17; refine (hC.out _ ((Below.refl _ wr).drew.trans hb7)).mono ?_; rintro e w8 ⟨rfl, hb8⟩))
                 refine wpAny_take (i := 16) (v := ?_) rfl (by kernel_rfl) (by kernel_rfl) (by kernel_rfl) (fun _ _ _ h => h) (Or.inl ⟨by kernel_rfl, ?_⟩) ?_;rotate_left
                 · intro w; go_simp; try (with_reducible rfl)
                 refine wpAny_take (i := 17) (v := ?_) rfl (by kernel_rfl) (by kernel_rfl) (by kernel_rfl) (fun _ _ _ h => h) (Or.inl ⟨by kernel_rfl, ?_⟩) ?_;rotate_left
                 · intro w; go_simp; try (with_reducible rfl)
                 refine wpAny_done (by kernel_rfl) ?_ _;have HB8 : Hid (Below w4.heap.size w4 w8) := hi_ ((hBl.out.drew.trans (hb7.mono hBl.out.size)).trans (hb8.mono (Nat.le_trans hBl.out.size hb7.size)));clear hb7 hb8 hS hC hBl k0 k1 k2 k3 qa0 qa1 qi0 qi1 c0;clear ht;go_simp;cases t
                 · go_wp2;go_roundw
                   case rel => exact ⟨a + 1, by omega, by go_num, hi_ (fun a' h => by
                    by_cases e : a' = a
                    · subst e; rw [HY.out]; exact ⟨by have := HTY.out.2.2; omega, HTY.out.1 rfl⟩
                    · exact hag.out a' (by omega)), HB8⟩
                   case measure => simp [intOf]; omega
                 · have hno := hi_ (fun h : HF r c (aw R) => by have := (h.row hin HIL.out hjc2 hF'.out.1).2.2 a hai; rw [HY.out, HX.out.1] at this; have h8 := HTY.out.2.1 rfl; omega : HF r c (aw R) -> False);have HB9 : Hid (Below w.heap.size w w8) := hi_ (B4.out.trans (HB8.out.mono B4.out.size));go_wp2;go_ret2;first | exact ⟨⟨false, rfl, HNo.out _ rfl hno.out⟩, HB9.out⟩ | exact ⟨.inl ⟨rfl, fun h => by have h8 := (HNo.out _ rfl hno.out).2 h; cases h8⟩, HB9.out⟩
               · go_simp;refine hK _ _ ?_;clear hK K;refine wpAny_ready (rs := [10]) (by kernel_rfl) (by simp) ?_;refine AllReady.cons rfl (fun K hK => ?_) AllReady.nil;go_simp;refine hK _ _ ?_;clear hK K;refine wpAny_ready (rs := [15]) (by kernel_rfl) (by simp) ?_;refine AllReady.cons rfl (fun K hK => ?_) AllReady.nil;go_simp;go_wp2_with (first | (go_at_call 17; refine (hC.out _ ((Below.refl _ wr).drew.trans hb7)).mono ?_; rintro e w8 ⟨rfl, hb8⟩))
                 refine wpAny_take (i := 16) (v := ?_) rfl (by kernel_rfl) (by kernel_rfl) (by kernel_rfl) (fun _ _ _ h => h) (Or.inl ⟨by kernel_rfl, ?_⟩) ?_;rotate_left
                 · intro w; go_simp; try (with_reducible rfl)
                 refine wpAny_take (i := 17) (v := ?_) rfl (by kernel_rfl) (by kernel_rfl) (by kernel_rfl) (fun _ _ _ h => h) (Or.inl ⟨by kernel_rfl, ?_⟩) ?_;rotate_left
                 · intro w; go_simp; try (with_reducible rfl)
                 refine wpAny_done (by kernel_rfl) ?_ _;have HB8 : Hid (Below w4.heap.size w4 w8) := hi_ ((hBl.out.drew.trans (hb7.mono hBl.out.size)).trans (hb8.mono (Nat.le_trans hBl.out.size hb7.size)));clear hb7 hb8 hS hC hBl k0 k1 k2 k3 qa0 qa1 qi0 qi1 c0;clear ht;go_simp;cases t
                 · go_wp2;go_roundw
                   case rel => exact ⟨a + 1, by omega, by go_num, hi_ (fun a' h => by
                    by_cases e : a' = a
                    · subst e; rw [HY.out]; exact ⟨by have := HTY.out.2.2; omega, HTY.out.1 rfl⟩
                    · exact hag.out a' (by omega)), HB8⟩
                   case measure => simp [intOf]; omega
                 · have hno := hi_ (fun h : HF r c (aw R) => by have := (h.row hin HIL.out hjc2 hF'.out.1).2.2 a hai; rw [HY.out, HX.out.1] at this; have h8 := HTY.out.2.1 rfl; omega : HF r c (aw R) -> False);have HB9 : Hid (Below w.heap.size w w8) := hi_ (B4.out.trans (HB8.out.mono B4.out.size));go_wp2;go_ret2;first | exact ⟨⟨false, rfl, HNo.out _ rfl hno.out⟩, HB9.out⟩ | exact ⟨.inl ⟨rfl, fun h => by have h8 := (HNo.out _ rfl hno.out).2 h; cases h8⟩, HB9.out⟩
           · obtain rfl : a = i := by omega
             have hnx := hi_ (hF'.out.1.next HIL.out hjc2 hF'.out.2 (by rw [HX.out.1]; exact HX.out.2) (fun a' h => by rw [HX.out.1]; exact hag.out a' h));go_wp2;go_roundw
             case rel => exact ⟨a + 1, (j : Int), by omega, by go_num, rfl, by omega, by omega, hnx, hBl⟩
             case measure => simp [intOf]; omega
  · obtain rfl : i = r := by omega
    have hfin : HF i c (aw R) := hF.out.fin (fun a b hb => HH.out.1.wide a hb);have HFN := hi_ hfin; clear hfin;go_wp2;go_ret2;refine ⟨⟨true, rfl, fun _ => HFN.out.congr (fun a _ b => (HH.out.2.1 a b).symm), fun _ => rfl⟩, B4.out.trans (hBl.out.mono B4.out.size)⟩
theorem nJ {w w' : World} {base : Nat} {e : TypeId} {size : Nat} {v : Value} {n : Nat} {xs : List Value} (h : w.ownsRow base e size v n xs) (hb : Below w.heap.size w w') : w'.ownsRow base e size v n xs := by
 refine ⟨h.1, ?_⟩;rcases h.2 with hn | ⟨g, cap, cur, hv, hg, hc, rest⟩
 · exact .inl hn
 · refine .inr ⟨g, cap, cur, hv, hg, ?_, rest⟩;have hlt : g < w.heap.size := by
    by_cases e : g < w.heap.size
    · exact e
    · rw [Array.getElem?_eq_none (by omega)] at hc; cases hc
   rw [hb.block g hlt]; exact hc
structure PV (c : Nat) (E : Nat -> Nat -> Int) (i : Nat) (ls : List Nat) : Prop where
 len : ls.length = i
 herm : eK i c E (fun a => ls.getD a 0)
def wk (ls : List Nat) : Int := if ls.length = 0 then -1 else (ls.getD (ls.length - 1) 0 : Int)
theorem PV.start (c : Nat) (E : Nat -> Nat -> Int) : PV c E 0 [] :=
 ⟨rfl, ⟨⟨fun i k _ h => by omega, fun i h => by omega, fun i h => by omega, fun i h => by omega⟩, fun i k _ h => by omega⟩⟩
theorem PV.fi {c : Nat} {E : Nat -> Nat -> Int} {i : Nat} {ls : List Nat} (h : PV c E i ls) : FI c E i (wk ls) := by
 refine ⟨i, fun a => ls.getD a 0, Nat.le_refl _, h.herm, fun a h1 h2 => by omega, ?_⟩;rw [if_neg (by omega)];unfold wk;rw [h.len]
theorem Ech.vm {n c : Nat} {E : Nat -> Nat -> Int} {l : Nat -> Nat} (h : Ech n c E l) {a q : Nat} (ha : a < n) (h0 : ∀ b, b < q -> E a b = 0) (hn : E a q ≠ 0) : l a = q := by
 rcases Nat.lt_trichotomy (l a) q with e | e | e
 · have := h.pos a ha; have := h0 _ e; omega
 · exact e
 · exact absurd (h.zero a ha q e) hn
theorem eK.Aa {n c : Nat} {E : Nat -> Nat -> Int} {l l' : Nat -> Nat} (h : eK n c E l) (e : ∀ a, a < n -> l' a = l a) : eK n c E l' := by
 refine ⟨⟨fun i k hik hk => ?_, fun i hi => ?_, fun i hi j hj => ?_, fun i hi => ?_⟩, fun i k hik hk => ?_⟩
 · rw [e i (by omega), e k hk]; exact h.inc i k hik hk
 · rw [e i hi]; exact h.lt i hi
 · rw [e i hi] at hj; exact h.zero i hi j hj
 · rw [e i hi]; exact h.pos i hi
 · rw [e k hk]; exact h.red i k hik hk
theorem PV.next {c : Nat} {E : Nat -> Nat -> Int} {i j : Nat} {ls : List Nat} (h : PV c E i ls) (hl : l4 c E i j) (hj : j < c) (hlast : wk ls < (j : Int)) (hp : 0 < E i j) (hr : ∀ a, a < i -> 0 <= E a j /\ E a j < E i j) : PV c E (i + 1) (ls ++ [j]) := by
 obtain ⟨k, l, hk, hH, hz, hla⟩ := h.fi.next hl hj hlast hp hr;have hki : k = i + 1 := by
  by_cases e : k < i + 1
  · rw [if_pos e] at hla; omega
  · omega
 subst hki;refine ⟨by simp [h.len], hH.Aa fun a ha => ?_⟩;by_cases e : a < i
 · have e1 : (ls ++ [j]).getD a 0 = ls.getD a 0 := by
    rw [List.getD_eq_getElem?_getD, List.getD_eq_getElem?_getD, List.getElem?_append_left (by rw [h.len]; exact e)]
   show (ls ++ [j]).getD a 0 = l a;rw [e1];exact (hH.vm ha (h.herm.zero a e) (by have := h.herm.pos a e; omega)).symm
 · obtain rfl : a = i := by omega
   have e1 : (ls ++ [j]).getD a 0 = j := by
    rw [List.getD_eq_getElem?_getD, List.getElem?_append_right (by rw [h.len]; exact Nat.le_refl _), h.len]; simp
   show (ls ++ [j]).getD a 0 = l a;rw [e1];exact (hH.vm ha hl.zero (by omega)).symm
def As (r c : Nat) (E : Nat -> Nat -> Int) (ls : List Nat) : Prop := ∃ i, i <= r /\ PV c E i ls /\ ∀ a, i <= a -> a < r -> ∀ b, E a b = 0
theorem uO : (Tryz.prog.info? 3).map (fun i => (i.zero, i.size, i.bytes)) = some (some (.int .i64 0), 1, 8) := by kernel_rfl
def nC (ls : List Nat) : List Value := ls.map fun (a : Nat) => Value.int .i64 (a : Int)
theorem vc {w : World} {base : Nat} {e : TypeId} {v : Value} {ls : List Nat} (h : w.ownsRow base e 1 v ls.length (nC ls)) :
 (v = .slice none 0 0 /\ ls = []) ∨ ∃ g cap, v = .slice (some ⟨g, 0, none⟩) ls.length cap /\ 0 < ls.length + 1 /\ g < w.heap.size /\ ∀ k (hk : k < ls.length), w.cell? ⟨g, k, none⟩ = some (.int .i64 (ls.getD k 0 : Nat)) := by
 rcases h.2 with ⟨hn, h0⟩ | ⟨g, cap, cur, hv, hg, hc, h1, h2, h3, h4⟩
 · exact .inl ⟨hn, List.eq_nil_of_length_eq_zero h0⟩
 · refine .inr ⟨g, cap, hv, by omega, ?_, fun k hk => ?_⟩
   · by_cases e : g < w.heap.size
     · exact e
     · rw [Array.getElem?_eq_none (by omega)] at hc; cases hc
   · have e1 : cur[k]? = some (Value.int .i64 (ls.getD k 0 : Nat)) := by
      rw [<- Array.getElem?_toList];have e2 : (cur.toList.take (ls.length * 1))[k]? = cur.toList[k]? := List.getElem?_take_of_lt (by omega);rw [<- e2, h4];unfold nC;rw [List.getElem?_map, List.getD_eq_getElem?_getD, List.getElem?_eq_getElem hk];rfl
     simp [World.cell?, hc, e1]
theorem AA {w : World} {base : Nat} {e : TypeId} {size n : Nat} {v : Value} {xs : List Value} (h : w.ownsRow base e size v n xs) : ∀ k, v.ownBlock = some k -> base <= k := by
 intro k hk;rcases h.2 with ⟨rfl, _⟩ | ⟨g, cap, cur, rfl, hg, _⟩
 · cases hk
 · have : g = k := by simpa [Value.ownBlock] using hk
   omega
theorem wK {w : World} {base : Nat} {e : TypeId} {v : Value} {ls : List Nat} (h : w.ownsRow base e 1 v ls.length (nC ls)) :
 ∃ ao cap, v = .slice ao ls.length cap /\ (0 < ls.length -> ∃ g, ao = some ⟨g, 0, none⟩ /\ g < w.heap.size /\ ∀ k (hk : k < ls.length), w.cell? ⟨g, k, none⟩ = some (.int .i64 (ls.getD k 0 : Nat))) := by
 rcases vc h with ⟨rfl, rfl⟩ | ⟨g, cap, rfl, _, hg, hc⟩
 · exact ⟨none, 0, rfl, fun h => by simp at h⟩
 · exact ⟨_, cap, rfl, fun _ => ⟨g, rfl, hg, hc⟩⟩
theorem aL.up {w : World} {L L' : Nat} {ao : Option Addr} {xs : List Int} (h : aL w L ao xs) (hL : L <= L') : aL w L' ao xs := fun hl => by
 obtain ⟨b, o, e, hlt, hc⟩ := h hl;exact ⟨b, o, e, hlt, fun i hi => by obtain ⟨p, h0, h1, hn⟩ := hc i hi; exact ⟨p, h0, h1, hn.mono hL⟩⟩
def vh (c : Nat) (E : Nat -> Nat -> Int) (i : Nat) (ls : List Nat) : Prop := ∃ i0, i0 <= i /\ PV c E i0 ls /\ ∀ a, i0 <= a -> a < i -> ∀ b, E a b = 0
theorem vh.start (c : Nat) (E : Nat -> Nat -> Int) : vh c E 0 [] := ⟨0, Nat.le_refl _, PV.start c E, fun a h1 h2 => by omega⟩
theorem vh.zero {c : Nat} {E : Nat -> Nat -> Int} {i : Nat} {ls : List Nat} (h : vh c E i ls) (hz : ∀ b, E i b = 0) : vh c E (i + 1) ls := by
 obtain ⟨i0, h0, hp, h1⟩ := h;refine ⟨i0, by omega, hp, fun a ha hb => ?_⟩;by_cases e : a = i
 · subst e; exact hz
 · exact h1 a ha (by omega)
theorem vh.next {r c : Nat} {E : Nat -> Nat -> Int} {i j : Nat} {ls : List Nat} (h : vh c E i ls) (hF : HF r c E) (hi : i < r) (hl : l4 c E i j) (hj : j < c) : vh c E (i + 1) (ls ++ [j]) := by
 obtain ⟨i0, h0, hp, h1⟩ := h;obtain rfl : i0 = i := by
  by_cases e : i0 < i
  · exact absurd (hF.kF (by omega : i0 < r) (h1 i0 (Nat.le_refl _) e) i (by omega) hi j) (hl.ne hj)
  · omega
 obtain ⟨a1, a2, a3⟩ := hF.row hi hl hj hp.fi;exact ⟨i0 + 1, Nat.le_refl _, hp.next hl hj a1 a2 a3, fun a ha hb => by omega⟩
theorem vh.len {c : Nat} {E : Nat -> Nat -> Int} {i : Nat} {ls : List Nat} (h : vh c E i ls) : ls.length <= i := by
 obtain ⟨i0, h0, hp, _⟩ := h;rw [hp.len]; exact h0
theorem AZ (r c m : Nat) (ao : Option Addr) (len cap : Nat) (xs : List Int) (w : World) (hr : r <= 64) (hc : c <= 64) (h : aL w 17592186044415 ao xs) (hm : ∀ x ∈ xs, ag x.natAbs <= m) (hm1 : m <= 8796093022208) (hl : len = xs.length) (hs : xs.length = r * c) (hF : HF r c (aE xs r c)) :
 Calls Tryz.prog 20 #[.agg #[.int .i64 (r : Int), .int .i64 (c : Int), .slice ao len cap]] w fun e w' => (∃ v ls, e = .returned (.tuple #[v, .int .i64 0]) /\ As r c (aE xs r c) ls /\ w'.ownsRow w.heap.size 3 1 v ls.length (nC ls) ) /\ Below w.heap.size w w' := by
 subst hl;have hwl : ∀ x ∈ xs, ag x.natAbs <= 17592186044415 := fun x hx => Nat.le_trans (hm x hx) (by omega);have HI := hi_ (fun w2 (h2 : aL w2 17592186044415 ao xs) => wH r c m ao xs.length cap xs w2 hr hc h2 hm hm1 rfl hs);have HWL := hi_ hwl; clear hwl;have HS := hi_ hs; clear hs;have HM := hi_ hm; clear hm;have HF0 := hi_ hF; clear hF;have r1 := aa.new w #[.int .i64 (r : Int), .int .i64 (c : Int), .slice ao xs.length cap] 24;have hb : Below w.heap.size w (w.alloc (.cells #[.int .i64 (r : Int), .int .i64 (c : Int), .slice ao xs.length cap] 24)) := (Below.refl _ _).alloc (Nat.le_refl _) _;have HXS := hi_ (h.below hb); clear h;obtain ⟨i0, hi0, hz0, hz1, hz2⟩ := info_parts uO;go_enter Tryz.func20, Tryz.ntmps20;go_wp2_with fail
 generalize w.alloc (.cells #[.int .i64 (r : Int), .int .i64 (c : Int), .slice ao xs.length cap] 24) = w2 at *;refine (HI.out w2 HXS.out).mono ?_;rintro e w3 ⟨⟨t, rfl, ht⟩, hb3⟩;obtain rfl : t = true := ht.2 HF0.out;clear ht;have R1 := hi_ (r1.below hb3 r1.lt);have L3 := hi_ (HXS.out.below hb3);have B3 := hi_ (hb.trans (hb3.mono hb.size));have e0 := R1.out.cell 0;have e1 := R1.out.cell 1;have e2 := R1.out.cell 2;have hs3 : w.heap.size < w3.heap.size := R1.out.lt;clear r1 hb hb3 HI;go_wp2_with fail
 refine (callsIn_wide.1 (pX r c ao xs.length cap xs w3 hr hc L3.out HWL.out rfl HS.out)).mono ?_;rintro e w4 ⟨⟨o, R, rfl, hM, hRl, hRx, hob, hRb⟩, hb4⟩;obtain ⟨hSh, hE⟩ := kM hRl HS.out hRx;have hbd : ∀ q ∈ R, ∀ x ∈ q.xs, ag x.natAbs <= m := fun q hq x hx => by
  obtain ⟨k, hk, rfl⟩ := List.getElem_of_mem hq;rw [hRx k hk] at hx;exact HM.out x (List.mem_of_mem_drop (List.mem_of_mem_take hx))
 have hHF : HF r c (aw R) := HF0.out.congr (fun a _ b => hE a b);have HH := hi_ (And.intro hSh (And.intro hE (And.intro hbd hHF)));have HMN := hi_ hM; clear hM;have R14 := hi_ (R1.out.below hb4 R1.out.lt);have B4 := hi_ (B3.out.trans (hb4.mono B3.out.size));have HRl := hi_ hRl;have hs4 : w.heap.size < w4.heap.size := R14.out.lt;clear hb4 e0 e1 e2 hSh hE hRx hbd R1 L3 B3 hob hRb hHF;rw [hRl];clear hRl;go_wp2;go_loopw [6, 23] (fun v i_ wr => ∃ (i : Nat) (ls : List Nat), i <= r /\ i_ = .int .i64 (i : Int) /\ Hid (vh c (aw R) i ls) /\ Hid (wr.ownsRow w4.heap.size 3 1 v ls.length (nC ls)) /\ Hid (Below w4.heap.size w4 wr)) (fun _ i_ _ => r - (intOf i_).toNat)
 case atStart => exact ⟨0, [], Nat.zero_le _, rfl, hi_ (vh.start c _), hi_ (World.ownsRow_nil _ _ _ _), hi_ (Below.refl _ _)⟩
 case round =>
  obtain ⟨i, ls, hi, rfl, hPV, hOwn, hBl⟩ := hrel;by_cases hin : i < r
  · have hin1 : (i : Int) < (r : Int) := by omega
    have hiR : i < R.length := by rw [HRl.out]; exact hin
    have hM' := HMN.out.below hBl.out;have c0 := hM'.cF hiR;have hxl : R[i].xs.length = c := HH.out.1.get hiR;unfold Hd.cF at c0;have hlead := jk R[i].blk R[i].cap R[i].xs wr (hM'.row _ (List.getElem_mem hiR)) (fun x hx => Nat.le_trans (HH.out.2.2.1 _ (List.getElem_mem hiR) x hx) (by omega)) (by omega);have hle := eT hiR;rw [<- hle] at hlead;rw [hxl] at c0 hlead;have hIL := oI hiR HH.out.1;obtain ⟨j, hj⟩ : ∃ j, aM R i = j := ⟨_, rfl⟩;rw [hj] at hlead hIL;have HLead := hi_ hlead; clear hlead;have HIL := hi_ hIL;have hjc : j <= c := hIL.le;have g1 := (R14.out.below hBl.out R14.out.lt).cell 1;simp only [List.getElem?_cons_zero, List.getElem?_cons_succ] at g1;clear hIL hle hj hxl;go_wp2_with fail
    refine HLead.out.mono ?_;rintro e w5 ⟨rfl, hb5⟩;have B5 := hi_ (hBl.out.trans (hb5.mono hBl.out.size));have g1' := (R14.out.below B5.out R14.out.lt).cell 1;simp only [List.getElem?_cons_zero, List.getElem?_cons_succ] at g1';have Own5 := hi_ (nJ hOwn.out hb5);have hs5 := B5.out.size;clear hb5 g1 c0 hBl hOwn;by_cases hjl : j = c
    · subst hjl;have hs2 := hi_ (hPV.out.zero (fun b => by
       by_cases e : b < j
       · exact HIL.out.zero b e
       · exact HH.out.1.wide i (by omega)))
      have hjj : decide ((j : Int) < (j : Int)) = false := by simp
      have hjj2 : decide (j < j) = false := by simp
      go_wp2;go_roundw
      case rel => exact ⟨i + 1, ls, by omega, by go_num, hs2, Own5, B5⟩
      case measure => simp [intOf]; omega
    · have hjn : (j : Int) < (c : Int) := by omega
      have hs2 := hi_ (hPV.out.next HH.out.2.2.2 hin HIL.out (by omega));have hll := hPV.out.len;go_wp2_with (at_builtin; refine wpList_append_own _ rfl _ _ 34 rfl w4.heap.size 3 i0 (.int .i64 0) 1 8 Tryz.underlying34 hi0 hz0 hz1 hz2 rfl (by decide) _ _ _ rfl (Own5.out.alloc _) ⟨w5.heap.size, 0, none⟩ 1 1 [.int .i64 (j : Int)] rfl rfl (cell_one_new _ _ _) (by simp [Value.oneCell']) (by unfold maxLen; omega) (by omega) (by simp; omega) ?_; intro v' w11 hown' hgrow' hnil')
      have hb12 := hi_ (Below.grown (B5.out.alloc B5.out.size _) hgrow' (B5.out.alloc B5.out.size _).size (fun k hk => AA Own5.out k hk));have hown'' := hi_ hown';clear hown' hgrow' hnil';go_roundw
      case rel => exact ⟨i + 1, ls ++ [j], by omega, by go_num, hs2, hi_ (by have h9 := hown''.out; simpa [nC] using h9), hb12⟩
      case measure => simp [intOf]; omega
  · obtain rfl : i = r := by omega
    have HP := hi_ (show As i c (aE xs i c) ls from by
     obtain ⟨k, hk, hp, hz⟩ := hPV.out;exact ⟨k, hk, ⟨hp.len, hp.herm.congr (fun a ha b => (HH.out.2.1 a b).symm)⟩, fun a h1 h2 b => by rw [<- HH.out.2.1]; exact hz a h1 h2 b⟩)
    go_wp2;go_ret2;exact ⟨⟨_, ls, rfl, HP.out, World.ownsRow.mono hOwn.out (by omega)⟩, B4.out.trans (hBl.out.mono B4.out.size)⟩
theorem zP (r c m : Nat) (ao : Option Addr) (len cap : Nat) (xs : List Int) (av : Option Addr) (kv : Nat) (w : World) (hr : r <= 64) (hc : c <= 64) (h : aL w 17592186044415 ao xs) (hm : ∀ x ∈ xs, ag x.natAbs <= m) (hm1 : m <= 8796093022208) (hl : len = xs.length) (hs : xs.length = r * c) (hF : HF r c (aE xs r c)) :
 Calls Tryz.prog 69 #[.agg #[.int .i64 (r : Int), .int .i64 (c : Int), .slice ao len cap], .slice av c kv] w fun e w' => (∃ v ls, e = .returned (.tuple #[v, .int .i64 0]) /\ As r c (aE xs r c) ls /\ w'.ownsRow w.heap.size 3 1 v ls.length (nC ls)) /\ Below w.heap.size w w' := by
 subst hl;have hsnd : aR (r : Int) (c : Int) xs.length = true := by
  unfold aR bJ;rw [hs]; simp; omega
 have HCK := hi_ (dC hsnd); clear hsnd;have HP := hi_ (fun w2 (h2 : aL w2 17592186044415 ao xs) => AZ r c m ao xs.length cap xs w2 hr hc h2 hm hm1 rfl hs hF);have hcc : ((c : Int) != (c : Int)) = false := by simp
 clear hm hs hF;have HX_0 : Hid (aL w 17592186044415 ao xs) := hi_ (h);have b_0 : Hid (Below w.heap.size w w) := hi_ (Below.refl _ _);clear h;go_enter Tryz.func69, Tryz.ntmps69;have r_ := aa.new w #[.int .i64 (r : Int), .int .i64 (c : Int), .slice ao xs.length cap] 24;have hb_ : Below w.heap.size w (w.alloc (.cells #[.int .i64 (r : Int), .int .i64 (c : Int), .slice ao xs.length cap] 24)) := (Below.refl _ _).alloc (Nat.le_refl _) _;go_wp2_with fail
 generalize w.alloc (.cells #[.int .i64 (r : Int), .int .i64 (c : Int), .slice ao xs.length cap] 24) = w1 at *;have HX_1 := hi_ (aL.below (w := w) HX_0.out (hb_));have b_1 := hi_ (b_0.out.trans (Below.mono hb_ b_0.out.size));have sz_1 := (hb_).size;clear HX_0 b_0;have A_1 : Hid (aa w1 (w.heap.size) 24 [.int .i64 (r : Int), .int .i64 (c : Int), .slice ao xs.length cap]) := hi_ (r_);clear r_ hb_;refine (cJ (r : Int) (c : Int) ao xs.length cap _ (by omega) (by omega)).mono ?_;rintro e w2 ⟨rfl, hb_⟩;have HX_2 := hi_ (aL.below (w := w1) HX_1.out (hb_));have A_2 := hi_ (aa.below (w := w1) A_1.out (hb_) A_1.out.lt);have b_2 := hi_ (b_1.out.trans (Below.mono hb_ b_1.out.size));have sz_2 := (hb_).size;clear HX_1 A_1 b_1;clear hb_;rw [HCK.out];have l2_A : w.heap.size < w2.heap.size := A_2.out.lt;have c2_A0 : w2.cell? ⟨w.heap.size, 0, none⟩ = some (.int .i64 (r : Int)) := A_2.out.cell 0;have c2_A1 : w2.cell? ⟨w.heap.size, 1, none⟩ = some (.int .i64 (c : Int)) := A_2.out.cell 1;have c2_A2 : w2.cell? ⟨w.heap.size, 2, none⟩ = some (.slice ao xs.length cap) := A_2.out.cell 2;go_wp2_with fail
 clear l2_A c2_A0 c2_A1 c2_A2;refine (HP.out w2 HX_2.out).mono ?_;rintro e w3 ⟨⟨v, ls, rfl, hP, hO⟩, hb_⟩;have HX_3 := hi_ (aL.below (w := w2) HX_2.out (hb_));have A_3 := hi_ (aa.below (w := w2) A_2.out (hb_) A_2.out.lt);have b_3 := hi_ (b_2.out.trans (Below.mono hb_ b_2.out.size));have sz_3 := (hb_).size;clear HX_2 A_2 b_2;clear hb_;have HPO := hi_ (And.intro hP hO);clear hP hO HP;go_wp2;go_ret2;exact ⟨⟨v, ls, rfl, HPO.out.1, World.ownsRow.mono HPO.out.2 (by omega)⟩, b_3.out⟩
end Go.Proofs.YtjjlmfmoihooiaaGreat
namespace Go.Proofs.YtjjlmfmoihooiaaGreat
end Go.Proofs.YtjjlmfmoihooiaaGreat
namespace Go.Proofs.YtjjlmfmoihooiaaGreat
open Go.RowKit
theorem As.len {r c : Nat} {E : Nat -> Nat -> Int} {ls : List Nat} (h : As r c E ls) : ls.length <= r := by
 obtain ⟨i, hi, hp, _⟩ := h;rw [hp.len]; exact hi
theorem xn {xs : List Int} {k : Nat} (hk : k < xs.length) (x : Int) (b : Nat) : (xs.set k x).getD b 0 = if b = k then x else xs.getD b 0 := by
 rw [List.getD_eq_getElem?_getD, List.getD_eq_getElem?_getD, List.getElem?_set];by_cases e : b = k
 · subst e; simp [hk]
 · rw [if_neg (fun h => e h.symm), if_neg e]
end Go.Proofs.YtjjlmfmoihooiaaGreat
namespace Go.Proofs.YtjjlmfmoihooiaaGreat
theorem As.zero {r c : Nat} {E : Nat -> Nat -> Int} {ls : List Nat} (h : As r c E ls) : ∀ a, ls.length <= a -> a < r -> ∀ b, E a b = 0 := by
 obtain ⟨i, hi, hp, hz⟩ := h;rw [hp.len]; exact hz
end Go.Proofs.YtjjlmfmoihooiaaGreat
