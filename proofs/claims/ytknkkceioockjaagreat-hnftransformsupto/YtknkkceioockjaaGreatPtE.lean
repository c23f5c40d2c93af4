/- Part 5 of 9 of the proof that the law HnfTransforms returns true for every input of bulk at most 1048576 and leaves its arguments as they were: here the contracts of the functions that it calls, and plain lemmas. -/
import Derived.Test.YtknkkceioockjaaGreatPtD
set_option linter.all false
namespace Go.Proofs.YtknkkceioockjaaGreat
open Go.RowKit
theorem zbh : (Tryz.prog.info? 111).map (fun i => (i.zero, i.size, i.bytes)) = some (some (.agg #[.nilFunc, .nilFunc, .nilFunc, .nilFunc]), 4, 32) := by kernel_rfl
theorem za6 (n : Nat) : NoW (Builtin.zeroCells (Value.agg #[.nilFunc, .nilFunc, .nilFunc, .nilFunc]).cells n).toList := by
 have e : (Value.agg #[.nilFunc, .nilFunc, .nilFunc, .nilFunc]).cells = #[.nilFunc, .nilFunc, .nilFunc, .nilFunc] := rfl;rw [e];intro v hv k;unfold Builtin.zeroCells at hv;simp only [Array.toList_map, List.mem_map, Array.mem_toList_iff, Array.mem_range] at hv;obtain ⟨i, _, rfl⟩ := hv;have h2 : i % 4 = 0 ∨ i % 4 = 1 ∨ i % 4 = 2 ∨ i % 4 = 3 := by omega
 rcases h2 with h2 | h2 | h2 | h2 <;> simp [h2]
theorem zcb {w : World} {o : Oper} {a : Act} {K : Act -> World -> Prop} {Q : Exit -> Act -> World -> Prop} (s x : Operand)
 (hop : o.op = Op.call { callee := Callee.builtin Builtin.append, args := #[s, x], argTypes := #[103, 103] })
 (b q : Nat) (fs gs tl : List Value) (hfl : fs.length = 4) (hgl : gs.length = 4) (h1 : z00 w b 111 (fs ++ tl)) (h2 : z00 w q 111 gs)
 (hs : a.eval s = .slice (some ⟨b, 0, none⟩) 1 1) (hx : a.eval x = .slice (some ⟨q, 0, none⟩) 1 1)
 (hK : ∀ cs w', z1V w' w.heap.size 111 (fs ++ gs) -> Below w.heap.size w w' -> K (a.put o.dst (.slice (some ⟨w.heap.size, 0, none⟩) 2 cs)) w') : Oper.wp Tryz.prog o a w K Q := by
 obtain ⟨i, hi, hz, hsz, hby⟩ := info_parts zbh;have ad : ∀ (b j : Nat), (⟨b, 0, none⟩ : Addr).add j = ⟨b, j, none⟩ := fun b j => by unfold Addr.add; simp; omega
 have hrun := run_append_grow (P := Tryz.prog) (w := w) 103 o.type 111 i (.agg #[.nilFunc, .nilFunc, .nilFunc, .nilFunc]) Tryz.underlying103 hi hz ⟨b, 0, none⟩ 1 1 fs (by rw [hsz, hfl])
  (fun j u hj => by rw [ad, h1.cell, List.getElem?_append_left (List.getElem?_eq_some_iff.1 hj).1]; exact hj) ⟨q, 0, none⟩ 1 1 gs (by rw [hsz, hgl])
  (fun j u hj => by rw [ad, h2.cell]; exact hj) (by omega) (by omega) (growslice_fits (by omega) (by rw [hby]; omega))
 simp [Oper.wp, Oper.about, hop, resolve, Target.leads, Sem.run_pure, execOp, invoke, builtin, hs, hx, hrun, Result.andThen];refine hK _ _ ?_ ⟨rfl, rfl, rfl, by simp, fun q hq => heap_alloc_old w.drew _ hq⟩;have hnew := z00.new w.drew (fs.toArray ++ gs.toArray ++ Builtin.zeroCells (Value.agg #[.nilFunc, .nilFunc, .nilFunc, .nilFunc]).cells (grownCap w (1 + 1) 1 111 - (1 + 1))) 111;refine ⟨(Builtin.zeroCells (Value.agg #[.nilFunc, .nilFunc, .nilFunc, .nilFunc]).cells (grownCap w (1 + 1) 1 111 - (1 + 1))).toList, za6 _, ?_⟩;simpa using hnew
def AV.side (hdr : Value) : AV := ⟨fun w v => ∃ g2 g3, v = .agg (agF g2 g3).toArray /\ z00 w g2 82 [hdr] /\ z00 w g3 82 [hdr],
 fun ⟨g2, g3, e, h1, h2⟩ hb => ⟨g2, g3, e, h1.below hb h1.lt, h2.below hb h2.lt⟩, fun _ => true, fun _ _ _ _ h _ _ _ => by cases h⟩
def AV.side1 (hdr : Value) : AV := ⟨fun w v => ∃ q g2 g3, v = .slice (some ⟨q, 0, none⟩) 1 1 /\ z00 w q 111 (agF g2 g3) /\ z00 w g2 82 [hdr] /\ z00 w g3 82 [hdr],
 fun ⟨q, g2, g3, e, h0, h1, h2⟩ hb => ⟨q, g2, g3, e, h0.below hb h0.lt, h1.below hb h1.lt, h2.below hb h2.lt⟩, fun _ => true, fun _ _ _ _ h _ _ _ => by cases h⟩
def AV.side2 (B g : Nat) (hdr : Value) : AV := ⟨fun w v => ∃ q cs g2 g3, v = .slice (some ⟨q, 0, none⟩) 2 cs /\ B <= q /\ z1V w q 111 (z1Y g ++ agF g2 g3) /\ z00 w g2 82 [hdr] /\ z00 w g3 82 [hdr],
 fun ⟨q, cs, g2, g3, e, hB, h0, h1, h2⟩ hb => ⟨q, cs, g2, g3, e, hB, h0.below hb h0.lt, h1.below hb h1.lt, h2.below hb h2.lt⟩, fun _ => true, fun _ _ _ _ h _ _ _ => by cases h⟩
end Go.Proofs.YtknkkceioockjaaGreat
namespace Go.Proofs.YtknkkceioockjaaGreat
def sm : Nat -> (Nat -> Int) -> Int
 | 0, _ => 0
 | n + 1, f => sm n f + f n
theorem z0z {n : Nat} {f g : Nat -> Int} (h : ∀ k, k < n -> f k = g k) : sm n f = sm n g := by
 induction n with
 | zero => rfl
 | succ n ih => unfold sm; rw [ih (fun k hk => h k (by omega)), h n (by omega)]
theorem z2q {n : Nat} {f : Nat -> Int} (h : ∀ k, k < n -> f k = 0) : sm n f = 0 := by
 induction n with
 | zero => rfl
 | succ n ih => unfold sm; rw [ih (fun k hk => h k (by omega)), h n (by omega)]; rfl
theorem z64 (n : Nat) (f g : Nat -> Int) : sm n (fun k => f k + g k) = sm n f + sm n g := by
 induction n with
 | zero => rfl
 | succ n ih => simp only [sm, ih]; omega
theorem zcL (n : Nat) (f g : Nat -> Int) : sm n (fun k => f k - g k) = sm n f - sm n g := by
 induction n with
 | zero => rfl
 | succ n ih => simp only [sm, ih]; omega
theorem z3j (n : Nat) (c : Int) (f : Nat -> Int) : sm n (fun k => c * f k) = c * sm n f := by
 induction n with
 | zero => simp [sm]
 | succ n ih => simp only [sm, ih, Int.mul_add]
theorem z3z (n : Nat) (c : Int) (f : Nat -> Int) : sm n (fun k => f k * c) = sm n f * c := by
 induction n with
 | zero => simp [sm]
 | succ n ih => simp only [sm, ih, Int.add_mul]
theorem zb5 (n m : Nat) (f : Nat -> Nat -> Int) : sm n (fun i => sm m (fun j => f i j)) = sm m (fun j => sm n (fun i => f i j)) := by
 induction n with
 | zero => exact (z2q (fun _ _ => rfl)).symm
 | succ n ih => simp only [sm, ih, z64]
theorem z3A {n : Nat} {f : Nat -> Int} (i : Nat) (hi : i < n) (h : ∀ k, k < n -> k ≠ i -> f k = 0) : sm n f = f i := by
 induction n with
 | zero => omega
 | succ n ih =>
  unfold sm;by_cases e : i = n
  · subst e; rw [z2q (fun k hk => h k (by omega) (by omega))]; omega
  · rw [ih (by omega) (fun k hk hne => h k (by omega) hne), h n (by omega) (fun e' => e e'.symm)]; omega
theorem z8P {n : Nat} {f : Nat -> Int} {B : Nat} (h : ∀ k, k < n -> (f k).natAbs <= B) : (sm n f).natAbs <= n * B := by
 induction n with
 | zero => simp [sm]
 | succ n ih =>
  unfold sm;have h1 := ih (fun k hk => h k (by omega));have h2 := h n (by omega);have h3 := Int.natAbs_add_le (sm n f) (f n);rw [Nat.succ_mul]; omega
theorem zc3 (n m : Nat) (f : Nat -> Int) : sm (n + m) f = sm n f + sm m (fun k => f (n + k)) := by
 induction m with
 | zero => simp [sm]
 | succ m ih => rw [<- Nat.add_assoc]; simp only [sm, ih]; omega
theorem zck : ∀ (n : Nat) (f : Nat -> Nat), (∀ i, i <= n -> f i < n) -> ∃ i j, i < j /\ j <= n /\ f i = f j
 | 0, f, h => by have := h 0 (Nat.le_refl _); omega
 | n + 1, f, h => by
  by_cases hc : ∃ i, i <= n /\ f i = f (n + 1)
  · obtain ⟨i, hi, he⟩ := hc;exact ⟨i, n + 1, by omega, Nat.le_refl _, he⟩
  · have hn : ∀ i, i <= n -> f i ≠ f (n + 1) := fun i hi he => hc ⟨i, hi, he⟩;obtain ⟨i, j, hij, hj, he⟩ := zck n (fun i => if f i = n then f (n + 1) else f i) (fun i hi => by
     have h1 := h i (by omega);have h2 := h (n + 1) (Nat.le_refl _);have h3 := hn i hi;split <;> omega)
    refine ⟨i, j, hij, by omega, ?_⟩;have h1 := hn i (by omega);have h2 := hn j hj;split at he <;> split at he <;> omega
def z4J (Q : Nat) (v : Nat -> Nat) : Nat -> Nat
 | 0 => 0
 | s + 1 => z4J Q v s + v s * Q ^ s
theorem z6H {Q : Nat} {v : Nat -> Nat} : ∀ {s : Nat}, (∀ j, j < s -> v j < Q) -> z4J Q v s < Q ^ s
 | 0, _ => by simp [z4J]
 | s + 1, h => by
  have h1 := z6H (s := s) (fun j hj => h j (by omega));have h2 := h s (by omega);have h3 : (v s + 1) * Q ^ s <= Q * Q ^ s := Nat.mul_le_mul_right _ h2;rw [Nat.succ_mul] at h3;rw [Nat.pow_succ, Nat.mul_comm];unfold z4J; omega
theorem z9m {Q : Nat} {u v : Nat -> Nat} : ∀ {s : Nat}, (∀ j, j < s -> u j < Q) -> (∀ j, j < s -> v j < Q) -> z4J Q u s = z4J Q v s -> ∀ j, j < s -> u j = v j
 | 0, _, _, _, j, hj => by omega
 | s + 1, hu, hv, he, j, hj => by
  have h1 := z6H (s := s) (fun j hj => hu j (by omega));have h2 := z6H (s := s) (fun j hj => hv j (by omega));have hp : 0 < Q ^ s := by omega
  unfold z4J at he;have d1 : (z4J Q u s + u s * Q ^ s) / Q ^ s = u s := by rw [Nat.add_mul_div_right _ _ hp, Nat.div_eq_of_lt h1, Nat.zero_add]
  have d2 : (z4J Q v s + v s * Q ^ s) / Q ^ s = v s := by rw [Nat.add_mul_div_right _ _ hp, Nat.div_eq_of_lt h2, Nat.zero_add]
  have hs : u s = v s := by rw [<- d1, <- d2, he]
  by_cases e : j = s
  · subst e; exact hs
  · rw [hs] at he;exact z9m (s := s) (fun j hj => hu j (by omega)) (fun j hj => hv j (by omega)) (by omega) j (by omega)
theorem z47 (Q n : Nat) : ∀ s, z4J Q (fun k => n / Q ^ k % Q) s = n % Q ^ s
 | 0 => by simp [z4J, Nat.mod_one]
 | s + 1 => by
  unfold z4J;rw [z47 Q n s, Nat.mod_pow_succ, Nat.mul_comm]
theorem zcG (r s M : Nat) (A : Nat -> Nat -> Int) (hs : s < r) (hA : ∀ k j, k < r -> j < s -> (A k j).natAbs <= M) :
 ∃ x : Nat -> Int, (∃ k, k < r /\ x k ≠ 0) /\ (∀ k, k < r -> (x k).natAbs <= (2 * r * M + 1) ^ s) /\ ∀ j, j < s -> sm r (fun k => x k * A k j) = 0 := by
 obtain ⟨T, hT⟩ : ∃ T, (2 * r * M + 1) ^ s = T := ⟨_, rfl⟩;obtain ⟨V, hV⟩ : ∃ V, r * (T * M) = V := ⟨_, rfl⟩;have hTp : 0 < T := by rw [<- hT]; exact Nat.pow_pos (by omega)
 have hy : ∀ n j, j < s -> (sm r (fun k => ((n / (T + 1) ^ k % (T + 1) : Nat) : Int) * A k j)).natAbs <= V := by
  intro n j hj;rw [<- hV];refine z8P (fun k hk => ?_);rw [Int.natAbs_mul, Int.natAbs_natCast];have h1 : n / (T + 1) ^ k % (T + 1) < T + 1 := Nat.mod_lt _ (by omega);exact Nat.mul_le_mul (by omega) (hA k j hk hj)
 have hQ : (2 * V + 1) ^ s < (T + 1) ^ r := by
  have h1 : 2 * V + 1 <= (2 * r * M + 1) * (T + 1) := by
   have e1 : (2 * r * M + 1) * (T + 1) = 2 * r * M * T + 2 * r * M + T + 1 := by
    rw [Nat.mul_add, Nat.add_mul]; omega
   have e2 : 2 * r * M * T = 2 * V := by
    rw [<- hV]; simp only [Nat.mul_assoc, Nat.mul_comm, Nat.mul_left_comm]
   omega
  have h2 : (2 * V + 1) ^ s <= T * (T + 1) ^ s := by
   rw [<- hT, <- Nat.mul_pow, hT]; exact Nat.pow_le_pow_left h1 s
  have h3 : T * (T + 1) ^ s < (T + 1) ^ (s + 1) := by
   rw [Nat.pow_succ, Nat.mul_comm];exact Nat.mul_lt_mul_of_pos_left (by omega) (Nat.pow_pos (by omega))
  have h4 : (T + 1) ^ (s + 1) <= (T + 1) ^ r := Nat.pow_le_pow_right (by omega) hs;omega
 obtain ⟨i, j, hij, hj, he⟩ := zck ((2 * V + 1) ^ s) (fun n => z4J (2 * V + 1) (fun q => (sm r (fun k => ((n / (T + 1) ^ k % (T + 1) : Nat) : Int) * A k q) + V).toNat % (2 * V + 1)) s) (fun i _ => z6H (fun q _ => Nat.mod_lt _ (by omega)));have hq := z9m (fun q _ => Nat.mod_lt _ (by omega)) (fun q _ => Nat.mod_lt _ (by omega)) he;refine ⟨fun k => ((j / (T + 1) ^ k % (T + 1) : Nat) : Int) - ((i / (T + 1) ^ k % (T + 1) : Nat) : Int), ?_, ?_, ?_⟩
 · by_cases hc : ∃ k, k < r /\ j / (T + 1) ^ k % (T + 1) ≠ i / (T + 1) ^ k % (T + 1)
   · obtain ⟨k, hk, hne⟩ := hc;refine ⟨k, hk, ?_⟩
     revert hne
     dsimp only;generalize j / (T + 1) ^ k % (T + 1) = a;generalize i / (T + 1) ^ k % (T + 1) = b;omega
   · exfalso;have hall : ∀ k, k < r -> j / (T + 1) ^ k % (T + 1) = i / (T + 1) ^ k % (T + 1) := fun k hk => Classical.byContradiction fun h => hc ⟨k, hk, h⟩;have e1 := z47 (T + 1) i r;have e2 := z47 (T + 1) j r;have e3 : ∀ s', s' <= r -> z4J (T + 1) (fun k => j / (T + 1) ^ k % (T + 1)) s' = z4J (T + 1) (fun k => i / (T + 1) ^ k % (T + 1)) s' := by
      intro s' hs';induction s' with
      | zero => rfl
      | succ q ih => simp only [z4J]; rw [ih (by omega), hall q (by omega)]
     have e4 := e3 r (Nat.le_refl _);rw [e1, e2, Nat.mod_eq_of_lt (by omega), Nat.mod_eq_of_lt (by omega)] at e4;omega
 · intro k hk;have h1 : j / (T + 1) ^ k % (T + 1) < T + 1 := Nat.mod_lt _ (by omega);have h2 : i / (T + 1) ^ k % (T + 1) < T + 1 := Nat.mod_lt _ (by omega);rw [hT]
   revert h1 h2
   dsimp only;generalize j / (T + 1) ^ k % (T + 1) = a;generalize i / (T + 1) ^ k % (T + 1) = b;omega
 · intro q hq';have h1 := hq q hq';have h2 := hy i q hq';have h3 := hy j q hq';have h4 : sm r (fun k => (((j / (T + 1) ^ k % (T + 1) : Nat) : Int) - ((i / (T + 1) ^ k % (T + 1) : Nat) : Int)) * A k q) = sm r (fun k => ((j / (T + 1) ^ k % (T + 1) : Nat) : Int) * A k q) - sm r (fun k => ((i / (T + 1) ^ k % (T + 1) : Nat) : Int) * A k q) := by
    rw [<- zcL]; exact z0z (fun k _ => Int.sub_mul ..)
   dsimp only at h1 ⊢;rw [h4];generalize sm r (fun k => ((j / (T + 1) ^ k % (T + 1) : Nat) : Int) * A k q) = a at *;generalize sm r (fun k => ((i / (T + 1) ^ k % (T + 1) : Nat) : Int) * A k q) = b at *;rw [Nat.mod_eq_of_lt (by omega), Nat.mod_eq_of_lt (by omega)] at h1;omega
def Sp (n : Nat) (E : Nat -> Nat -> Int) (v : Nat -> Int) : Prop := ∃ x : Nat -> Int, ∀ j, v j = sm n (fun k => x k * E k j)
theorem Sp.zero (n : Nat) (E : Nat -> Nat -> Int) : Sp n E (fun _ => 0) := ⟨fun _ => 0, fun j => (z2q (fun k _ => Int.zero_mul _)).symm⟩
theorem Sp.congr {n : Nat} {E : Nat -> Nat -> Int} {v w : Nat -> Int} (h : Sp n E v) (e : ∀ j, w j = v j) : Sp n E w := by
 obtain ⟨x, hx⟩ := h;exact ⟨x, fun j => (e j).trans (hx j)⟩
theorem Sp.add {n : Nat} {E : Nat -> Nat -> Int} {v w : Nat -> Int} (h : Sp n E v) (k : Sp n E w) : Sp n E (fun j => v j + w j) := by
 obtain ⟨x, hx⟩ := h; obtain ⟨y, hy⟩ := k;refine ⟨fun k => x k + y k, fun j => ?_⟩;show v j + w j = _;rw [hx, hy, <- z64]; exact z0z (fun k _ => (Int.add_mul ..).symm)
theorem Sp.smul {n : Nat} {E : Nat -> Nat -> Int} {v : Nat -> Int} (c : Int) (h : Sp n E v) : Sp n E (fun j => c * v j) := by
 obtain ⟨x, hx⟩ := h;refine ⟨fun k => c * x k, fun j => ?_⟩;show c * v j = _;rw [hx, <- z3j]; exact z0z (fun k _ => (Int.mul_assoc ..).symm)
theorem Sp.sub {n : Nat} {E : Nat -> Nat -> Int} {v w : Nat -> Int} (h : Sp n E v) (k : Sp n E w) : Sp n E (fun j => v j - w j) :=
 (h.add (k.smul (-1))).congr (fun j => by omega)
theorem Sp.row {n : Nat} (E : Nat -> Nat -> Int) {k : Nat} (hk : k < n) : Sp n E (E k) := by
 refine ⟨fun i => if i = k then 1 else 0, fun j => ?_⟩;rw [z3A k hk (fun i _ hne => by simp [hne])]; simp
theorem Sp.sm {n m : Nat} {E : Nat -> Nat -> Int} {F : Nat -> Nat -> Int} {x : Nat -> Int} (h : ∀ k, k < m -> Sp n E (F k)) : Sp n E (fun j => sm m (fun k => x k * F k j)) := by
 induction m with
 | zero => exact Sp.zero n E
 | succ m ih => exact (ih (fun k hk => h k (by omega))).add ((h m (by omega)).smul (x m))
theorem Sp.trans {n m : Nat} {E F : Nat -> Nat -> Int} {v : Nat -> Int} (hv : Sp m F v) (h : ∀ k, k < m -> Sp n E (F k)) : Sp n E v := by
 obtain ⟨x, hx⟩ := hv;exact (Sp.sm (x := x) h).congr hx
def z0B (n : Nat) (E : Nat -> Nat -> Int) (m : Nat) (F : Nat -> Nat -> Int) : Prop := (∀ k, k < n -> Sp m F (E k)) /\ ∀ k, k < m -> Sp n E (F k)
theorem z0B.refl (n : Nat) (E : Nat -> Nat -> Int) : z0B n E n E := ⟨fun k hk => Sp.row E hk, fun k hk => Sp.row E hk⟩
theorem z0B.symm {n m : Nat} {E F : Nat -> Nat -> Int} (h : z0B n E m F) : z0B m F n E := ⟨h.2, h.1⟩
theorem z0B.trans {n m l : Nat} {E F G : Nat -> Nat -> Int} (h : z0B n E m F) (k : z0B m F l G) : z0B n E l G :=
 ⟨fun i hi => (h.1 i hi).trans k.1, fun i hi => (k.2 i hi).trans h.2⟩
theorem z0B.of_eq {n : Nat} {E F : Nat -> Nat -> Int} (h : ∀ k, k < n -> ∀ j, E k j = F k j) : z0B n E n F :=
 ⟨fun k hk => (Sp.row F hk).congr (h k hk), fun k hk => (Sp.row E hk).congr (fun j => (h k hk j).symm)⟩
structure Ech (n c : Nat) (E : Nat -> Nat -> Int) (l : Nat -> Nat) : Prop where
 inc : ∀ i k, i < k -> k < n -> l i < l k
 lt : ∀ i, i < n -> l i < c
 zero : ∀ i, i < n -> ∀ j, j < l i -> E i j = 0
 pos : ∀ i, i < n -> 0 < E i (l i)
structure z1a (n c : Nat) (E : Nat -> Nat -> Int) (l : Nat -> Nat) : Prop extends Ech n c E l where
 red : ∀ i k, i < k -> k < n -> 0 <= E i (l k) /\ E i (l k) < E k (l k)
theorem Ech.at {n c : Nat} {E : Nat -> Nat -> Int} {l : Nat -> Nat} (h : Ech n c E l) (x : Nat -> Int) {k : Nat} (hk : k < n) (h0 : ∀ i, i < k -> x i = 0) : sm n (fun i => x i * E i (l k)) = x k * E k (l k) := by
 refine z3A k hk (fun i hi hne => ?_);rcases Nat.lt_or_gt_of_ne hne with hlt | hgt
 · rw [h0 i hlt, Int.zero_mul]
 · rw [h.zero i hi _ (h.inc k i hgt hi), Int.mul_zero]
theorem Ech.small {n c : Nat} {E : Nat -> Nat -> Int} {l : Nat -> Nat} (h : Ech n c E l) (x : Nat -> Int) : ∀ m, m <= n -> (∀ k, k < m -> (sm n (fun i => x i * E i (l k))).natAbs < (E k (l k)).natAbs) -> ∀ k, k < m -> x k = 0
 | 0, _, _, k, hk => by omega
 | m + 1, hm, hs, k, hk => by
  have ih := Ech.small h x m (by omega) (fun k hk => hs k (by omega));by_cases e : k = m
  · subst e;have h1 := hs k (by omega);rw [h.at x (by omega) ih, Int.natAbs_mul] at h1;have h2 : ¬ 0 < (x k).natAbs := fun h3 => by
     have := Nat.mul_le_mul_right (E k (l k)).natAbs h3;omega
    omega
  · exact ih k (by omega)
theorem Ech.none {n c : Nat} {E : Nat -> Nat -> Int} {l : Nat -> Nat} (h : Ech n c E l) {v : Nat -> Int} (hv : Sp n E v) (hs : ∀ k, k < n -> (v (l k)).natAbs < (E k (l k)).natAbs) (j : Nat) : v j = 0 := by
 obtain ⟨x, hx⟩ := hv;have h0 := h.small x n (Nat.le_refl _) (fun k hk => by rw [<- hx]; exact hs k hk);rw [hx, z2q (fun k hk => by rw [h0 k hk, Int.zero_mul])]
theorem Ech.none0 {n c : Nat} {E : Nat -> Nat -> Int} {l : Nat -> Nat} (h : Ech n c E l) {v : Nat -> Int} (hv : Sp n E v) (hs : ∀ k, k < n -> v (l k) = 0) (j : Nat) : v j = 0 :=
 h.none hv (fun k hk => by have := h.pos k hk; rw [hs k hk]; omega) j
theorem Ech.lead {n c : Nat} {E : Nat -> Nat -> Int} {l : Nat -> Nat} (h : Ech n c E l) {v : Nat -> Int} (hv : Sp n E v) {q : Nat} (hq : v q ≠ 0) (h0 : ∀ j, j < q -> v j = 0) : ∃ k, k < n /\ l k = q /\ E k q ∣ v q := by
 obtain ⟨x, hx⟩ := hv;have key : ∀ m, m <= n -> (∃ k, k < m /\ l k = q /\ E k q ∣ v q) ∨ (∀ k, k < m -> x k = 0 ∨ q < l k) := by
  intro m;induction m with
  | zero => exact fun _ => .inr (fun k hk => by omega)
  | succ m ih =>
   intro hm;rcases ih (by omega) with h1 | h1
   · obtain ⟨k, hk, h2⟩ := h1; exact .inl ⟨k, by omega, h2⟩
   · by_cases hlt : q < l m
     · exact .inr (fun k hk => by
        by_cases e : k = m
        · subst e; exact .inr hlt
        · exact h1 k (by omega))
     · have hz : ∀ i, i < m -> x i = 0 := fun i hi => (h1 i hi).elim id (fun h2 => by have := h.inc i m hi (by omega); omega);have h3 := h.at x (by omega : m < n) hz;rw [<- hx] at h3;by_cases e : l m = q
       · refine .inl ⟨m, by omega, e, ?_⟩;rw [e] at h3; rw [h3]; exact Int.dvd_mul_left ..
       · have h4 : v (l m) = 0 := h0 _ (by omega);rw [h4] at h3;have h5 := h.pos m (by omega);have h6 : x m = 0 := by
          rcases Int.mul_eq_zero.1 h3.symm with h7 | h7
          · exact h7
          · omega
         exact .inr (fun k hk => by
          by_cases e : k = m
          · subst e; exact .inl h6
          · exact .inl (hz k (by omega)))
 rcases key n (Nat.le_refl _) with h1 | h1
 · exact h1
 · exfalso;apply hq;rw [hx];refine z2q (fun k hk => ?_);rcases h1 k hk with h2 | h2
   · rw [h2, Int.zero_mul]
   · rw [h.zero k hk _ h2, Int.mul_zero]
theorem Ech.same {n m c c' : Nat} {E F : Nat -> Nat -> Int} {l l' : Nat -> Nat} (h : Ech n c E l) (h' : Ech m c' F l') (hs : z0B n E m F) : n = m /\ ∀ k, k < n -> l k = l' k /\ E k (l k) = F k (l k) := by
 have one : ∀ {n m c c' : Nat} {E F : Nat -> Nat -> Int} {l l' : Nat -> Nat}, Ech n c E l -> Ech m c' F l' -> z0B n E m F -> ∀ k, (∀ i, i < k -> i < n -> i < m -> l i = l' i) -> k < n -> (∀ i, i < k -> i < m) -> k < m /\ l' k <= l k /\ ∀ t, t < m -> l' t = l k -> F t (l k) ∣ E k (l k) := by
  intro n m c c' E F l l' h h' hs k ih hk hkm;obtain ⟨t, ht, e, hd⟩ := h'.lead (hs.1 k hk) (q := l k) (by have := h.pos k hk; omega) (h.zero k hk);have h1 : k <= t := by
   by_cases h2 : k <= t
   · exact h2
   · exfalso;have h3 := ih t (by omega) (by omega) ht;have h4 := h.inc t k (by omega) hk;omega
  have h2 : k < m := by omega
  refine ⟨h2, ?_, ?_⟩
  · rcases Nat.lt_or_eq_of_le h1 with h3 | h3
    · have := h'.inc k t h3 ht; omega
    · subst h3; omega
  · intro t' ht' e';have : t' = t := by
     rcases Nat.lt_trichotomy t' t with h3 | h3 | h3
     · have := h'.inc t' t h3 ht; omega
     · exact h3
     · have := h'.inc t t' h3 ht'; omega
    subst this; exact hd
 have all : ∀ k, (k < n ↔ k < m) /\ (k < n -> l k = l' k /\ E k (l k) = F k (l k)) := by
  intro k;induction k using Nat.strongRecOn with
  | _ k ih =>
   have h1 : k < n -> k < m := fun hk => (one h h' hs k (fun i hi hn _ => ((ih i hi).2 hn).1) hk (fun i hi => (ih i hi).1.1 (by omega))).1;have h2 : k < m -> k < n := fun hk => (one h' h hs.symm k (fun i hi hm _ => ((ih i hi).2 ((ih i hi).1.2 hm)).1.symm) hk (fun i hi => (ih i hi).1.2 (by omega))).1;refine ⟨⟨h1, h2⟩, fun hk => ?_⟩;have h3 := one h h' hs k (fun i hi hn _ => ((ih i hi).2 hn).1) hk (fun i hi => (ih i hi).1.1 (by omega));have h4 := one h' h hs.symm k (fun i hi hm _ => ((ih i hi).2 ((ih i hi).1.2 hm)).1.symm) (h1 hk) (fun i hi => (ih i hi).1.2 (by omega));have e : l k = l' k := by omega
   refine ⟨e, ?_⟩;have d1 := h3.2.2 k (h1 hk) e.symm;have d2 := h4.2.2 k hk e;rw [<- e] at d2;have p1 := h.pos k hk;have p2 := h'.pos k (h1 hk);rw [<- e] at p2;exact Int.dvd_antisymm (Int.le_of_lt p1) (Int.le_of_lt p2) d2 d1
 refine ⟨?_, fun k hk => (all k).2 hk⟩;have h1 := (all n).1;have h2 := (all m).1;omega
theorem z1a.unique {n m c c' : Nat} {E F : Nat -> Nat -> Int} {l l' : Nat -> Nat} (h : z1a n c E l) (h' : z1a m c' F l') (hs : z0B n E m F) : n = m /\ (∀ k, k < n -> l k = l' k) /\ ∀ k, k < n -> ∀ j, E k j = F k j := by
 obtain ⟨hnm, hl⟩ := h.toEch.same h'.toEch hs;refine ⟨hnm, fun k hk => (hl k hk).1, fun i hi j => ?_⟩;have hw : Sp n E (fun j => E i j - F i j) := (Sp.row E hi).sub (hs.2 i (by omega));have := h.toEch.none hw (fun k hk => ?_) j
 · omega
 · have hlk := hl k hk;have hp := h.pos k hk;rcases Nat.lt_trichotomy k i with h1 | h1 | h1
   · have e1 : E i (l k) = 0 := h.zero i hi _ (h.inc k i h1 hi);have e2 : F i (l k) = 0 := h'.zero i (by omega) _ (by rw [hlk.1]; exact h'.inc k i h1 (by omega));rw [e1, e2]; omega
   · subst h1;have := hlk.2; omega
   · have r1 := h.red i k h1 hk;have r2 := h'.red i k h1 (by omega);rw [<- hlk.1, <- hlk.2] at r2;omega
def z92 (n : Nat) (a : Nat -> Nat -> Int) : Prop := ∀ x : Nat -> Int, (∀ j, sm n (fun k => x k * a k j) = 0) -> ∀ k, k < n -> x k = 0
theorem common : ∀ (n : Nat) (Y : Nat -> Int), (∀ k, k < n -> Y k ≠ 0) -> ∃ d : Int, d ≠ 0 /\ ∀ k, k < n -> Y k ∣ d
 | 0, _, _ => ⟨1, by omega, fun k hk => by omega⟩
 | n + 1, Y, h => by
  obtain ⟨d, hd, hk⟩ := common n Y (fun k hk => h k (by omega));refine ⟨d * Y n, fun e => ?_, fun k hk' => ?_⟩
  · rcases Int.mul_eq_zero.1 e with e | e
    · exact hd e
    · exact h n (by omega) e
  · by_cases e : k = n
    · subst e; exact Int.dvd_mul_left ..
    · exact Int.dvd_mul_of_dvd_left (hk k (by omega))
def zb3 (n M : Nat) : Nat := n * (n * ((2 * n * M + 1) ^ (n - 1) * M)) * (n * ((2 * n * M + 1) ^ (n - 1) * M))
theorem z1a.bound {n c M : Nat} {E : Nat -> Nat -> Int} {l : Nat -> Nat} (h : z1a n c E l) {a : Nat -> Nat -> Int} (ha : ∀ k, k < n -> Sp n E (a k)) (hi : z92 n a) (hM : ∀ k j, k < n -> (a k j).natAbs <= M) : ∀ i j, i < n -> (E i j).natAbs <= zb3 n M := by
 obtain ⟨D, hD⟩ : ∃ D, n * ((2 * n * M + 1) ^ (n - 1) * M) = D := ⟨_, rfl⟩;have hy : ∀ i, i < n -> ∃ y : Nat -> Int, Sp n E y /\ (∀ j, (y j).natAbs <= D) /\ (∀ k, k < n -> k ≠ i -> y (l k) = 0) /\ y (l i) ≠ 0 := by
  intro i hin;obtain ⟨x, ⟨k0, hk0, hx0⟩, hxb, hxz⟩ := zcG n (n - 1) M (fun k q => a k (l (if q < i then q else q + 1))) (by omega) (fun k j hk _ => hM k _ hk);have hz : ∀ k, k < n -> k ≠ i -> sm n (fun t => x t * a t (l k)) = 0 := by
   intro k hk hne;rcases Nat.lt_or_gt_of_ne hne with h1 | h1
   · have := hxz k (by omega);simpa [h1] using this
   · have := hxz (k - 1) (by omega);have e : ¬ k - 1 < i := by omega
     have e2 : k - 1 + 1 = k := by omega
     simpa [e, e2] using this
  have hsp : Sp n E (fun j => sm n (fun k => x k * a k j)) := Sp.sm ha;refine ⟨fun j => sm n (fun k => x k * a k j), hsp, fun j => ?_, hz, fun e => ?_⟩
  · rw [<- hD];refine z8P (fun k hk => ?_);rw [Int.natAbs_mul];exact Nat.mul_le_mul (hxb k hk) (hM k j hk)
  · have h0 := h.toEch.none0 hsp (fun k hk => by
     by_cases e' : k = i
     · subst e'; exact e
     · exact hz k hk e')
    exact hx0 (hi x h0 k0 hk0)
 have hpiv : ∀ i, i < n -> (E i (l i)).natAbs <= D := by
  intro i hin;obtain ⟨y, hs, hb, hz, hn⟩ := hy i hin;obtain ⟨x, hx⟩ := hs;have h0 : ∀ k, k < i -> x k = 0 := h.toEch.small x i (by omega) (fun k hk => by
   rw [<- hx, hz k (by omega) (by omega)]; have := h.pos k (by omega); omega)
  have h1 := h.toEch.at x hin h0;rw [<- hx] at h1;have h2 := hb (l i);rw [h1, Int.natAbs_mul] at h2;have h3 : 1 <= (x i).natAbs := by
   have : x i ≠ 0 := fun e => hn (by rw [h1, e, Int.zero_mul]);omega
  have h4 := Nat.mul_le_mul_right (E i (l i)).natAbs h3;omega
 have hent : ∀ i k, i < n -> k < n -> (E i (l k)).natAbs <= D := by
  intro i k hin hk;rcases Nat.lt_trichotomy i k with h1 | h1 | h1
  · have := h.red i k h1 hk; have := hpiv k hk; omega
  · subst h1; exact hpiv i hin
  · rw [h.zero i hin _ (h.inc k i h1 hin)]; simp
 intro i j hin;obtain ⟨y, hY⟩ : ∃ y : Nat -> Nat -> Int, ∀ i, i < n -> Sp n E (y i) /\ (∀ j, (y i j).natAbs <= D) /\ (∀ k, k < n -> k ≠ i -> y i (l k) = 0) /\ y i (l i) ≠ 0 := by
  refine ⟨fun i => if hin : i < n then Classical.choose (hy i hin) else fun _ => 0, fun i hin => ?_⟩;simp only [hin, dif_pos];exact Classical.choose_spec (hy i hin)
 obtain ⟨d, hd, hdv⟩ := common n (fun k => y k (l k)) (fun k hk => (hY k hk).2.2.2);obtain ⟨q, hq⟩ : ∃ q : Nat -> Int, ∀ k, k < n -> d = q k * y k (l k) := by
  refine ⟨fun k => d / y k (l k), fun k hk => ?_⟩;exact (Int.ediv_mul_cancel (hdv k hk)).symm
 have hsp : Sp n E (fun j => d * E i j - sm n (fun k => (E i (l k) * q k) * y k j)) := ((Sp.row E hin).smul d).sub (Sp.sm (fun k hk => (hY k hk).1));have h0 := h.toEch.none0 hsp (fun m hm => by
  rw [z3A m hm (fun k hk hne => by rw [(hY k hk).2.2.1 m hm (fun e => hne e.symm), Int.mul_zero])];rw [Int.mul_assoc, <- hq m hm, Int.mul_comm]; omega) j
 have hb : (sm n (fun k => (E i (l k) * q k) * y k j)).natAbs <= n * (D * d.natAbs * D) := by
  refine z8P (fun k hk => ?_);rw [Int.natAbs_mul, Int.natAbs_mul];have h1 : (q k).natAbs <= d.natAbs := by
   have e := congrArg Int.natAbs (hq k hk);rw [Int.natAbs_mul] at e;have h2 : 1 <= (y k (l k)).natAbs := by have := (hY k hk).2.2.2; omega
   have h3 := Nat.mul_le_mul_left (q k).natAbs h2;omega
  exact Nat.mul_le_mul (Nat.mul_le_mul (hent i k hin hk) h1) ((hY k hk).2.1 j)
 have h1 : (d * E i j).natAbs <= n * (D * d.natAbs * D) := by
  have : d * E i j = sm n (fun k => (E i (l k) * q k) * y k j) := by omega
  rw [this]; exact hb
 rw [Int.natAbs_mul] at h1;have h2 : n * (D * d.natAbs * D) = d.natAbs * (n * D * D) := by
  simp only [Nat.mul_comm, Nat.mul_left_comm, Nat.mul_assoc]
 rw [h2] at h1;have h3 := Nat.le_of_mul_le_mul_left h1 (by omega : 0 < d.natAbs);unfold zb3;rw [hD]; exact h3
theorem z2D (xs : List Int) {i : Nat} (d : Int) (h : i < xs.length) : xs.getD i d = xs[i] := by simp [h]
theorem z6q (xs : List Int) {i : Nat} (d : Int) (h : xs.length <= i) : xs.getD i d = d := by simp [h]
def Sh (c : Nat) (R : List Hd) : Prop := ∀ h ∈ R, h.xs.length = c
theorem z0O {R : List Hd} {i : Nat} (hi : i < R.length) (j : Nat) : ent R i j = R[i].xs.getD j 0 := by
 unfold ent; simp [hi]
theorem z1U {R : List Hd} {i : Nat} (hi : R.length <= i) (j : Nat) : ent R i j = 0 := by
 unfold ent; rw [List.getElem?_eq_none hi]; rfl
theorem Sh.get {c : Nat} {R : List Hd} (h : Sh c R) {i : Nat} (hi : i < R.length) : R[i].xs.length = c := h _ (List.getElem_mem hi)
theorem Sh.wide {c : Nat} {R : List Hd} (h : Sh c R) (i : Nat) {j : Nat} (hj : c <= j) : ent R i j = 0 := by
 by_cases hi : i < R.length
 · rw [z0O hi, z6q _ _ (by rw [h.get hi]; exact hj)]
 · exact z1U (by omega) j
theorem Sh.z8E {c : Nat} {R : List Hd} (h : Sh c R) (i : Nat) {xs : List Int} (hx : xs.length = c) : Sh c (z1f R i xs) := by
 intro r hr;obtain ⟨j, hj, rfl⟩ := List.getElem_of_mem hr;rw [z06] at hj;rw [z1h hj];split
 · exact hx
 · exact h.get hj
theorem z4A {R : List Hd} {i : Nat} (hi : i < R.length) (xs : List Int) (a b : Nat) : ent (z1f R i xs) a b = if a = i then xs.getD b 0 else ent R a b := by
 by_cases ha : a < R.length
 · rw [z0O (by rw [z06]; exact ha), z1h ha];by_cases e : i = a
   · subst e; simp
   · rw [if_neg e, if_neg (fun h => e h.symm), z0O ha]
 · rw [z1U (by rw [z06]; omega), if_neg (by omega), z1U (by omega)]
theorem z3I {f : Int -> Int -> Int} (hf : f 0 0 = 0) {xs ys : List Int} (h : xs.length = ys.length) (b : Nat) : (List.zipWith f xs ys).getD b 0 = f (xs.getD b 0) (ys.getD b 0) := by
 by_cases hb : b < xs.length
 · have hb2 : b < ys.length := by omega
   have hb3 : b < (List.zipWith f xs ys).length := by simp; omega
   rw [z2D _ _ hb3, z2D _ _ hb, z2D _ _ hb2, List.getElem_zipWith]
 · rw [z6q _ _ (by simp; omega), z6q _ _ (by omega), z6q _ _ (by omega), hf]
theorem z4s {c : Nat} {R : List Hd} (hs : Sh c R) {i j : Nat} (hi : i < R.length) (hj : j < R.length) (k : Int) (a b : Nat) : ent (z32 R i j k) a b = if a = i then k * ent R j b + ent R i b else ent R a b := by
 rw [z3d hi hj]; unfold z1P;rw [z4A hi];unfold z2w;rw [z3I (by simp) (by rw [hs.get hi, hs.get hj]), <- z0O hi, <- z0O hj]
theorem Sh.z8f {c : Nat} {R : List Hd} (hs : Sh c R) (i j : Nat) (k : Int) : Sh c (z32 R i j k) := by
 unfold z32;split
 · rename_i h;unfold z1P;exact hs.z8E i (by unfold z2w; rw [List.length_zipWith, hs.get h.1, hs.get h.2]; omega)
 · exact hs
theorem z5t (R : List Hd) (i j : Nat) (k : Int) : (z32 R i j k).map Hd.blk = R.map Hd.blk := by
 unfold z32; split
 · exact z2h ..
 · rfl
theorem z7n {c : Nat} {R : List Hd} (hs : Sh c R) {i j : Nat} (hi : i < R.length) (hj : j < R.length) (hij : i ≠ j) (p q r s : Int) (a b : Nat) : ent (z4G R i j p q r s) a b = if a = i then p * ent R i b + q * ent R j b else if a = j then r * ent R i b + s * ent R j b else ent R a b := by
 rw [z4u hi hj]; unfold z2i;rw [z4A (by rw [z06]; exact hj), z4A hi];have hl : R[i].xs.length = R[j].xs.length := by rw [hs.get hi, hs.get hj]
 unfold z2T;rw [z3I (by simp) hl, z3I (by simp) hl, <- z0O hi, <- z0O hj];by_cases e : a = i
 · subst e; rw [if_neg hij, if_pos rfl, if_pos rfl]
 · rw [if_neg e, if_neg e]
theorem Sh.zcl {c : Nat} {R : List Hd} (hs : Sh c R) (i j : Nat) (p q r s : Int) : Sh c (z4G R i j p q r s) := by
 unfold z4G;split
 · rename_i h;unfold z2i;refine (hs.z8E i ?_).z8E j ?_ <;> (unfold z2T; rw [List.length_zipWith, hs.get h.1, hs.get h.2]; omega)
 · exact hs
theorem zcK (R : List Hd) (i j : Nat) (p q r s : Int) : (z4G R i j p q r s).map Hd.blk = R.map Hd.blk := by
 unfold z4G; split
 · unfold z2i; rw [z2h, z2h]
 · rfl
theorem z4w {R : List Hd} {i : Nat} (hi : i < R.length) (a b : Nat) : ent (z0L R i) a b = if a = i then - ent R i b else ent R a b := by
 rw [z2W hi]; unfold z1A;rw [z4A hi, z0O hi];split
 · unfold z56;by_cases hb : b < R[i].xs.length
   · rw [z2D _ _ (by simpa using hb), z2D _ _ hb]; simp
   · rw [z6q _ _ (by simp; omega), z6q _ _ (by omega)]; rfl
 · rfl
theorem Sh.za3 {c : Nat} {R : List Hd} (hs : Sh c R) (i : Nat) : Sh c (z0L R i) := by
 unfold z0L;split
 · rename_i h;unfold z1A;exact hs.z8E i (by simp [z56, hs.get h])
 · exact hs
theorem zbs {R : List Hd} {i j m : Nat} (hi : i < R.length) (hj : j < R.length) (hm : m < R.length) : (swapT R i j)[m]'(by rw [z0G]; exact hm) = R[swp i j m]'(z41 hi hj hm) := by
 have := z2l hi hj hm;rw [<- this]; congr 1; exact z1L hi hj
theorem z4D {R : List Hd} {i j : Nat} (hi : i < R.length) (hj : j < R.length) (a b : Nat) : ent (swapT R i j) a b = ent R (swp i j a) b := by
 by_cases ha : a < R.length
 · rw [z0O (by rw [z0G]; exact ha), zbs hi hj ha, z0O]
 · rw [z1U (by rw [z0G]; omega), z1U];unfold swp; split
   · omega
   · split <;> omega
theorem Sh.z8B {c : Nat} {R : List Hd} (hs : Sh c R) (i j : Nat) : Sh c (swapT R i j) := by
 unfold swapT;split
 · rename_i h;intro r hr;obtain ⟨m, hm, rfl⟩ := List.getElem_of_mem hr;rw [z0w] at hm;rw [z2l h.1 h.2 hm];exact hs.get _
 · exact hs
theorem z9u {R : List Hd} {i : Nat} (hi : i < R.length) {c : Nat} (hs : Sh c R) : (z0r R i <= c) /\ (∀ b, b < z0r R i -> ent R i b = 0) /\ (z0r R i < c -> ent R i (z0r R i) ≠ 0) := by
 rw [z3r hi];have key : ∀ xs : List Int, (∀ b, b < lead xs -> xs.getD b 0 = 0) /\ (lead xs < xs.length -> xs.getD (lead xs) 0 ≠ 0) := by
  intro xs;induction xs with
  | nil => exact ⟨fun b _ => by simp, fun h => by simp at h⟩
  | cons x xs ih =>
   unfold lead;by_cases hx : x = 0
   · rw [if_pos hx];refine ⟨fun b hb => ?_, fun h => ?_⟩
     · cases b with
       | zero => simpa using hx
       | succ b => rw [List.getD_cons_succ]; exact ih.1 b (by omega)
     · rw [List.getD_cons_succ]; exact ih.2 (by simpa using h)
   · rw [if_neg hx];exact ⟨fun b hb => by omega, fun _ => by simpa using hx⟩
 have hl := hs.get hi;have h1 := key R[i].xs;refine ⟨hl ▸ z8M _, fun b hb => ?_, fun h => ?_⟩
 · rw [z0O hi]; exact h1.1 b hb
 · rw [z0O hi]; exact h1.2 (by omega)
theorem z8m {R : List Hd} {i : Nat} (hi : i < R.length) {c : Nat} (hs : Sh c R) {j : Nat} (h0 : ∀ b, b < j -> ent R i b = 0) (hj : ent R i j ≠ 0) : z0r R i = j := by
 have h1 := z9u hi hs;have hjc : j < c := by
  by_cases h : j < c
  · exact h
  · exact absurd (hs.wide i (by omega)) hj
 rcases Nat.lt_trichotomy (z0r R i) j with h | h | h
 · exact absurd (h0 _ h) (h1.2.2 (by omega))
 · exact h
 · exact absurd (h1.2.1 _ h) hj
theorem Fit.of {B c : Nat} {R : List Hd} (hs : Sh c R) (h : ∀ a b, (ent R a b).natAbs < W ^ B) : Fit B c R := by
 refine ⟨hs, fun r hr x hx => ?_⟩;obtain ⟨i, hi, rfl⟩ := List.getElem_of_mem hr;obtain ⟨j, hj, rfl⟩ := List.getElem_of_mem hx;have := h i j;rw [z0O hi, z2D _ _ hj] at this;exact z0a this
/-! Bounds by powers of the base. -/
theorem zcQ {u v : Nat} (h : u <= v) : W ^ u <= W ^ v := Nat.pow_le_pow_right z0x h
theorem z3O {n u v : Nat} (h : n < W ^ u) (k : u <= v) : n < W ^ v := Nat.lt_of_lt_of_le h (zcQ k)
theorem z1v (u : Nat) : 0 < W ^ u := Nat.pow_pos z0x
theorem z8e {k y x u d : Nat} (hk : k < W ^ u) (hy : y < W ^ d) (hx : x < W ^ u) : k * y + x < W ^ (u + d) := by
 have h1 : (k + 1) * W ^ d <= W ^ u * W ^ d := Nat.mul_le_mul_right _ hk;have h2 : k * (y + 1) <= k * W ^ d := Nat.mul_le_mul_left _ hy;rw [Nat.pow_add];rw [Nat.succ_mul] at h1;rw [Nat.mul_add, Nat.mul_one] at h2;have h3 : W ^ u <= W ^ u * W ^ d := by have := Nat.mul_le_mul_left (W ^ u) (z1v d); omega
 by_cases hk0 : k = 0
 · subst hk0; omega
 · have h4 : k * y + k <= k * W ^ d := h2;have h5 : (W ^ u - 1) * y + (W ^ u - 1) <= (W ^ u - 1) * W ^ d := by
    have := Nat.mul_le_mul_left (W ^ u - 1) hy;rw [Nat.mul_succ] at this; exact this
   have h6 : k * y <= (W ^ u - 1) * y := Nat.mul_le_mul_right _ (by omega);have h7 : (W ^ u - 1) * W ^ d < W ^ u * W ^ d := Nat.mul_lt_mul_of_pos_right (by have := z1v u; omega) (z1v d);omega
theorem z4L (k y x : Int) : (k * y + x).natAbs <= k.natAbs * y.natAbs + x.natAbs := by
 have := Int.natAbs_add_le (k * y) x
 rwa [Int.natAbs_mul] at this
theorem zaN {x y : Int} (hy : 0 < y) : (x.fdiv y).natAbs <= x.natAbs := by
 rw [Int.fdiv_eq_ediv_of_nonneg _ (Int.le_of_lt hy)];exact Int.natAbs_ediv_le_natAbs x y
theorem z9X {x y : Int} (hy : 0 < y) : 0 <= x.fmod y /\ x.fmod y < y := by
 rw [Int.fmod_eq_emod_of_nonneg _ (Int.le_of_lt hy)];exact ⟨Int.emod_nonneg _ (by omega), Int.emod_lt_of_pos _ hy⟩
theorem z8b {x y : Int} (hy : 0 < y) : -(x.fdiv y) * y + x = x.fmod y := by
 rw [Int.fdiv_eq_ediv_of_nonneg _ (Int.le_of_lt hy), Int.fmod_eq_emod_of_nonneg _ (Int.le_of_lt hy), Int.emod_def, Int.mul_comm y, Int.neg_mul]; omega
/-! settle. -/
def z5c (ls : List Nat) (i : Nat) : Nat -> Nat -> List Hd -> List Hd
 | 0, _, R => R
 | f + 1, k, R => z5c ls i f (k + 1) (z32 R i k (-((ent R i (ls.getD k 0)).fdiv (ent R k (ls.getD k 0)))))
def zaS (ls : List Nat) (n : Nat) : Nat -> List Hd -> List Hd
 | 0, R => R
 | m + 1, R => zaS ls n m (z5c ls m (n - (m + 1)) (m + 1) R)
theorem z0B.add {n : Nat} {E F : Nat -> Nat -> Int} {i k : Nat} (hi : i < n) (hk : k < n) (hik : i ≠ k) (q : Int) (h : ∀ a b, F a b = if a = i then q * E k b + E i b else E a b) : z0B n E n F := by
 refine ⟨fun a ha => ?_, fun a ha => ?_⟩
 · by_cases e : a = i
   · subst e;refine ((Sp.row F ha).add ((Sp.row F hk).smul (-q))).congr (fun j => ?_);rw [h a j, if_pos rfl, h k j, if_neg (fun e => hik e.symm), Int.neg_mul]; omega
   · exact (Sp.row F ha).congr (fun j => by rw [h, if_neg e])
 · by_cases e : a = i
   · subst e;refine (((Sp.row E hk).smul q).add (Sp.row E ha)).congr (fun j => ?_);rw [h, if_pos rfl]
   · exact (Sp.row E ha).congr (fun j => by rw [h, if_neg e])
structure zce (n c i k : Nat) (l : Nat -> Nat) (R R' : List Hd) : Prop where
 same : ∀ a, a ≠ i -> ∀ b, ent R' a b = ent R a b
 low : ∀ b, (∀ m, k <= m -> m < n -> b < l m) -> ent R' i b = ent R i b
 red : ∀ m, k <= m -> m < n -> 0 <= ent R' i (l m) /\ ent R' i (l m) < ent R m (l m)
 sh : Sh c R'
 len : R'.length = R.length
 blk : R'.map Hd.blk = R.map Hd.blk
 sp : z0B n (ent R) n (ent R')
theorem Ech.add {n c : Nat} {E F : Nat -> Nat -> Int} {l : Nat -> Nat} (h : Ech n c E l) {i k : Nat} (hik : i < k) (hk : k < n) (q : Int) (e : ∀ a b, F a b = if a = i then q * E k b + E i b else E a b) : Ech n c F l := by
 refine ⟨h.inc, h.lt, fun a ha j hj => ?_, fun a ha => ?_⟩
 · rw [e]; split
   · rename_i e'; subst e';rw [h.zero k hk j (by have := h.inc a k hik hk; omega), h.zero a ha j hj]; simp
   · exact h.zero a ha j hj
 · rw [e]; split
   · rename_i e'; subst e';rw [h.zero k hk _ (h.inc a k hik hk)]; have := h.pos a ha; simpa using this
   · exact h.pos a ha
theorem z8L {n c i : Nat} {l : Nat -> Nat} {ls : List Nat} (hls : ∀ k, k < n -> ls.getD k 0 = l k) : ∀ (f k : Nat) (R : List Hd), k + f = n -> i < k -> Sh c R -> n <= R.length -> Ech n c (ent R) l -> zce n c i k l R (z5c ls i f k R)
 | 0, k, R, hf, hik, hs, hn, hE => ⟨fun _ _ _ => rfl, fun _ _ => rfl, fun m h1 h2 => by omega, hs, rfl, rfl, z0B.refl _ _⟩
 | f + 1, k, R, hf, hik, hs, hn, hE => by
  have hk : k < n := by omega
  have he := fun (a b : Nat) => z4s hs (i := i) (j := k) (by omega) (by omega) (-((ent R i (ls.getD k 0)).fdiv (ent R k (ls.getD k 0)))) a b;have ih := z8L (i := i) hls f (k + 1) (z32 R i k (-((ent R i (ls.getD k 0)).fdiv (ent R k (ls.getD k 0))))) (by omega) (by omega) (hs.z8f i k _) (by rw [z1n]; exact hn) (hE.add hik hk _ he);rw [hls k hk] at he;have hp := hE.pos k hk;refine ⟨fun a ha b => ?_, fun b hb => ?_, fun m hm hmn => ?_, ih.sh, ih.len.trans (z1n ..), ih.blk.trans (z5t ..), (z0B.add (by omega) hk (by omega) _ he).trans (by rw [<- hls k hk]; exact ih.sp)⟩
  · show ent (z5c ls i f (k + 1) _) a b = _;rw [ih.same a ha b, hls k hk, he, if_neg ha]
  · show ent (z5c ls i f (k + 1) _) i b = _;rw [ih.low b (fun m h1 h2 => hb m (by omega) h2), hls k hk, he, if_pos rfl, hE.zero k hk b (hb k (Nat.le_refl _) hk)]; omega
  · by_cases e : m = k
    · subst e;show 0 <= ent (z5c ls i f (m + 1) _) i (l m) /\ ent (z5c ls i f (m + 1) _) i (l m) < _;rw [ih.low (l m) (fun q h1 h2 => hE.inc m q (by omega) h2), hls m hk, he, if_pos rfl, z8b hp];exact z9X hp
    · have h1 := ih.red m (by omega) hmn;rw [hls k hk, he m, if_neg (by omega)] at h1;show 0 <= ent (z5c ls i f (k + 1) _) i (l m) /\ ent (z5c ls i f (k + 1) _) i (l m) < _;rw [hls k hk];exact h1
theorem Ech.congr {n c : Nat} {E F : Nat -> Nat -> Int} {l : Nat -> Nat} (h : Ech n c E l) (e : ∀ a, a < n -> ∀ b, F a b = E a b) : Ech n c F l :=
 ⟨h.inc, h.lt, fun a ha j hj => (e a ha j).trans (h.zero a ha j hj), fun a ha => by rw [e a ha]; exact h.pos a ha⟩
theorem zce.ech {n c i k : Nat} {l : Nat -> Nat} {R R' : List Hd} (h : zce n c i k l R R') (hE : Ech n c (ent R) l) (hik : i < k) (hin : i < n) : Ech n c (ent R') l := by
 have hlow : ∀ b, b <= l i -> ent R' i b = ent R i b := fun b hb => h.low b (fun m h1 h2 => by have := hE.inc i m (by omega) h2; omega);refine ⟨hE.inc, hE.lt, fun a ha j hj => ?_, fun a ha => ?_⟩
 · by_cases e : a = i
   · subst e; rw [hlow j (by omega)]; exact hE.zero a ha j hj
   · rw [h.same a e]; exact hE.zero a ha j hj
 · by_cases e : a = i
   · subst e; rw [hlow _ (Nat.le_refl _)]; exact hE.pos a ha
   · rw [h.same a e]; exact hE.pos a ha
structure zcU (n c m : Nat) (l : Nat -> Nat) (R R' : List Hd) : Prop where
 same : ∀ a, m <= a -> ∀ b, ent R' a b = ent R a b
 z1y : z1a n c (ent R') l
 sh : Sh c R'
 len : R'.length = R.length
 blk : R'.map Hd.blk = R.map Hd.blk
 sp : z0B n (ent R) n (ent R')
theorem z5j {n c : Nat} {l : Nat -> Nat} {ls : List Nat} (hls : ∀ k, k < n -> ls.getD k 0 = l k) : ∀ (m : Nat) (R : List Hd), m <= n -> Sh c R -> n <= R.length -> Ech n c (ent R) l -> (∀ i k, m <= i -> i < k -> k < n -> 0 <= ent R i (l k) /\ ent R i (l k) < ent R k (l k)) -> zcU n c m l R (zaS ls n m R)
 | 0, R, hm, hs, hn, hE, hr => ⟨fun _ _ _ => rfl, ⟨hE, fun i k => hr i k (Nat.zero_le _)⟩, hs, rfl, rfl, z0B.refl _ _⟩
 | m + 1, R, hm, hs, hn, hE, hr => by
  have h1 := z8L (i := m) hls (n - (m + 1)) (m + 1) R (by omega) (by omega) hs hn hE;have h2 := z5j hls m (z5c ls m (n - (m + 1)) (m + 1) R) (by omega) h1.sh (by rw [h1.len]; exact hn) (h1.ech hE (by omega) (by omega)) (fun i k hi hik hk => by
   by_cases e : i = m
   · subst e;rw [h1.same k (by omega)];exact h1.red k (by omega) hk
   · rw [h1.same i e, h1.same k (by omega)];exact hr i k (by omega) hik hk)
  exact ⟨fun a ha b => (h2.same a (by omega) b).trans (h1.same a (by omega) b), h2.z1y, h2.sh, h2.len.trans h1.len, h2.blk.trans h1.blk, h1.sp.trans h2.sp⟩
theorem zbR {n c i B δ : Nat} {l : Nat -> Nat} {ls : List Nat} (hls : ∀ k, k < n -> ls.getD k 0 = l k) : ∀ (f k u : Nat) (R : List Hd), k + f = n -> i < k -> Sh c R -> n <= R.length -> Ech n c (ent R) l ->
 (∀ a b, (ent R a b).natAbs < W ^ B) -> (∀ b, (ent R i b).natAbs < W ^ u) -> (∀ a, k <= a -> a < n -> ∀ b, (ent R a b).natAbs < W ^ δ) -> u + f * δ <= B -> SIn B c ls i n k R (z5c ls i f k R)
 | 0, k, u, R, hf, hik, hs, hn, hE, hB, hu, hd, hb => .done (by omega)
 | f + 1, k, u, R, hf, hik, hs, hn, hE, hB, hu, hd, hb => by
  have hk : k < n := by omega
  have he := fun (a b : Nat) => z4s hs (i := i) (j := k) (by omega) (by omega) (-((ent R i (ls.getD k 0)).fdiv (ent R k (ls.getD k 0)))) a b;have hp := hE.pos k hk;have hq : ((ent R i (ls.getD k 0)).fdiv (ent R k (ls.getD k 0))).natAbs < W ^ u := by
   rw [hls k hk];exact Nat.lt_of_le_of_lt (zaN hp) (hu _)
  have hrow : ∀ b, (ent (z32 R i k (-((ent R i (ls.getD k 0)).fdiv (ent R k (ls.getD k 0))))) i b).natAbs < W ^ (u + δ) := by
   intro b;rw [he, if_pos rfl];refine Nat.lt_of_le_of_lt (z4L _ _ _) ?_;rw [Int.natAbs_neg];exact z8e hq (hd k (Nat.le_refl _) hk b) (hu b)
  have e1 : (f + 1) * δ = f * δ + δ := Nat.succ_mul ..;refine .step hk (Fit.of hs hB) (by rw [hls k hk]; exact hE.lt k hk) (by rw [hls k hk]; omega) ?_;refine zbR (δ := δ) hls f (k + 1) (u + δ) _ (by omega) (by omega) (hs.z8f i k _) (by rw [z1n]; exact hn) (hE.add hik hk _ he) (fun a b => ?_) hrow (fun a h1 h2 b => ?_) (by omega)
  · by_cases e : a = i
    · subst e; exact z3O (hrow b) (by omega)
    · rw [he, if_neg e]; exact hB a b
  · rw [he, if_neg (by omega)]; exact hd a (by omega) h2 b
theorem zaR {n c B δ u : Nat} {l : Nat -> Nat} {ls : List Nat} (hls : ∀ k, k < n -> ls.getD k 0 = l k) (hb : u + n * δ <= B) : ∀ (m : Nat) (R : List Hd), m <= n -> Sh c R -> n <= R.length -> Ech n c (ent R) l -> (∀ i k, m <= i -> i < k -> k < n -> 0 <= ent R i (l k) /\ ent R i (l k) < ent R k (l k)) ->
 (∀ a b, (ent R a b).natAbs < W ^ B) -> (∀ a, a < m -> ∀ b, (ent R a b).natAbs < W ^ u) -> (∀ a, a < n -> ∀ b, (ent (zaS ls n m R) a b).natAbs < W ^ δ) -> z3m B c ls n m R (zaS ls n m R)
 | 0, R, hm, hs, hn, hE, hr, hB, hu, hd => .done
 | m + 1, R, hm, hs, hn, hE, hr, hB, hu, hd => by
  have hout := z5j hls (m + 1) R hm hs hn hE hr;have h1 := z8L (i := m) hls (n - (m + 1)) (m + 1) R (by omega) (by omega) hs hn hE;have hr1 : ∀ i k, m <= i -> i < k -> k < n -> 0 <= ent (z5c ls m (n - (m + 1)) (m + 1) R) i (l k) /\ ent (z5c ls m (n - (m + 1)) (m + 1) R) i (l k) < ent (z5c ls m (n - (m + 1)) (m + 1) R) k (l k) := fun i k hi hik hk => by
   by_cases e : i = m
   · subst e;rw [h1.same k (by omega)];exact h1.red k (by omega) hk
   · rw [h1.same i e, h1.same k (by omega)];exact hr i k (by omega) hik hk
  have h2 := z5j hls m (z5c ls m (n - (m + 1)) (m + 1) R) (by omega) h1.sh (by rw [h1.len]; exact hn) (h1.ech hE (by omega) (by omega)) hr1;have hmul : (n - (m + 1)) * δ <= n * δ := Nat.mul_le_mul_right _ (by omega);have hδ : δ <= n * δ := by have := Nat.mul_le_mul_right δ (show 1 <= n by omega); omega
  refine .step (zbR (δ := δ) hls (n - (m + 1)) (m + 1) u R (by omega) (by omega) hs hn hE hB (fun b => hu m (by omega) b) (fun a h3 h4 b => ?_) (by omega)) ?_
  · rw [<- hout.same a h3 b]; exact hd a h4 b
  · refine zaR hls hb m _ (by omega) h1.sh (by rw [h1.len]; exact hn) (h1.ech hE (by omega) (by omega)) hr1 (fun a b => ?_) (fun a ha b => ?_) hd
    · by_cases e : a = m
      · subst e;rw [<- h2.same a (Nat.le_refl _) b];exact z3O (hd a (by omega) b) (by omega)
      · rw [h1.same a e]; exact hB a b
    · rw [h1.same a (by omega)]; exact hu a (by omega) b
/-! meet. -/
theorem ext_eq (a b : Int) (hb : b ≠ 0) : a * z2t a b + b * z4h a b = z1j a b := by
 have h := z5U a b;unfold z2B at h;rw [if_neg hb] at h;exact h.2.2.2
theorem z0B.two {N : Nat} {E F : Nat -> Nat -> Int} {k n : Nat} (hk : k < N) (hn : n < N) (hkn : k ≠ n) (hs : ∀ a, a ≠ k -> a ≠ n -> ∀ b, F a b = E a b)
 {x y z t x' y' z' t' : Int} (h1 : ∀ b, F k b = x * E k b + y * E n b) (h2 : ∀ b, F n b = z * E k b + t * E n b) (h3 : ∀ b, E k b = x' * F k b + y' * F n b) (h4 : ∀ b, E n b = z' * F k b + t' * F n b) : z0B N E N F := by
 refine ⟨fun a ha => ?_, fun a ha => ?_⟩
 · by_cases e : a = k
   · subst e; exact (((Sp.row F hk).smul x').add ((Sp.row F hn).smul y')).congr h3
   · by_cases e' : a = n
     · subst e'; exact (((Sp.row F hk).smul z').add ((Sp.row F hn).smul t')).congr h4
     · exact (Sp.row F ha).congr (fun j => (hs a e e' j).symm)
 · by_cases e : a = k
   · subst e; exact (((Sp.row E hk).smul x).add ((Sp.row E hn).smul y)).congr h1
   · by_cases e' : a = n
     · subst e'; exact (((Sp.row E hk).smul z).add ((Sp.row E hn).smul t)).congr h2
     · exact (Sp.row E ha).congr (fun j => hs a e e' j)
structure MeetOk (c k n j δ u : Nat) (R R' : List Hd) : Prop where
 same : ∀ a, a ≠ k -> a ≠ n -> ∀ b, ent R' a b = ent R a b
 low : ∀ b, b < j -> ent R' k b = 0
 piv : 0 < ent R' k j
 gone : ∀ b, b <= j -> ent R' n b = 0
 comb : ∃ t s : Int, t ≠ 0 /\ ∀ b, ent R' n b = t * ent R n b + s * ent R k b
 sp : ∀ N, k < N -> n < N -> z0B N (ent R) N (ent R')
 bk : ∀ b, (ent R' k b).natAbs < W ^ (u + 2 * δ + 1)
 bn : ∀ b, (ent R' n b).natAbs < W ^ (u + 2 * δ + 1)
 sh : Sh c R'
 len : R'.length = R.length
 blk : R'.map Hd.blk = R.map Hd.blk
theorem z5O {c : Nat} {R : List Hd} (hs : Sh c R) {k n : Nat} (hk : k < R.length) (hn : n < R.length) (j a b : Nat) : ent (z0A R k n j) a b = if a = n then -((ent R n j).fdiv (ent R k j)) * ent R k b + ent R n b else ent R a b :=
 z4s hs hn hk _ a b
theorem pw_two {x y z t u d : Nat} (hx : x <= W ^ d) (hy : y < W ^ d) (hz : z <= W ^ d) (ht : t < W ^ (u + d)) : x * y + z * t < W ^ (u + 2 * d + 1) := by
 have h1 : x * y <= W ^ d * W ^ d := Nat.mul_le_mul hx (Nat.le_of_lt hy);have h2 : z * t <= W ^ d * W ^ (u + d) := Nat.mul_le_mul hz (Nat.le_of_lt ht);have e1 : W ^ d * W ^ d <= W ^ (u + 2 * d) := by rw [<- Nat.pow_add]; exact zcQ (by omega)
 have e2 : W ^ d * W ^ (u + d) = W ^ (u + 2 * d) := by rw [<- Nat.pow_add]; congr 1; omega
 have e3 : W ^ (u + 2 * d) * 2 < W ^ (u + 2 * d + 1) := by
  rw [Nat.pow_succ];exact Nat.mul_lt_mul_of_pos_left (by unfold W; omega) (z1v _)
 omega
theorem z6r {c : Nat} {R : List Hd} (hs : Sh c R) {k n j δ u : Nat} (hk : k < R.length) (hn : n < R.length) (hp : 0 < ent R k j) (hbk : ∀ b, (ent R k b).natAbs < W ^ δ) (hbn : ∀ b, (ent R n b).natAbs < W ^ u) (b : Nat) : (ent (z0A R k n j) n b).natAbs < W ^ (u + δ) := by
 rw [z5O hs hk hn, if_pos rfl];refine Nat.lt_of_le_of_lt (z4L _ _ _) ?_;rw [Int.natAbs_neg];exact z8e (Nat.lt_of_le_of_lt (zaN hp) (hbn j)) (hbk b) (hbn b)
theorem zbe (R : List Hd) (k n j : Nat) : (z1m R k n j).map Hd.blk = R.map Hd.blk := by
 unfold z1m z0A; split
 · exact z5t ..
 · rw [zcK]; exact z5t ..
theorem zds {c k n j δ u : Nat} {R : List Hd} (hs : Sh c R) (hk : k < R.length) (hn : n < R.length) (hkn : k ≠ n) (hp : 0 < ent R k j) (h0 : ∀ b, b < j -> ent R k b = 0) (h1 : ∀ b, b < j -> ent R n b = 0)
 (hbk : ∀ b, (ent R k b).natAbs < W ^ δ) (hbn : ∀ b, (ent R n b).natAbs < W ^ u) : MeetOk c k n j δ u R (z1m R k n j) := by
 have hA := z5O hs hk hn j;have hAn := fun b => (hA n b).trans (if_pos rfl);have hAk := fun b => (hA k b).trans (if_neg hkn);have hAs := fun a b (h : a ≠ n) => (hA a b).trans (if_neg h);have hsA : Sh c (z0A R k n j) := hs.z8f n k _;have hlA : (z0A R k n j).length = R.length := z1n ..;have hbA := z6r hs hk hn hp hbk hbn;have hr : ent (z0A R k n j) n j = (ent R n j).fmod (ent R k j) := by rw [hAn, z8b hp]
 have hrr := z9X (x := ent R n j) hp;by_cases hz : (ent R n j).fmod (ent R k j) = 0
 · have e : z1m R k n j = z0A R k n j := by unfold z1m; rw [if_pos hz]
   rw [e];refine ⟨fun a _ h b => hAs a b h, fun b hb => (hAk b).trans (h0 b hb), by rw [hAk]; exact hp, fun b hb => ?_, ⟨1, -((ent R n j).fdiv (ent R k j)), by omega, fun b => ?_⟩, fun N hkN hnN => z0B.add hnN hkN (fun e => hkn e.symm) _ hA, fun b => ?_, fun b => z3O (hbA b) (by omega), hsA, hlA, z5t ..⟩
   · rcases Nat.lt_or_eq_of_le hb with h | h
     · rw [hAn, h0 b h, h1 b h]; simp
     · subst h; rw [hr, hz]
   · rw [hAn, Int.one_mul]; omega
   · rw [hAk]; exact z3O (hbk b) (by omega)
 · obtain ⟨M, hM⟩ : ∃ M, z0A R k n j = M := ⟨_, rfl⟩;rw [hM] at hAn hAk hAs hsA hlA hbA hr;have e : z1m R k n j = z4G M k n (z2t (ent M k j) (ent M n j)) (z4h (ent M k j) (ent M n j)) (-(ent M n j / z1j (ent M k j) (ent M n j))) (ent M k j / z1j (ent M k j) (ent M n j)) := by
    unfold z1m; rw [if_neg hz, hM]
   obtain ⟨p, hp'⟩ : ∃ p, ent M k j = p := ⟨_, rfl⟩;obtain ⟨r, hr'⟩ : ∃ r, ent M n j = r := ⟨_, rfl⟩;have hpp : p = ent R k j := hp'.symm.trans (hAk j);rw [hr'] at hr;rw [hp', hr'] at e;have hrne : r ≠ 0 := by rw [hr]; exact hz
   rw [<- hr, <- hpp] at hrr;have hrp : 0 < r := by omega
   have hg := z4q p r;have hx := ext_eq p r hrne;have hxl := z8H p r;have hyl := zaQ p r;obtain ⟨g, hgd⟩ : ∃ g, z1j p r = g := ⟨_, rfl⟩;obtain ⟨x, hxd⟩ : ∃ x, z2t p r = x := ⟨_, rfl⟩;obtain ⟨y, hyd⟩ : ∃ y, z4h p r = y := ⟨_, rfl⟩;rw [hgd] at hg hx e;rw [hxd] at hx hxl e;rw [hyd] at hx hyl e;have hgp : 0 < g := by have := hg.2.2.1 (by omega); have := hg.2.2.2; omega
   obtain ⟨p', hp1⟩ := hg.1;obtain ⟨r', hr1⟩ := hg.2.1;have hpd : p / g = p' := by rw [hp1, Int.mul_ediv_cancel_left _ (by omega)]
   have hrd : r / g = r' := by rw [hr1, Int.mul_ediv_cancel_left _ (by omega)]
   rw [hpd, hrd] at e;have hk1 : p' * x + r' * y = 1 := by
    have : g * (p' * x + r' * y) = g * 1 := by
     rw [Int.mul_add, <- Int.mul_assoc, <- Int.mul_assoc, <- hp1, <- hr1, hx]; omega
    exact Int.eq_of_mul_eq_mul_left (by omega) this
   have hp0 : p' ≠ 0 := fun h => by rw [h, Int.mul_zero] at hp1; omega
   have hmix := z7n hsA (by omega : k < M.length) (by omega : n < M.length) hkn x y (-r') p';rw [<- e] at hmix;have hmk := fun b => (hmix k b).trans (if_pos rfl);have hmn := fun b => ((hmix n b).trans (if_neg (fun h => hkn h.symm))).trans (if_pos rfl);have hms := fun a b (h : a ≠ k) (h' : a ≠ n) => ((hmix a b).trans (if_neg h)).trans (if_neg h');have hM0 : ∀ b, b < j -> ent M n b = 0 := fun b hb => by rw [hAn, h0 b hb, h1 b hb]; simp
   have hpD : p.natAbs < W ^ δ := by rw [hpp]; exact hbk j
   have hrD : r.natAbs < W ^ δ := by omega
   have hp'D : p'.natAbs <= W ^ δ := by
    have h2 : p'.natAbs <= p.natAbs := by
     rw [hp1, Int.natAbs_mul];have := Nat.mul_le_mul_right p'.natAbs (show 1 <= g.natAbs by omega);omega
    omega
   have hr'D : r'.natAbs <= W ^ δ := by
    have h2 : r'.natAbs <= r.natAbs := by
     rw [hr1, Int.natAbs_mul];have := Nat.mul_le_mul_right r'.natAbs (show 1 <= g.natAbs by omega);omega
    omega
   have bnd : ∀ (s t : Int) b, s.natAbs <= W ^ δ -> t.natAbs <= W ^ δ -> (s * ent M k b + t * ent M n b).natAbs < W ^ (u + 2 * δ + 1) := by
    intro s t b hs' ht';refine Nat.lt_of_le_of_lt (Int.natAbs_add_le _ _) ?_;rw [Int.natAbs_mul, Int.natAbs_mul];exact pw_two hs' (by rw [hAk]; exact hbk b) ht' (hbA b)
   have hspA : ∀ N, k < N -> n < N -> z0B N (ent R) N (ent M) := fun N hkN hnN => by
    rw [<- hM]; exact z0B.add hnN hkN (fun e => hkn e.symm) _ hA
   refine ⟨fun a h h' b => ?_, fun b hb => ?_, ?_, fun b hb => ?_, ?_, fun N hkN hnN => ?_, fun b => ?_, fun b => ?_, ?_, ?_, zbe ..⟩
   · rw [hms a b h h', hAs a b h']
   · rw [hmk, hAk, h0 b hb, hM0 b hb]; simp
   · rw [hmk, hp', hr', Int.mul_comm x, Int.mul_comm y, hx]; exact hgp
   · rw [hmn];rcases Nat.lt_or_eq_of_le hb with h | h
     · rw [hAk, h0 b h, hM0 b h]; simp
     · subst h;rw [hp', hr', hp1, hr1, Int.neg_mul, Int.mul_left_comm r', Int.mul_left_comm p', Int.mul_comm r' p']; omega
   · refine ⟨p', -r' + p' * (-((ent R n j).fdiv (ent R k j))), hp0, fun b => ?_⟩;rw [hmn, hAk, hAn, Int.mul_add, Int.add_mul, <- Int.mul_assoc]; omega
   · refine (hspA N hkN hnN).trans (z0B.two hkN hnN hkn (fun a h h' b => hms a b h h') hmk hmn (x' := p') (y' := -y) (z' := r') (t' := x) (fun b => ?_) (fun b => ?_))
     · rw [hmk, hmn];have : p' * (x * ent M k b + y * ent M n b) + -y * (-r' * ent M k b + p' * ent M n b) = (p' * x + r' * y) * ent M k b := by
        simp only [Int.mul_add, Int.add_mul, Int.neg_mul, Int.mul_neg, Int.neg_neg];have a1 : p' * (y * ent M n b) = y * (p' * ent M n b) := Int.mul_left_comm ..;have a2 : y * (r' * ent M k b) = r' * y * ent M k b := by rw [<- Int.mul_assoc, Int.mul_comm y]
        have a3 : p' * (x * ent M k b) = p' * x * ent M k b := (Int.mul_assoc ..).symm;omega
       rw [this, hk1, Int.one_mul]
     · rw [hmk, hmn];have : r' * (x * ent M k b + y * ent M n b) + x * (-r' * ent M k b + p' * ent M n b) = (p' * x + r' * y) * ent M n b := by
        simp only [Int.mul_add, Int.add_mul, Int.neg_mul, Int.mul_neg];have a1 : r' * (x * ent M k b) = x * (r' * ent M k b) := Int.mul_left_comm ..;have a2 : r' * (y * ent M n b) = r' * y * ent M n b := (Int.mul_assoc ..).symm;have a3 : x * (p' * ent M n b) = p' * x * ent M n b := by rw [<- Int.mul_assoc, Int.mul_comm x]
        omega
       rw [this, hk1, Int.one_mul]
   · rw [hmk]; exact bnd x y b (by omega) (by omega)
   · rw [hmn]; exact bnd (-r') p' b (by rw [Int.natAbs_neg]; exact hr'D) hp'D
   · rw [e]; exact hsA.zcl k n _ _ _ _
   · exact z3D ..
/-! put. -/
theorem z94 (R : List Hd) {n k : Nat} (hk : k < n) : (z1K R n).getD k 0 = z0r R k := by
 unfold z1K; simp [hk]
theorem z8i {c n B δ u : Nat} {l : Nat -> Nat} {R : List Hd} (hs : Sh c R) (hn : n <= R.length) (hE : Ech n c (ent R) l) (hu : ∀ a b, (ent R a b).natAbs < W ^ u) (hb : u + n * δ <= B)
 (hD : ∀ E', z1a n c E' l -> z0B n (ent R) n E' -> ∀ i, i < n -> ∀ j, (E' i j).natAbs < W ^ δ) : ∃ R', z3m B c (z1K R n) n n R R' /\ zcU n c n l R R' := by
 have hls : ∀ k, k < n -> (z1K R n).getD k 0 = l k := fun k hk => by
  rw [z94 R hk];exact z8m (by omega) hs (hE.zero k hk) (by have := hE.pos k hk; omega)
 have h1 := z5j hls n R (Nat.le_refl _) hs hn hE (fun i k h1 h2 h3 => by omega);exact ⟨_, zaR (δ := δ) (u := u) hls hb n R (Nat.le_refl _) hs hn hE (fun i k h1 h2 h3 => by omega) (fun a b => z3O (hu a b) (by omega)) (fun a _ b => hu a b) (hD _ h1.z1y h1.sp), h1⟩
theorem z6S {a : Nat} : ∀ (n : Nat) (R : List Hd), a <= n -> n < R.length -> ∀ i b, ent (z0u a n R) i b = if i < a then ent R i b else if i = a then ent R n b else if i <= n then ent R (i - 1) b else ent R i b
 | 0, R, ha, hn, i, b => by
  obtain rfl : a = 0 := by omega
  unfold z0u;by_cases h : i = 0
  · subst h; simp
  · rw [if_neg (by omega), if_neg h, if_neg (by omega)]
 | n + 1, R, ha, hn, i, b => by
  unfold z0u;by_cases h : n + 1 <= a
  · obtain rfl : a = n + 1 := by omega
    rw [if_pos h];by_cases h1 : i < n + 1
    · rw [if_pos h1]
    · rw [if_neg h1];by_cases h2 : i = n + 1
      · subst h2; rw [if_pos rfl]
      · rw [if_neg h2, if_neg (by omega)]
  · rw [if_neg h, z6S n _ (by omega) (by rw [z0G]; omega)];have hsw := fun x => z4D (R := R) (i := n + 1) (j := n) hn (by omega) x b;rw [hsw, hsw, hsw];by_cases h1 : i < a
    · rw [if_pos h1, if_pos h1];unfold swp; rw [if_neg (by omega), if_neg (by omega)]
    · rw [if_neg h1, if_neg h1];by_cases h2 : i = a
      · rw [if_pos h2, if_pos h2];unfold swp; rw [if_pos rfl]
      · rw [if_neg h2, if_neg h2];by_cases h3 : i <= n
        · rw [if_pos h3, if_pos (by omega)];unfold swp; rw [if_neg (by omega), if_neg (by omega)]
        · rw [if_neg h3];by_cases h4 : i = n + 1
          · subst h4; rw [if_pos (by omega)];unfold swp; rw [if_neg (by omega), if_pos rfl]; rfl
          · rw [if_neg (by omega : ¬ i <= n + 1)];unfold swp; rw [if_neg (by omega), if_neg h4]
theorem z9c {c a : Nat} : ∀ (n : Nat) (R : List Hd), Sh c R -> Sh c (z0u a n R)
 | 0, R, h => h
 | n + 1, R, h => by
  unfold z0u; split
  · exact h
  · exact z9c n _ (h.z8B _ _)
structure PI (c n δ u s : Nat) (l : Nat -> Nat) (last : Int) (E0 : Nat -> Nat -> Int) (v0 : Nat -> Int) (Ro R : List Hd) : Prop where
 sh : Sh c R
 len : R.length = Ro.length
 ech : Ech n c (ent R) l
 sn : s <= n
 lo : ∀ i, i < s -> (l i : Int) <= last
 hi : ∀ i, s <= i -> i < n -> last < (l i : Int)
 un : ∀ i, s <= i -> i < n -> ∀ b, ent R i b = E0 i b
 z : ∀ b : Nat, (b : Int) <= last -> ent R n b = 0
 bd : ∀ a b, (ent R a b).natAbs < W ^ u
 cb : ∃ (t : Int) (w : Nat -> Int), t ≠ 0 /\ Sp n E0 w /\ ∀ b, ent R n b = t * v0 b + w b
 sp : z0B (n + 1) (ent Ro) (n + 1) (ent R)
 oth : ∀ a, n < a -> ∀ b, ent R a b = ent Ro a b
structure zbL (c n : Nat) (E0 : Nat -> Nat -> Int) (v0 : Nat -> Int) (Ro : List Hd) (b : Bool) (R' : List Hd) : Prop where
 sh : Sh c R'
 len : R'.length = Ro.length
 oth : ∀ a, n < a -> ∀ b, ent R' a b = ent Ro a b
 no : b = false -> (∃ l', z1a n c (ent R') l') /\ (∀ b, ent R' n b = 0) /\ z0B (n + 1) (ent Ro) n (ent R')
 yes : b = true -> (∃ l', z1a (n + 1) c (ent R') l') /\ z0B (n + 1) (ent Ro) (n + 1) (ent R') /\ ∀ s : Int, Sp n E0 (fun j => s * v0 j) -> s = 0
theorem zcS {n s j : Nat} {l : Nat -> Nat} (h : s <= n) : ∃ a, s <= a /\ a <= n /\ (∀ i, s <= i -> i < a -> l i < j) /\ (a = n ∨ (a < n /\ j <= l a)) := by
 obtain ⟨f, hf⟩ : ∃ f, n - s = f := ⟨_, rfl⟩;induction f generalizing s with
 | zero => exact ⟨s, Nat.le_refl _, h, fun i h1 h2 => by omega, .inl (by omega)⟩
 | succ f ih =>
  by_cases hj : j <= l s
  · exact ⟨s, Nat.le_refl _, h, fun i h1 h2 => by omega, .inr ⟨by omega, hj⟩⟩
  · obtain ⟨a, h1, h2, h3, h4⟩ := ih (s := s + 1) (by omega) (by omega);refine ⟨a, by omega, h2, fun i hi hia => ?_, h4⟩;by_cases e : i = s
    · subst e; omega
    · exact h3 i (by omega) hia
theorem zaB {c n a j : Nat} {l : Nat -> Nat} {E F : Nat -> Nat -> Int} (h : Ech n c E l) (ha : a <= n) (hlo : ∀ i, i < a -> l i < j) (hhi : ∀ i, a <= i -> i < n -> j < l i) (hj : j < c) (h0 : ∀ b, b < j -> E n b = 0) (hp : 0 < E n j)
 (hF : ∀ i b, i <= n -> F i b = if i < a then E i b else if i = a then E n b else E (i - 1) b) : Ech (n + 1) c F (fun i => if i < a then l i else if i = a then j else l (i - 1)) := by
 refine ⟨fun i k hik hk => ?_, fun i hi => ?_, fun i hi b hb => ?_, fun i hi => ?_⟩
 · show (if i < a then l i else if i = a then j else l (i - 1)) < (if k < a then l k else if k = a then j else l (k - 1));by_cases h1 : k < a
   · rw [if_pos h1, if_pos (by omega)]; exact h.inc i k hik (by omega)
   · rw [if_neg h1];by_cases h2 : k = a
     · rw [if_pos h2, if_pos (by omega)]; exact hlo i (by omega)
     · rw [if_neg h2];by_cases h3 : i < a
       · rw [if_pos h3]; exact h.inc i (k - 1) (by omega) (by omega)
       · rw [if_neg h3];by_cases h4 : i = a
         · rw [if_pos h4]; exact hhi (k - 1) (by omega) (by omega)
         · rw [if_neg h4]; exact h.inc (i - 1) (k - 1) (by omega) (by omega)
 · show (if i < a then l i else if i = a then j else l (i - 1)) < c;split
   · exact h.lt i (by omega)
   · split
     · exact hj
     · exact h.lt (i - 1) (by omega)
 · rw [hF i b (by omega)];have hb : b < (if i < a then l i else if i = a then j else l (i - 1)) := hb;split at hb
   · rename_i h1; rw [if_pos h1]; exact h.zero i (by omega) b hb
   · rename_i h1; rw [if_neg h1];split at hb
     · rename_i h2; rw [if_pos h2]; exact h0 b hb
     · rename_i h2; rw [if_neg h2]; exact h.zero (i - 1) (by omega) b hb
 · rw [hF i _ (by omega)];show 0 < (if i < a then E i (if i < a then l i else if i = a then j else l (i - 1)) else if i = a then E n (if i < a then l i else if i = a then j else l (i - 1)) else E (i - 1) (if i < a then l i else if i = a then j else l (i - 1)));split
   · exact h.pos i (by omega)
   · split
     · exact hp
     · exact h.pos (i - 1) (by omega)
theorem z0B.perm {n a : Nat} {E F : Nat -> Nat -> Int} (ha : a <= n) (hF : ∀ i b, i <= n -> F i b = if i < a then E i b else if i = a then E n b else E (i - 1) b) : z0B (n + 1) E (n + 1) F := by
 refine ⟨fun k hk => ?_, fun k hk => ?_⟩
 · by_cases h1 : k < a
   · exact (Sp.row F hk).congr (fun b => by rw [hF k b (by omega), if_pos h1])
   · by_cases h2 : k = n
     · subst h2;exact (Sp.row F (show a < k + 1 by omega)).congr (fun b => by rw [hF a b (by omega), if_neg (by omega), if_pos rfl])
     · exact (Sp.row F (show k + 1 < n + 1 by omega)).congr (fun b => by rw [hF (k + 1) b (by omega), if_neg (by omega), if_neg (by omega)]; rfl)
 · by_cases h1 : k < a
   · exact (Sp.row E hk).congr (fun b => by rw [hF k b (by omega), if_pos h1])
   · by_cases h2 : k = a
     · exact (Sp.row E (show n < n + 1 by omega)).congr (fun b => by rw [hF k b (by omega), if_neg h1, if_pos h2])
     · exact (Sp.row E (show k - 1 < n + 1 by omega)).congr (fun b => by rw [hF k b (by omega), if_neg h1, if_neg h2])
theorem z0B.neg {N n : Nat} {E F : Nat -> Nat -> Int} (hn : n < N) (hs : ∀ a, a ≠ n -> ∀ b, F a b = E a b) (h : ∀ b, F n b = - E n b) : z0B N E N F := by
 refine ⟨fun k hk => ?_, fun k hk => ?_⟩
 · by_cases e : k = n
   · subst e; exact ((Sp.row F hk).smul (-1)).congr (fun b => by rw [h]; omega)
   · exact (Sp.row F hk).congr (fun b => (hs k e b).symm)
 · by_cases e : k = n
   · subst e; exact ((Sp.row E hk).smul (-1)).congr (fun b => by rw [h]; omega)
   · exact (Sp.row E hk).congr (fun b => hs k e b)
theorem z6s {c n δ B U : Nat} {l : Nat -> Nat} {E0 : Nat -> Nat -> Int} {v0 : Nat -> Int} {Ro : List Hd} (hn : n < Ro.length) (hH0 : Ech n c E0 l) (hδ : ∀ a, a < n -> ∀ b, (E0 a b).natAbs < W ^ δ) (hUB : U + (n + 1) * δ <= B)
 (hZ : ∀ E' l', z1a n c E' l' -> z0B (n + 1) (ent Ro) n E' -> ∀ i, i < n -> ∀ j, (E' i j).natAbs < W ^ δ)
 (hS : (∀ s : Int, Sp n E0 (fun j => s * v0 j) -> s = 0) -> ∀ E' l', z1a (n + 1) c E' l' -> z0B (n + 1) (ent Ro) (n + 1) E' -> ∀ i, i < n + 1 -> ∀ j, (E' i j).natAbs < W ^ δ)
 (s u at_ : Nat) (last : Int) (R : List Hd) (hI : PI c n δ u s l last E0 v0 Ro R) (hat : at_ <= s) (hu : u + (n - s) * (2 * δ + 1) <= U)
 (hnext : ∀ a, s <= a -> a < n -> ∀ R1 u1, PI c n δ u1 (a + 1) l (l a) E0 v0 Ro R1 -> u1 + (n - (a + 1)) * (2 * δ + 1) <= U -> ∃ b R', z4n B c n a (l a) R1 b R' /\ zbL c n E0 v0 Ro b R') :
 ∃ b R', z4n B c n at_ last R b R' /\ zbL c n E0 v0 Ro b R' := by
 have hnR : n < R.length := by rw [hI.len]; exact hn
 have hle := z9u hnR hI.sh;have huB : u <= B := by have := Nat.zero_le ((n - s) * (2 * δ + 1)); have := Nat.zero_le ((n + 1) * δ); omega
 have hFit : Fit B c R := Fit.of hI.sh (fun a b => z3O (hI.bd a b) huB);have hnδ : n * δ <= (n + 1) * δ := Nat.mul_le_mul_right _ (by omega);have huU : u <= U := by have := Nat.zero_le ((n - s) * (2 * δ + 1)); omega
 by_cases hc : z0r R n = c
 · -- nothing is left
   have hz : ∀ b, ent R n b = 0 := fun b => by
    by_cases h : b < c
    · exact hle.2.1 b (by omega)
    · exact hI.sh.wide n (by omega)
   have hspz : z0B (n + 1) (ent R) n (ent R) := by
    refine ⟨fun k hk => ?_, fun k hk => Sp.row _ (by omega)⟩;by_cases e : k = n
    · subst e; exact (Sp.zero _ _).congr hz
    · exact Sp.row _ (by omega)
   obtain ⟨R', h1, h2⟩ := z8i (B := B) (δ := δ) hI.sh (by omega : n <= R.length) hI.ech hI.bd (by omega) (fun E' hE' hsp => hZ E' l hE' (hI.sp.trans (hspz.trans hsp)));exact ⟨false, R', .zero hFit (.inl hc) h1, h2.sh, h2.len.trans hI.len, fun a ha b => (h2.same a (by omega) b).trans (hI.oth a ha b), fun _ => ⟨⟨l, h2.z1y⟩, fun b => (h2.same n (Nat.le_refl _) b).trans (hz b), hI.sp.trans (hspz.trans h2.sp)⟩, fun h => by cases h⟩
 · have hjc : z0r R n < c := by have := hle.1; omega
   obtain ⟨j, hj⟩ : ∃ j, z0r R n = j := ⟨_, rfl⟩;rw [hj] at hjc hc hle;have hvj := hle.2.2 hjc;have hlast : last < (j : Int) := by
    by_cases h : last < (j : Int)
    · exact h
    · exact absurd (hI.z j (by omega)) hvj
   obtain ⟨a, hsa, han, hlt, hend⟩ := zcS (l := l) (j := j) hI.sn;have hlead : ∀ i, i < n -> z0r R i = l i := fun i hi => z8m (by omega) hI.sh (hI.ech.zero i hi) (by have := hI.ech.pos i hi; omega);have hlo : ∀ i, i < a -> l i < j := fun i hi => by
    by_cases h : s <= i
    · exact hlt i h hi
    · have := hI.lo i (by omega); omega
   by_cases hm : a < n /\ l a = j
   · obtain ⟨ha, hla⟩ := hm;have hrow : ∀ b, (ent R a b).natAbs < W ^ δ := fun b => by rw [hI.un a hsa ha]; exact hδ a ha b
     have hp : 0 < ent R a j := by rw [<- hla]; exact hI.ech.pos a ha
     have h0a : ∀ b, b < j -> ent R a b = 0 := fun b hb => hI.ech.zero a ha b (by omega);have hok := zds (j := j) hI.sh (by omega : a < R.length) hnR (by omega) hp h0a hle.2.1 hrow (hI.bd n);have hA := z5O hI.sh (by omega : a < R.length) hnR j;have hbA := z6r (j := j) hI.sh (by omega : a < R.length) hnR hp hrow (hI.bd n);have h2n : (n - s) * (2 * δ + 1) = (n - (a + 1)) * (2 * δ + 1) + (a + 1 - s) * (2 * δ + 1) := by rw [<- Nat.add_mul]; congr 1; omega
     have h2a : 2 * δ + 1 <= (a + 1 - s) * (2 * δ + 1) := by have := Nat.mul_le_mul_right (2 * δ + 1) (show 1 <= a + 1 - s by omega); omega
     have hbud : u + 2 * δ + 1 + (n - (a + 1)) * (2 * δ + 1) <= U := by omega
     have hudB : u + 2 * δ + 1 <= B := by
      have := Nat.zero_le ((n - (a + 1)) * (2 * δ + 1)); have := Nat.zero_le ((n + 1) * δ); omega
     have hFitA : Fit B c (z0A R a n j) := Fit.of (hI.sh.z8f n a _) (fun x b => by
      by_cases e : x = n
      · subst e; exact z3O (hbA b) (by omega)
      · rw [hA, if_neg e]; exact z3O (hI.bd x b) huB)
     have hpA : ent (z0A R a n j) a j ≠ 0 := by rw [hA, if_neg (by omega)]; omega
     have hPI : PI c n δ (u + 2 * δ + 1) (a + 1) l (l a) E0 v0 Ro (z1m R a n j) := by
      refine ⟨hok.sh, hok.len.trans hI.len, ?_, by omega, ?_, ?_, ?_, ?_, ?_, ?_, hI.sp.trans (hok.sp (n + 1) (by omega) (by omega)), ?_⟩
      · refine ⟨hI.ech.inc, hI.ech.lt, fun i hi b hb => ?_, fun i hi => ?_⟩
        · by_cases e : i = a
          · subst e; exact hok.low b (by omega)
          · rw [hok.same i e (by omega)]; exact hI.ech.zero i hi b hb
        · by_cases e : i = a
          · subst e; rw [hla]; exact hok.piv
          · rw [hok.same i e (by omega)]; exact hI.ech.pos i hi
      · intro i hi;by_cases e : i = a
        · subst e; exact Int.le_refl _
        · have := hI.ech.inc i a (by omega) ha; omega
      · intro i hi hin;have := hI.ech.inc a i (by omega) hin; omega
      · intro i hi hin b;rw [hok.same i (by omega) (by omega)]; exact hI.un i (by omega) hin b
      · intro b hb;exact hok.gone b (by omega)
      · intro x b;by_cases e : x = a
        · subst e; exact hok.bk b
        · by_cases e' : x = n
          · subst e'; exact hok.bn b
          · rw [hok.same x e e']; exact z3O (hI.bd x b) (by omega)
      · obtain ⟨t, w, ht, hw, hv⟩ := hI.cb;obtain ⟨t', s', ht', hv'⟩ := hok.comb;refine ⟨t' * t, fun b => t' * w b + s' * E0 a b, fun e => ?_, (hw.smul t').add ((Sp.row E0 ha).smul s'), fun b => ?_⟩
        · rcases Int.mul_eq_zero.1 e with e | e
          · exact ht' e
          · exact ht e
        · show ent (z1m R a n j) n b = t' * t * v0 b + (t' * w b + s' * E0 a b);rw [hv', hv, hI.un a hsa ha, Int.mul_add, Int.mul_assoc]; omega
      · intro x hx b;rw [hok.same x (by omega) (by omega)]; exact hI.oth x hx b
     obtain ⟨b, R', h1, h2⟩ := hnext a hsa ha (z1m R a n j) (u + 2 * δ + 1) hPI hbud;refine ⟨b, R', .meet hFit (by rw [hj]; exact hjc) (by rw [hj]; exact hlast) a (by omega) ha (fun i h3 h4 => ?_) ?_ ?_ ?_ ?_ ?_, h2⟩
     · rw [hj, hlead i (by omega)]; exact hlo i h4
     · rw [hj, hlead a ha, hla]
     · rw [hj]; omega
     · rw [hj]; exact hFitA
     · rw [hj]; exact hpA
     · rw [hj]; rw [hla] at h1; exact h1
   · have hhi : ∀ i, a <= i -> i < n -> j < l i := fun i h1 h2 => by
      rcases hend with h3 | ⟨h3, h4⟩
      · omega
      · by_cases e : i = a
        · subst e;have : l i ≠ j := fun h => hm ⟨h3, h⟩;omega
        · have := hI.ech.inc a i (by omega) h2; omega
     obtain ⟨R1, hR1⟩ : ∃ R1, (if ent R n (z0r R n) < 0 then z0L R n else R) = R1 := ⟨_, rfl⟩;have hR1e : ∀ x, x ≠ n -> ∀ b, ent R1 x b = ent R x b := fun x hx b => by
      rw [<- hR1]; split
      · rw [z4w hnR, if_neg hx]
      · rfl
     have hR1n : (∀ b, (ent R1 n b).natAbs = (ent R n b).natAbs) /\ 0 < ent R1 n j /\ ((∀ b, ent R1 n b = ent R n b) ∨ (∀ b, ent R1 n b = - ent R n b)) := by
      rw [<- hR1]; split
      · rename_i h;rw [hj] at h;have h1 := fun b => (z4w hnR n b).trans (if_pos rfl);exact ⟨fun b => by rw [h1, Int.natAbs_neg], by rw [h1]; omega, .inr h1⟩
      · rename_i h;rw [hj] at h;exact ⟨fun b => rfl, by omega, .inl (fun b => rfl)⟩
     have hR1s : Sh c R1 := by
      rw [<- hR1]; split
      · exact hI.sh.za3 n
      · exact hI.sh
     have hR1l : R1.length = R.length := by
      rw [<- hR1]; split
      · exact z2I ..
      · rfl
     have hR1b : ∀ x b, (ent R1 x b).natAbs < W ^ u := fun x b => by
      by_cases e : x = n
      · subst e; rw [hR1n.1]; exact hI.bd x b
      · rw [hR1e x e]; exact hI.bd x b
     have hsp1 : z0B (n + 1) (ent R) (n + 1) (ent R1) := by
      rcases hR1n.2.2 with h | h
      · exact z0B.of_eq (fun k hk b => by
         by_cases e : k = n
         · subst e; exact (h b).symm
         · exact (hR1e k e b).symm)
      · exact z0B.neg (by omega) hR1e h
     have hsw := z6S (a := a) n R1 han (by omega);obtain ⟨R2, hR2⟩ : ∃ R2, z0u a n R1 = R2 := ⟨_, rfl⟩;have hs2 : Sh c R2 := hR2 ▸ z9c n R1 hR1s;have hl2 : R2.length = R.length := by rw [<- hR2, z3l, hR1l]
     rw [hR2] at hsw;have hsw2 : ∀ i b, i <= n -> ent R2 i b = if i < a then ent R1 i b else if i = a then ent R1 n b else ent R1 (i - 1) b := fun i b hi => by
      rw [hsw];by_cases h1 : i < a
      · rw [if_pos h1, if_pos h1]
      · rw [if_neg h1, if_neg h1];by_cases h2 : i = a
        · rw [if_pos h2, if_pos h2]
        · rw [if_neg h2, if_neg h2, if_pos hi]
     have hb2 : ∀ x b, (ent R2 x b).natAbs < W ^ u := fun x b => by
      rw [hsw]; split
      · exact hR1b ..
      · split
        · exact hR1b ..
        · split <;> exact hR1b ..
     have hE1 : Ech n c (ent R1) l := hI.ech.congr (fun x hx b => hR1e x (by omega) b);have h10 : ∀ b, b < j -> ent R1 n b = 0 := fun b hb => by
      have h1 := hR1n.1 b;rw [hle.2.1 b hb] at h1; omega
     have hE2 := zaB hE1 han hlo hhi hjc h10 hR1n.2.1 hsw2;have hsp2 := z0B.perm han hsw2;have hind : ∀ t : Int, Sp n E0 (fun b => t * v0 b) -> t = 0 := by
      intro t ht;obtain ⟨t', w, ht', hw, hv⟩ := hI.cb;by_cases h0 : t = 0
      · exact h0
      · exfalso;have hin : Sp n E0 (fun b => t * ent R n b) := ((ht.smul t').add (hw.smul t)).congr (fun b => by
         rw [hv, Int.mul_add, <- Int.mul_assoc, <- Int.mul_assoc, Int.mul_comm t' t])
        obtain ⟨k, hk, hlk, _⟩ := hH0.lead hin (q := j) (fun e => by
         rcases Int.mul_eq_zero.1 e with e | e
         · exact h0 e
         · exact hvj e) (fun b hb => by
           show t * ent R n b = 0;rw [hle.2.1 b hb, Int.mul_zero])
        by_cases hka : k < a
        · have := hlo k hka; omega
        · have := hhi k (by omega) hk; omega
     obtain ⟨R', h1, h2⟩ := z8i (B := B) (δ := δ) (n := n + 1) hs2 (by omega) hE2 hb2 (by omega) (fun E' hE' hsp => hS hind E' _ hE' (hI.sp.trans (hsp1.trans (hsp2.trans hsp))));refine ⟨true, R', .stop hFit (by rw [hj]; exact hjc) (by rw [hj]; exact hlast) a (by omega) han (fun i h3 h4 => ?_) ?_ ?_ ?_, h2.sh, h2.len.trans (hl2.trans hI.len), fun x hx b => ?_, fun h => (by cases h), fun _ => ⟨⟨_, h2.z1y⟩, hI.sp.trans (hsp1.trans (hsp2.trans h2.sp)), hind⟩⟩
     · rw [hj, hlead i (by omega)]; exact hlo i h4
     · rcases Nat.lt_or_eq_of_le han with h | h
       · refine .inr ?_;rw [hj, hlead a h]; exact hhi a (Nat.le_refl _) h
       · exact .inl h
     · rw [hR1, hR2]; exact Fit.of hs2 (fun a b => z3O (hb2 a b) huB)
     · rw [hR1, hR2]; exact h1
     · rw [h2.same x (by omega), hsw, if_neg (by omega), if_neg (by omega), if_neg (by omega), hR1e x (by omega)];exact hI.oth x hx b
theorem zdk {c n δ B U : Nat} {l : Nat -> Nat} {E0 : Nat -> Nat -> Int} {v0 : Nat -> Int} {Ro : List Hd} (hn : n < Ro.length) (hH0 : Ech n c E0 l) (hδ : ∀ a, a < n -> ∀ b, (E0 a b).natAbs < W ^ δ) (hUB : U + (n + 1) * δ <= B)
 (hZ : ∀ E' l', z1a n c E' l' -> z0B (n + 1) (ent Ro) n E' -> ∀ i, i < n -> ∀ j, (E' i j).natAbs < W ^ δ)
 (hS : (∀ s : Int, Sp n E0 (fun j => s * v0 j) -> s = 0) -> ∀ E' l', z1a (n + 1) c E' l' -> z0B (n + 1) (ent Ro) (n + 1) E' -> ∀ i, i < n + 1 -> ∀ j, (E' i j).natAbs < W ^ δ) :
 ∀ (f s u at_ : Nat) (last : Int) (R : List Hd), n - s <= f -> PI c n δ u s l last E0 v0 Ro R -> at_ <= s -> u + (n - s) * (2 * δ + 1) <= U -> ∃ b R', z4n B c n at_ last R b R' /\ zbL c n E0 v0 Ro b R' := by
 intro f;induction f with
 | zero =>
  intro s u at_ last R hf hI hat hu;exact z6s hn hH0 hδ hUB hZ hS s u at_ last R hI hat hu (fun a ha1 ha2 => by omega)
 | succ f ih =>
  intro s u at_ last R hf hI hat hu;refine z6s hn hH0 hδ hUB hZ hS s u at_ last R hI hat hu (fun a ha1 ha2 R1 u1 hI1 hu1 => ?_);exact ih (a + 1) u1 a (l a) R1 (by omega) hI1 (by omega) hu1
/-! Reduce. -/
def z1Z (N m : Nat) : Nat := 2 * (m + 1) * N + 1
theorem z5w {n N m : Nat} (hn : n <= N) (hN : N <= 1048576) : zb3 n (W ^ m) < W ^ z1Z N m := by
 unfold zb3 z1Z;rcases Nat.eq_zero_or_pos n with h | h
 · subst h; simp; exact z1v _
 · have h1 : 2 * n * W ^ m + 1 <= W ^ (m + 1) := by
    rw [Nat.pow_succ, Nat.mul_comm (W ^ m)];have h2 : (2 * n + 1) * W ^ m <= W * W ^ m := Nat.mul_le_mul_right _ (by unfold W; omega);have h3 : (2 * n + 1) * W ^ m = 2 * n * W ^ m + W ^ m := by rw [Nat.add_mul, Nat.one_mul]
    have := z1v m;omega
   have h2 : (2 * n * W ^ m + 1) ^ (n - 1) <= W ^ ((m + 1) * (n - 1)) := by
    rw [Nat.pow_mul]; exact Nat.pow_le_pow_left h1 _
   have h3 : n * ((2 * n * W ^ m + 1) ^ (n - 1) * W ^ m) <= W ^ ((m + 1) * n) := by
    have h4 : (2 * n * W ^ m + 1) ^ (n - 1) * W ^ m <= W ^ ((m + 1) * (n - 1)) * W ^ m := Nat.mul_le_mul_right _ h2;have h5 : n * ((2 * n * W ^ m + 1) ^ (n - 1) * W ^ m) <= W * (W ^ ((m + 1) * (n - 1)) * W ^ m) := Nat.mul_le_mul (by unfold W; omega) h4;refine Nat.le_trans h5 ?_;have e : W * (W ^ ((m + 1) * (n - 1)) * W ^ m) = W ^ ((m + 1) * (n - 1) + m + 1) := by
     rw [<- Nat.pow_add, Nat.mul_comm W, <- Nat.pow_succ]
    rw [e];have e2 : (m + 1) * (n - 1) + m + 1 = (m + 1) * n := by
     have : n = n - 1 + 1 := by omega
     rw [Nat.add_assoc]
     conv => rhs; rw [this, Nat.mul_add, Nat.mul_one]
    rw [e2]; exact Nat.le_refl _
   obtain ⟨D, hD⟩ : ∃ D, n * ((2 * n * W ^ m + 1) ^ (n - 1) * W ^ m) = D := ⟨_, rfl⟩;rw [hD] at h3 ⊢;have h6 : D * D <= W ^ (2 * (m + 1) * n) := by
    have := Nat.mul_le_mul h3 h3;rw [<- Nat.pow_add] at this;have e : (m + 1) * n + (m + 1) * n = 2 * (m + 1) * n := by rw [Nat.mul_assoc]; omega
    rwa [e] at this
   have h7 : n * D * D < W * W ^ (2 * (m + 1) * n) := by
    rw [Nat.mul_assoc];refine Nat.lt_of_le_of_lt (Nat.mul_le_mul_left n h6) ?_;exact Nat.mul_lt_mul_of_pos_right (by unfold W; omega) (z1v _)
   refine Nat.lt_of_lt_of_le h7 ?_;rw [Nat.mul_comm W, <- Nat.pow_succ];refine zcQ ?_;have : 2 * (m + 1) * n <= 2 * (m + 1) * N := Nat.mul_le_mul_left _ hn;omega
def z4j (N m : Nat) : Nat := z1Z N m + N * (2 * z1Z N m + 1) + (N + 1) * z1Z N m
theorem z92.snoc {n : Nat} {a E0 : Nat -> Nat -> Int} {v : Nat -> Int} (h : z92 n a) (ha : ∀ k, k < n -> Sp n E0 (a k)) (hv : ∀ s : Int, Sp n E0 (fun j => s * v j) -> s = 0) : z92 (n + 1) (fun k => if k < n then a k else v) := by
 intro x hx k hk;have e : ∀ j, sm n (fun k => x k * a k j) + x n * v j = 0 := fun j => by
  have := hx j;unfold sm at this;rw [z0z (g := fun k => x k * a k j) (fun k hk => by simp [hk])] at this;simpa using this
 have h0 : x n = 0 := by
  refine hv _ (((Sp.sm (x := fun k => - x k) ha)).congr (fun j => ?_));have h1 := e j;have h2 : sm n (fun k => - x k * a k j) = - sm n (fun k => x k * a k j) := by
   have := z3j n (-1) (fun k => x k * a k j);rw [Int.neg_one_mul] at this;rw [<- this]; exact z0z (fun k _ => by rw [Int.neg_mul, Int.neg_one_mul])
  rw [h2]; omega
 by_cases hkn : k = n
 · subst hkn; exact h0
 · refine h x (fun j => ?_) k (by omega);have := e j;rw [h0] at this; simpa using this
theorem z9p : ∀ (k i : Nat) (R : List Hd), i + k < R.length -> ∀ a b, ent (z6c k i R) a b = if a < i then ent R a b else if a < i + k then ent R (a + 1) b else if a = i + k then ent R i b else ent R a b
 | 0, i, R, h, a, b => by
  unfold z6c;by_cases h1 : a < i
  · rw [if_pos h1]
  · rw [if_neg h1, if_neg (by omega)];by_cases h2 : a = i + 0
    · rw [if_pos h2]; subst h2; rfl
    · rw [if_neg h2]
 | k + 1, i, R, h, a, b => by
  unfold z6c;rw [z9p k (i + 1) _ (by rw [z0G]; omega)];have hsw := fun x => z4D (R := R) (i := i) (j := i + 1) (by omega) (by omega) x b;rw [hsw, hsw, hsw];by_cases h1 : a < i
  · rw [if_pos (by omega), if_pos h1];unfold swp; rw [if_neg (by omega), if_neg (by omega)]
  · rw [if_neg h1];by_cases h2 : a = i
    · rw [if_pos (by omega), if_pos (by omega)];unfold swp; rw [if_neg (by omega), if_pos h2, h2]
    · rw [if_neg (by omega)];by_cases h3 : a < i + (k + 1)
      · rw [if_pos (by omega), if_pos h3];unfold swp; rw [if_neg (by omega), if_neg (by omega)]
      · rw [if_neg (by omega), if_neg h3];by_cases h4 : a = i + (k + 1)
        · rw [if_pos (by omega), if_pos h4];unfold swp; rw [if_pos rfl]
        · rw [if_neg (by omega), if_neg h4];unfold swp; rw [if_neg (by omega), if_neg (by omega)]
theorem zc8 {c : Nat} : ∀ (k i : Nat) (R : List Hd), Sh c R -> Sh c (z6c k i R)
 | 0, i, R, h => h
 | k + 1, i, R, h => zc8 k (i + 1) _ (h.z8B _ _)
theorem z6j : ∀ (k i : Nat) (R : List Hd), (z6c k i R).length = R.length
 | 0, i, R => rfl
 | k + 1, i, R => (z6j k (i + 1) _).trans (z0G ..)
theorem z1a.congr {n c : Nat} {E F : Nat -> Nat -> Int} {l : Nat -> Nat} (h : z1a n c E l) (e : ∀ a, a < n -> ∀ b, F a b = E a b) : z1a n c F l :=
 ⟨h.toEch.congr e, fun i k hik hk => by rw [e i (by omega), e k hk]; exact h.red i k hik hk⟩
structure RI (c m : Nat) (Ro : List Hd) (d e : Nat) (R : List Hd) : Prop where
 sh : Sh c R
 len : R.length = Ro.length
 de : d <= e
 el : e <= Ro.length
 z1y : ∃ l, z1a d c (ent R) l
 raw : ∀ i, d <= i -> i < e -> ∀ b, (ent R i b).natAbs < W ^ m
 zero : ∀ i, e <= i -> ∀ b, ent R i b = 0
 sp : z0B Ro.length (ent Ro) e (ent R)
 ind : ∃ a : Nat -> Nat -> Int, (∀ k, k < d -> Sp d (ent R) (a k)) /\ z92 d a /\ ∀ k b, k < d -> (a k b).natAbs <= W ^ m
structure z7a (c D : Nat) (Ro : List Hd) (k : Nat) (R' : List Hd) : Prop where
 sh : Sh c R'
 len : R'.length = Ro.length
 kl : k <= Ro.length
 z1y : ∃ l, z1a k c (ent R') l
 zero : ∀ i, k <= i -> ∀ b, ent R' i b = 0
 sp : z0B Ro.length (ent Ro) k (ent R')
 bd : ∀ i b, (ent R' i b).natAbs < W ^ D
theorem RI.done {c m N d : Nat} {Ro R : List Hd} (hI : RI c m Ro d d R) (hN : Ro.length <= N) (hN1 : N <= 1048576) : z7a c (z1Z N m) Ro d R := by
 refine ⟨hI.sh, hI.len, hI.el, hI.z1y, hI.zero, hI.sp, fun i b => ?_⟩;obtain ⟨l, hH⟩ := hI.z1y;obtain ⟨a, ha1, ha2, ha3⟩ := hI.ind;by_cases h : i < d
 · exact Nat.lt_of_le_of_lt (hH.bound ha1 ha2 (fun k j hk => ha3 k j hk) i b h) (z5w (by have := hI.el; omega) hN1)
 · rw [hI.zero i (by omega)]; simpa using z1v _
theorem zan {c m N B : Nat} {Ro : List Hd} (hN : Ro.length <= N) (hN1 : N <= 1048576) (hB : z4j N m <= B) : ∀ (f d e : Nat) (R : List Hd), e - d <= f -> RI c m Ro d e R -> ∃ k R', z58 B c d e R k R' /\ z7a c (z1Z N m) Ro k R'
 | 0, d, e, R, hf, hI => by
  have : d = e := by have := hI.de; omega
  subst this;exact ⟨d, R, .fin (Nat.le_refl _), hI.done hN hN1⟩
 | f + 1, d, e, R, hf, hI => by
  by_cases hde : d < e
  · obtain ⟨δ, hδ⟩ : ∃ δ, z1Z N m = δ := ⟨_, rfl⟩;unfold z4j at hB;rw [hδ] at hB;obtain ⟨l, hH⟩ := hI.z1y;obtain ⟨a, ha1, ha2, ha3⟩ := hI.ind;have hdl : d < Ro.length := by have := hI.el; omega
    have hmδ : m <= δ := by
     have h1 : (m + 1) * 1 <= (m + 1) * (2 * N) := Nat.mul_le_mul_left _ (by omega);rw [<- hδ]; unfold z1Z;have h2 : 2 * (m + 1) * N = (m + 1) * (2 * N) := by rw [Nat.mul_comm 2, Nat.mul_assoc]
     omega
    have hbnd : ∀ i, i < d -> ∀ b, (ent R i b).natAbs < W ^ δ := fun i hi b => by
     have := hH.bound ha1 ha2 (fun k j hk => ha3 k j hk) i b hi;exact Nat.lt_of_le_of_lt this (hδ ▸ z5w (by omega) hN1)
    have hall : ∀ x b, (ent R x b).natAbs < W ^ δ := fun x b => by
     by_cases h1 : x < d
     · exact hbnd x h1 b
     · by_cases h2 : x < e
       · exact z3O (hI.raw x (by omega) h2 b) hmδ
       · rw [hI.zero x (by omega)]; simpa using z1v δ
    have hsub : ∀ {M : Nat} {E' : Nat -> Nat -> Int}, z0B (d + 1) (ent R) M E' -> ∀ k, k < d -> Sp M E' (a k) := fun hsp k hk =>
     (ha1 k hk).trans (fun i hi => hsp.1 i (by omega))
    have hZ : ∀ E' l', z1a d c E' l' -> z0B (d + 1) (ent R) d E' -> ∀ i, i < d -> ∀ j, (E' i j).natAbs < W ^ δ := fun E' l' hE' hsp i hi j =>
     Nat.lt_of_le_of_lt (hE'.bound (hsub hsp) ha2 (fun k j hk => ha3 k j hk) i j hi) (hδ ▸ z5w (by omega) hN1)
    have hS : (∀ s : Int, Sp d (ent R) (fun j => s * ent R d j) -> s = 0) -> ∀ E' l', z1a (d + 1) c E' l' -> z0B (d + 1) (ent R) (d + 1) E' -> ∀ i, i < d + 1 -> ∀ j, (E' i j).natAbs < W ^ δ := fun hv E' l' hE' hsp i hi j => by
     have hb := hE'.bound (a := fun k => if k < d then a k else ent R d) (M := W ^ m) (fun k hk => by
      by_cases h : k < d
      · simp only [if_pos h]; exact hsub hsp k h
      · simp only [if_neg h]; exact hsp.1 d (by omega)) (ha2.snoc ha1 hv) (fun k j hk => by
      by_cases h : k < d
      · simp only [if_pos h]; exact ha3 k j h
      · simp only [if_neg h]; exact Nat.le_of_lt (hI.raw d (Nat.le_refl _) hde j)) i j hi
     exact Nat.lt_of_le_of_lt hb (hδ ▸ z5w (by omega) hN1)
    have hmulN : (d - 0) * (2 * δ + 1) <= N * (2 * δ + 1) := Nat.mul_le_mul_right _ (by omega);have hmulN2 : (d + 1) * δ <= (N + 1) * δ := Nat.mul_le_mul_right _ (by omega);obtain ⟨b, R1, hput, hok⟩ := zdk (δ := δ) (B := B) (U := δ + N * (2 * δ + 1)) (v0 := ent R d) (by rw [hI.len]; exact hdl : d < R.length) hH.toEch hbnd (by omega) hZ hS d 0 δ 0 (-1) R (by omega)
     ⟨hI.sh, rfl, hH.toEch, Nat.zero_le _, fun i hi => by omega, fun i _ _ => by omega, fun i _ _ _ => rfl, fun b hb => by omega, hall, ⟨1, fun _ => 0, by omega, Sp.zero _ _, fun b => by simp⟩, z0B.refl _ _, fun _ _ _ => rfl⟩ (Nat.le_refl _) (by omega)
    cases b
    · obtain ⟨⟨l', hH'⟩, hz, hsp⟩ := hok.no rfl;have hl1 : R1.length = R.length := hok.len;have hrot := z9p (e - 1 - d) d R1 (by rw [hl1, hI.len]; have := hI.el; omega);have e1 : d + (e - 1 - d) = e - 1 := by omega
      rw [e1] at hrot;obtain ⟨R2, hR2⟩ : ∃ R2, z6c (e - 1 - d) d R1 = R2 := ⟨_, rfl⟩;have hlo : ∀ i, i < d -> ∀ b, ent R2 i b = ent R1 i b := fun i hi b => by rw [<- hR2, hrot, if_pos hi]
      have hmid : ∀ i, d <= i -> i < e - 1 -> ∀ b, ent R2 i b = ent R (i + 1) b := fun i h1 h2 b => by
       rw [<- hR2, hrot, if_neg (by omega), if_pos h2, hok.oth (i + 1) (by omega)]
      have hsp2 : z0B Ro.length (ent Ro) (e - 1) (ent R2) := by
       refine hI.sp.trans ⟨fun k hk => ?_, fun k hk => ?_⟩
       · by_cases h1 : k <= d
         · refine (hsp.1 k (by omega)).trans (fun i hi => ?_);exact (Sp.row (ent R2) (by omega : i < e - 1)).congr (fun b => (hlo i hi b).symm)
         · refine (Sp.row (ent R2) (by omega : k - 1 < e - 1)).congr (fun b => ?_);rw [hmid (k - 1) (by omega) (by omega)]; congr 1; omega
       · by_cases h1 : k < d
         · refine ((hsp.2 k h1).congr (hlo k h1)).trans (fun i hi => Sp.row _ (by omega))
         · exact (Sp.row (ent R) (by omega : k + 1 < e)).congr (hmid k (by omega) hk)
      have hRI : RI c m Ro d (e - 1) R2 := by
       refine ⟨hR2 ▸ zc8 _ _ _ hok.sh, by rw [<- hR2, z6j, hl1, hI.len], by omega, by have := hI.el; omega, ⟨l', hH'.congr hlo⟩, fun i h3 h4 b => ?_, fun i h3 b => ?_, hsp2, ⟨a, fun k hk => ?_, ha2, ha3⟩⟩
       · rw [hmid i h3 h4]; exact hI.raw (i + 1) (by omega) (by omega) b
       · rw [<- hR2, hrot, if_neg (by omega), if_neg (by omega)];by_cases h4 : i = e - 1
         · rw [if_pos h4]; exact hz b
         · rw [if_neg h4, hok.oth i (by omega)]; exact hI.zero i (by omega) b
       · refine (hsub hsp k hk).trans (fun i hi => ?_);exact (Sp.row (ent R2) hi).congr (fun b => (hlo i hi b).symm)
      obtain ⟨k, R', h1, h2⟩ := zan hN hN1 (by unfold z4j; rw [hδ]; exact hB) f d (e - 1) R2 (by omega) hRI;exact ⟨k, R', .zero hde hput (by rw [hR2]; exact h1), h2⟩
    · obtain ⟨⟨l', hH'⟩, hsp, hv⟩ := hok.yes rfl;have hl1 : R1.length = R.length := hok.len;have hsp2 : z0B Ro.length (ent Ro) e (ent R1) := by
       refine hI.sp.trans ⟨fun k hk => ?_, fun k hk => ?_⟩
       · by_cases h1 : k < d + 1
         · exact (hsp.1 k h1).trans (fun i hi => Sp.row _ (by omega))
         · exact (Sp.row (ent R1) hk).congr (fun b => (hok.oth k (by omega) b).symm)
       · by_cases h1 : k < d + 1
         · exact (hsp.2 k h1).trans (fun i hi => Sp.row _ (by omega))
         · exact (Sp.row (ent R) hk).congr (fun b => hok.oth k (by omega) b)
      have hRI : RI c m Ro (d + 1) e R1 := by
       refine ⟨hok.sh, hl1.trans hI.len, by omega, hI.el, ⟨l', hH'⟩, fun i h3 h4 b => ?_, fun i h3 b => ?_, hsp2, ⟨fun k => if k < d then a k else ent R d, fun k hk => ?_, ha2.snoc ha1 hv, fun k b hk => ?_⟩⟩
       · rw [hok.oth i (by omega)]; exact hI.raw i (by omega) h4 b
       · rw [hok.oth i (by omega)]; exact hI.zero i h3 b
       · by_cases h : k < d
         · simp only [if_pos h]; exact hsub hsp k h
         · simp only [if_neg h]; exact hsp.1 d (by omega)
       · by_cases h : k < d
         · simp only [if_pos h]; exact ha3 k b h
         · simp only [if_neg h]; exact Nat.le_of_lt (hI.raw d (Nat.le_refl _) hde b)
      obtain ⟨k, R', h1, h2⟩ := zan hN hN1 (by unfold z4j; rw [hδ]; exact hB) f (d + 1) e R1 (by omega) hRI;exact ⟨k, R', .ok hde hput h1, h2⟩
  · have : d = e := by have := hI.de; omega
    subst this;exact ⟨d, R, .fin (Nat.le_refl _), hI.done hN hN1⟩
theorem z5J {c m N B : Nat} {Ro : List Hd} (hs : Sh c Ro) (hm : ∀ i b, (ent Ro i b).natAbs < W ^ m) (hN : Ro.length <= N) (hN1 : N <= 1048576) (hB : z4j N m <= B) : ∃ k R', z58 B c 0 Ro.length Ro k R' /\ z7a c (z1Z N m) Ro k R' :=
 zan hN hN1 hB Ro.length 0 Ro.length Ro (by omega)
  ⟨hs, rfl, Nat.zero_le _, Nat.le_refl _, ⟨fun _ => 0, ⟨fun i k _ h => by omega, fun i h => by omega, fun i h => by omega, fun i h => by omega⟩, fun i k _ h => by omega⟩, fun i _ _ b => hm i b, fun i hi b => z1U hi b, z0B.refl _ _, ⟨fun _ _ => 0, fun k h => by omega, fun x _ k h => by omega, fun k b h => by omega⟩⟩
theorem zcx {n i j : Nat} {f g : Nat -> Int} (hi : i < n) (hj : j < n) (hij : i ≠ j) (h : ∀ k, k < n -> k ≠ i -> k ≠ j -> f k = g k) (e : f i + f j = g i + g j) : sm n f = sm n g := by
 have h1 : sm n (fun k => f k - g k) = sm n (fun k => (if k = i then f k - g k else 0) + (if k = j then f k - g k else 0)) := z0z fun k hk => by
  by_cases e1 : k = i
  · have e2 : ¬ k = j := fun e2 => hij (e1.symm.trans e2);rw [if_pos e1, if_neg e2, Int.add_zero]
  · by_cases e2 : k = j
    · rw [if_neg e1, if_pos e2, Int.zero_add]
    · rw [if_neg e1, if_neg e2, h k hk e1 e2]; omega
 rw [zcL, z64, z3A i hi (fun k _ hk => if_neg hk), z3A j hj (fun k _ hk => if_neg hk), if_pos rfl, if_pos rfl] at h1;omega
theorem z8d (n : Nat) (p r : Int) (x y z : Nat -> Int) : sm n (fun q => (p * x q + r * y q) * z q) = p * sm n (fun q => x q * z q) + r * sm n (fun q => y q * z q) := by
 rw [<- z3j, <- z3j, <- z64];exact z0z fun k _ => by rw [Int.add_mul, Int.mul_assoc, Int.mul_assoc]
theorem z8n (n : Nat) (p r : Int) (x y z : Nat -> Int) : sm n (fun q => z q * (p * x q + r * y q)) = p * sm n (fun q => z q * x q) + r * sm n (fun q => z q * y q) := by
 rw [<- z3j, <- z3j, <- z64];exact z0z fun k _ => by rw [Int.mul_add, Int.mul_left_comm, Int.mul_left_comm (z k)]
structure FR (n c : Nat) (E0 E F : Nat -> Nat -> Int) : Prop where
 wa : ∀ x j, x < n -> sm n (fun k => F k x * E k j) = E0 x j
 uw : ∀ a b, a < n -> b < n -> sm n (fun q => E a (c + q) * F b q) = if a = b then 1 else 0
theorem FR.mix {n c i j : Nat} {E0 E F E' F' : Nat -> Nat -> Int} (h : FR n c E0 E F) (hi : i < n) (hj : j < n) (hij : i ≠ j) {p q r s : Int} (hd : p * s - q * r = 1)
 (hE : ∀ a b, E' a b = if a = i then p * E i b + q * E j b else if a = j then r * E i b + s * E j b else E a b)
 (hF : ∀ a b, F' a b = if a = i then s * F i b + (-r) * F j b else if a = j then (-q) * F i b + p * F j b else F a b) : FR n c E0 E' F' := by
 have hji : ¬ j = i := fun e => hij e.symm;have hij' : ¬ i = j := hij;refine ⟨fun x y hx => ?_, fun a b ha hb => ?_⟩
 · rw [<- h.wa x y hx];refine zcx hi hj hij (fun k hk k1 k2 => by rw [hE, hF, if_neg k1, if_neg k2, if_neg k1, if_neg k2]) ?_;rw [hE, hF, hE, hF, if_pos rfl, if_pos rfl, if_neg hji, if_pos rfl, if_neg hji, if_pos rfl];obtain ⟨A, hA⟩ : ∃ A, E i y = A := ⟨_, rfl⟩;obtain ⟨B, hB⟩ : ∃ B, E j y = B := ⟨_, rfl⟩;obtain ⟨C, hC⟩ : ∃ C, F i x = C := ⟨_, rfl⟩;obtain ⟨D, hD⟩ : ∃ D, F j x = D := ⟨_, rfl⟩;rw [hA, hB, hC, hD];have e1 : (s * C + -r * D) * (p * A + q * B) + (-q * C + p * D) * (r * A + s * B) = (p * s - q * r) * (C * A) + (p * s - q * r) * (D * B) := by
    simp only [Int.add_mul, Int.mul_add, Int.sub_mul, Int.neg_mul, Int.mul_neg];simp only [Int.mul_assoc, Int.mul_left_comm, Int.mul_comm];omega
   rw [e1, hd, Int.one_mul, Int.one_mul]
 · have bii := h.uw i i hi hi;have bij := h.uw i j hi hj;have bji := h.uw j i hj hi;have bjj := h.uw j j hj hj;rw [if_pos rfl] at bii bjj;rw [if_neg hij'] at bij;rw [if_neg hji] at bji;have e : sm n (fun k => E' a (c + k) * F' b k) = sm n (fun k => (if a = i then p * E i (c + k) + q * E j (c + k) else if a = j then r * E i (c + k) + s * E j (c + k) else E a (c + k)) * (if b = i then s * F i k + (-r) * F j k else if b = j then (-q) * F i k + p * F j k else F b k)) :=
    z0z fun k _ => by rw [hE, hF]
   rw [e];by_cases a1 : a = i
   · subst a1;by_cases b1 : b = a
     · subst b1;simp only [↓reduceIte, z8d, z8n, bii, bij, bji, bjj];simp only [Int.mul_one, Int.mul_zero, Int.add_zero, Int.zero_add, Int.mul_neg, Int.neg_mul];omega
     · have b1' : ¬ a = b := fun e => b1 e.symm;by_cases b2 : b = j
       · subst b2;simp only [↓reduceIte, hji, b1', z8d, z8n, bii, bij, bji, bjj];simp only [Int.mul_one, Int.mul_zero, Int.add_zero, Int.zero_add, Int.mul_neg, Int.neg_mul];rw [Int.mul_comm q p];omega
       · have h1 := h.uw a b ha hb;have h2 := h.uw j b hj hb;rw [if_neg b1'] at h1;rw [if_neg (fun e => b2 e.symm)] at h2;simp only [↓reduceIte, b1, b2, b1', z8d, h1, h2, Int.mul_zero, Int.add_zero]
   · by_cases a2 : a = j
     · subst a2;by_cases b1 : b = i
       · subst b1;simp only [↓reduceIte, a1, z8d, z8n, bii, bij, bji, bjj];simp only [Int.mul_one, Int.mul_zero, Int.add_zero, Int.zero_add, Int.mul_neg, Int.neg_mul];rw [Int.mul_comm s r];omega
       · by_cases b2 : b = a
         · subst b2;simp only [↓reduceIte, a1, z8d, z8n, bii, bij, bji, bjj];simp only [Int.mul_one, Int.mul_zero, Int.add_zero, Int.zero_add, Int.mul_neg, Int.neg_mul];rw [Int.mul_comm r q, Int.mul_comm s p];omega
         · have b2' : ¬ a = b := fun e => b2 e.symm;have h1 := h.uw i b hi hb;have h2 := h.uw a b ha hb;rw [if_neg (fun e => b1 e.symm)] at h1;rw [if_neg b2'] at h2;simp only [↓reduceIte, a1, b1, b2, b2', z8d, h1, h2, Int.mul_zero, Int.add_zero]
     · have h1 := h.uw a i ha hi;have h2 := h.uw a j ha hj;rw [if_neg a1] at h1;rw [if_neg a2] at h2;by_cases b1 : b = i
       · subst b1;simp only [↓reduceIte, a1, a2, z8n, h1, h2, Int.mul_zero, Int.add_zero]
       · by_cases b2 : b = j
         · subst b2;simp only [↓reduceIte, a1, a2, b1, z8n, h1, h2, Int.mul_zero, Int.add_zero]
         · simp only [a1, a2, b1, b2, ↓reduceIte];exact h.uw a b ha hb
theorem FR.turn {n c i : Nat} {E0 E F E' F' : Nat -> Nat -> Int} (h : FR n c E0 E F) (hi : i < n)
 (hE : ∀ a b, E' a b = if a = i then - E i b else E a b) (hF : ∀ a b, F' a b = if a = i then - F i b else F a b) : FR n c E0 E' F' := by
 refine ⟨fun x y hx => ?_, fun a b ha hb => ?_⟩
 · rw [<- h.wa x y hx];refine z0z fun k _ => ?_;rw [hE, hF];split
   · rename_i e; subst e; rw [Int.neg_mul_neg]
   · rfl
 · rw [<- h.uw a b ha hb];by_cases e : a = i ↔ b = i
   · refine z0z fun k _ => ?_;rw [hE, hF];by_cases a1 : a = i
     · have b1 := e.1 a1; subst a1; subst b1; rw [if_pos rfl, if_pos rfl, Int.neg_mul_neg]
     · rw [if_neg a1, if_neg (fun b1 => a1 (e.2 b1))]
   · have hab : ¬ a = b := fun hh => e (by rw [hh]);have h0 := h.uw a b ha hb;rw [if_neg hab] at h0;rw [h0];have e2 : sm n (fun q => E' a (c + q) * F' b q) = sm n (fun q => (-1) * (E a (c + q) * F b q)) := z0z fun k _ => by
      rw [hE, hF];by_cases a1 : a = i
      · have b1 : ¬ b = i := fun b1 => e ⟨fun _ => b1, fun _ => a1⟩;subst a1;rw [if_pos rfl, if_neg b1, Int.neg_mul]; omega
      · have b1 : b = i := Classical.byContradiction fun b1 => e ⟨fun h => absurd h a1, fun h => absurd h b1⟩;subst b1;rw [if_neg a1, if_pos rfl, Int.mul_neg]; omega
     rw [e2, z3j, h0, Int.mul_zero]
theorem FR.swap {n c i j : Nat} {E0 E F E' F' : Nat -> Nat -> Int} (h : FR n c E0 E F) (hi : i < n) (hj : j < n) (hij : i ≠ j)
 (hE : ∀ a b, E' a b = E (swp i j a) b) (hF : ∀ a b, F' a b = F (swp i j a) b) : FR n c E0 E' F' := by
 refine ⟨fun x y hx => ?_, fun a b ha hb => ?_⟩
 · rw [<- h.wa x y hx];refine zcx hi hj hij (fun k hk k1 k2 => ?_) ?_
   · have e : swp i j k = k := by unfold swp; rw [if_neg k2, if_neg k1]
     rw [hE, hF, e]
   · have e1 : swp i j i = j := by unfold swp; rw [if_neg hij, if_pos rfl]
     have e2 : swp i j j = i := by unfold swp; rw [if_pos rfl]
     rw [hE, hF, hE, hF, e1, e2, Int.add_comm]
 · rw [z0z (g := fun q => E (swp i j a) (c + q) * F (swp i j b) q) (fun k _ => by rw [hE, hF]), h.uw _ _ (z41 hi hj ha) (z41 hi hj hb)];by_cases e : a = b
   · rw [if_pos e, if_pos (by rw [e])]
   · rw [if_neg e, if_neg (fun h => e (zaP h))]
theorem FR.bd {n c M : Nat} {E0 E F : Nat -> Nat -> Int} (h : FR n c E0 E F) (h0 : ∀ x q, x < n -> q < n -> E0 x (c + q) = if x = q then 1 else 0) (hM : 1 <= M) (hE : ∀ a q, a < n -> q < n -> (E a (c + q)).natAbs <= M) {b i : Nat} (hb : b < n) (hi : i < n) : (F b i).natAbs <= (2 * (n + 1) * M + 1) ^ n := by
 obtain ⟨x, ⟨k0, hk0, hk1⟩, hx, hs⟩ := zcG (n + 1) n M (fun k j => if k < n then E k (c + j) else if j = i then 1 else 0) (Nat.lt_succ_self n) (fun k j hk hj => by
  show (if k < n then E k (c + j) else if j = i then 1 else 0).natAbs <= M;split
  · rename_i e; exact hE k j e hj
  · split
    · exact hM
    · exact Nat.zero_le _)
 have hs1 : ∀ j, j < n -> sm n (fun k => x k * E k (c + j)) + x n * (if j = i then 1 else 0) = 0 := fun j hj => by
  have h1 : sm n (fun k => x k * (if k < n then E k (c + j) else if j = i then 1 else 0)) + x n * (if n < n then E n (c + j) else if j = i then 1 else 0) = 0 := hs j hj;rw [if_neg (Nat.lt_irrefl n)] at h1;have h2 : sm n (fun k => x k * E k (c + j)) = sm n (fun k => x k * (if k < n then E k (c + j) else if j = i then 1 else 0)) := z0z fun k hk => by rw [if_pos hk]
  rw [h2]; exact h1
 have hy0 : ∀ j, j < n -> sm n (fun k => (x k + x n * F k i) * E k (c + j)) = 0 := fun j hj => by
  have h1 := h.wa i (c + j) hi;rw [h0 i j hi hj] at h1;have h2 := hs1 j hj;have h3 : sm n (fun k => (x k + x n * F k i) * E k (c + j)) = sm n (fun k => x k * E k (c + j)) + x n * sm n (fun k => F k i * E k (c + j)) := by
   rw [<- z3j, <- z64];exact z0z fun k _ => by rw [Int.add_mul, Int.mul_assoc]
  rw [h3, h1];by_cases e : j = i
  · subst e; rw [if_pos rfl] at h2 ⊢; exact h2
  · rw [if_neg e] at h2; rw [if_neg (fun e2 => e e2.symm)]; exact h2
 have hy : ∀ b, b < n -> x b + x n * F b i = 0 := fun b hb => by
  have h1 : sm n (fun j => sm n (fun k => (x k + x n * F k i) * E k (c + j)) * F b j) = 0 := z2q fun j hj => by rw [hy0 j hj, Int.zero_mul]
  have h2 : sm n (fun j => sm n (fun k => (x k + x n * F k i) * E k (c + j)) * F b j) = sm n (fun k => (x k + x n * F k i) * sm n (fun j => E k (c + j) * F b j)) := by
   rw [z0z (g := fun j => sm n (fun k => (x k + x n * F k i) * E k (c + j) * F b j)) (fun j _ => (z3z n (F b j) (fun k => (x k + x n * F k i) * E k (c + j))).symm), zb5];refine z0z fun k _ => ?_;rw [<- z3j];exact z0z fun j _ => by rw [Int.mul_assoc]
  rw [h2, z3A b hb (fun k hk hkb => by rw [h.uw k b hk hb, if_neg hkb, Int.mul_zero]), h.uw b b hb hb, if_pos rfl, Int.mul_one] at h1;exact h1
 have hn : x n ≠ 0 := fun e => by
  by_cases hk : k0 < n
  · have := hy k0 hk;rw [e, Int.zero_mul, Int.add_zero] at this;exact hk1 this
  · have : k0 = n := by omega
    subst this;exact hk1 e
 have h1 : x b = - (x n * F b i) := by have := hy b hb; omega
 have h2 := hx b (by omega);rw [h1, Int.natAbs_neg, Int.natAbs_mul] at h2;exact Nat.le_trans (Nat.le_mul_of_pos_left _ (by omega)) h2
structure TRel (n c : Nat) (E0 : Nat -> Nat -> Int) (R V : List Hd) : Prop where
 rl : R.length = n
 vl : V.length = n
 rs : Sh (c + n) R
 vs : Sh n V
 fr : FR n c E0 (ent R) (ent V)
def z6B (o g g3 cap cs : Nat) (own : Nat -> Prop) (n c B : Nat) (E0 : Nat -> Nat -> Int) : z4I := ⟨o, g, g3, cap, cs, own, Fit B (c + n), TRel n c E0⟩
theorem TRel.bd {n c B : Nat} {E0 : Nat -> Nat -> Int} {R V : List Hd} (h : TRel n c E0 R V) (hF : Fit B (c + n) R) (h0 : ∀ x q, x < n -> q < n -> E0 x (c + q) = if x = q then 1 else 0) (hn : n <= 64) : ∀ r ∈ V, ∀ x ∈ r.xs, z04 x.natAbs <= (B + 1) * 64 := by
 intro r hr x hx;obtain ⟨b, hb, rfl⟩ := List.getElem_of_mem hr;obtain ⟨i, hi, rfl⟩ := List.getElem_of_mem hx;have hbn : b < n := by have := h.vl; omega
 have hin : i < n := by have := h.vs.get hb; omega
 have hE : ∀ a q, a < n -> q < n -> (ent R a (c + q)).natAbs <= W ^ B := fun a q ha hq => by
  have ha' : a < R.length := by rw [h.rl]; exact ha
  have hl : c + q < R[a].xs.length := by rw [h.rs.get ha']; omega
  rw [z2x ha' hl];have h1 := hF.fit _ (List.getElem_mem ha') _ (List.getElem_mem hl);exact Nat.le_of_lt (Nat.lt_of_lt_of_le (z1c _) (Nat.pow_le_pow_right (by decide) h1))
 have h1 := h.fr.bd h0 (z1v B) hE hbn hin;rw [z2x hb hi] at h1;refine z0a (Nat.lt_of_le_of_lt h1 ?_);have hp := z1v B;have h2 : 2 * (n + 1) * W ^ B + 1 < W ^ (B + 1) := by
  have h3 : 2 * (n + 1) * W ^ B <= 130 * W ^ B := Nat.mul_le_mul_right _ (by omega);have h4 : W ^ (B + 1) = W ^ B * W := Nat.pow_succ ..;have h5 : W ^ B * 132 <= W ^ B * W := Nat.mul_le_mul_left _ (by decide);omega
 have h6 : (2 * (n + 1) * W ^ B + 1) ^ n <= (2 * (n + 1) * W ^ B + 1) ^ 64 := Nat.pow_le_pow_right (by omega) hn;have h7 : (2 * (n + 1) * W ^ B + 1) ^ 64 < (W ^ (B + 1)) ^ 64 := Nat.pow_lt_pow_left h2 (by decide);rw [<- Nat.pow_mul] at h7;omega
theorem zao {o g g3 cap cs : Nat} {own : Nat -> Prop} {n c B : Nat} {E0 : Nat -> Nat -> Int} (hn : n <= 64) (h0 : ∀ x q, x < n -> q < n -> E0 x (c + q) = if x = q then 1 else 0) (hB : (B + 1) * 64 <= 4398046511103) : (z6B o g g3 cap cs own n c B E0).Ok where
 len R V h := by have := h.rl; have := h.vl; omega
 sh R V h r hr q hq := by rw [h.vs r hr, h.vs q hq]
 wide R V h r hr := by rw [h.vs r hr]; omega
 bd R V h hF r hr x hx := Nat.le_trans (h.bd hF h0 hn r hr x hx) hB
 swap R V i j hi hj hi' hj' hij h := by
  have hr := h.rl;refine ⟨by rw [z0w]; exact hr, by rw [z0w]; exact h.vl, by rw [<- z1L hi hj]; exact h.rs.z8B i j, by rw [<- z1L hi' hj']; exact h.vs.z8B i j, ?_⟩;rw [<- z1L hi hj, <- z1L hi' hj'];exact h.fr.swap (i := i) (j := j) (by omega) (by omega) hij (z4D hi hj) (z4D hi' hj')
 turn R V i hi hi' h := by
  have hr := h.rl;refine ⟨by unfold z1A; rw [z06]; exact hr, by unfold z1A; rw [z06]; exact h.vl, by rw [<- z2W hi]; exact h.rs.za3 i, by rw [<- z2W hi']; exact h.vs.za3 i, ?_⟩;rw [<- z2W hi, <- z2W hi'];exact h.fr.turn (i := i) (by omega) (z4w hi) (z4w hi')
 add R V i j k hi hj hi' hj' hij h := by
  have hr := h.rl;have hji : ¬ j = i := fun e => hij e.symm;refine ⟨by unfold z1P; rw [z06]; exact hr, by unfold z1P; rw [z06]; exact h.vl, by rw [<- z3d hi hj]; exact h.rs.z8f i j k, by rw [<- z3d hj' hi']; exact h.vs.z8f j i (-k), ?_⟩;rw [<- z3d hi hj, <- z3d hj' hi'];refine h.fr.mix (i := i) (j := j) (p := 1) (q := k) (r := 0) (s := 1) (by omega) (by omega) hij (by omega) (fun a b => ?_) (fun a b => ?_)
  · rw [z4s h.rs hi hj];by_cases e : a = i
    · rw [if_pos e, if_pos e]; omega
    · rw [if_neg e, if_neg e];split
      · rename_i e2; subst e2; omega
      · rfl
  · rw [z4s h.vs hj' hi'];by_cases e : a = j
    · subst e; rw [if_pos rfl, if_neg hji, if_pos rfl]; omega
    · rw [if_neg e];split
      · rename_i e2; subst e2; omega
      · rfl
 mix R V i j a b c_ d hi hj hi' hj' hij hd h := by
  have hr := h.rl;refine ⟨by unfold z2i; rw [z06, z06]; exact hr, by unfold z2i; rw [z06, z06]; exact h.vl, by rw [<- z4u hi hj]; exact h.rs.zcl i j _ _ _ _, by rw [<- z4u hi' hj']; exact h.vs.zcl i j _ _ _ _, ?_⟩;rw [<- z4u hi hj, <- z4u hi' hj'];exact h.fr.mix (i := i) (j := j) (by omega) (by omega) hij hd (fun x y => z7n h.rs hi hj hij a b c_ d x y) (fun x y => z7n h.vs hi' hj' hij d (-c_) (-b) a x y)
def z0d (xs : List Int) (r c i j : Nat) : Int := if i < r /\ j < c then xs.getD (i * c + j) 0 else 0
theorem z2U {r c i j : Nat} (hi : i < r) (hj : j < c) : i * c + j < r * c := by
 have h1 : (i + 1) * c <= r * c := Nat.mul_le_mul_right _ hi;have h2 : (i + 1) * c = i * c + c := Nat.succ_mul i c;omega
theorem zai {r c n : Nat} (h : n < r * c) : ∃ i j, i < r /\ j < c /\ n = i * c + j := by
 have hc : 0 < c := by
  rcases Nat.eq_zero_or_pos c with h0 | h0
  · subst h0; simp at h
  · exact h0
 exact ⟨n / c, n % c, (Nat.div_lt_iff_lt_mul hc).2 h, Nat.mod_lt _ hc, by have := Nat.div_add_mod n c; rw [Nat.mul_comm] at this; omega⟩
theorem z0Z {xs : List Int} {r c i j : Nat} (hi : i < r) (hj : j < c) : z0d xs r c i j = xs.getD (i * c + j) 0 := by
 unfold z0d; rw [if_pos ⟨hi, hj⟩]
theorem z3o {xs : List Int} {r c i : Nat} (hi : r <= i) (j : Nat) : z0d xs r c i j = 0 := by
 unfold z0d; rw [if_neg (by omega)]
theorem z1D {xs : List Int} {r c j : Nat} (i : Nat) (hj : c <= j) : z0d xs r c i j = 0 := by
 unfold z0d; rw [if_neg (by omega)]
theorem z6V {xs ys : List Int} {r c : Nat} (hx : xs.length = r * c) (hy : ys.length = r * c) (h : ∀ i j, i < r -> j < c -> z0d xs r c i j = z0d ys r c i j) : xs = ys := by
 refine List.ext_getElem (by omega) fun n h1 h2 => ?_;obtain ⟨i, j, hi, hj, e⟩ := zai (by omega : n < r * c);have := h i j hi hj;rw [z0Z hi hj, z0Z hi hj, <- e, z2D _ _ h1, z2D _ _ h2] at this;exact this
theorem z2R {xs : List Int} {r c B : Nat} (hB : 0 < B) (h : ∀ x ∈ xs, x.natAbs < B) (i j : Nat) : (z0d xs r c i j).natAbs < B := by
 unfold z0d;split
 · by_cases hl : i * c + j < xs.length
   · rw [z2D _ _ hl]; exact h _ (List.getElem_mem _)
   · rw [z6q _ _ (by omega)]; simpa using hB
 · simpa using hB
theorem z2Z {xs : List Int} {r c B : Nat} (hx : xs.length = r * c) (h : ∀ i j, i < r -> j < c -> (z0d xs r c i j).natAbs < B) : ∀ x ∈ xs, x.natAbs < B := by
 intro x hm;obtain ⟨n, hn, rfl⟩ := List.getElem_of_mem hm;obtain ⟨i, j, hi, hj, e⟩ := zai (by omega : n < r * c);have := h i j hi hj;rw [z0Z hi hj, <- e, z2D _ _ hn] at this;exact this
theorem z52 (xs : List Int) (c k j : Nat) (hj : j < c) : (rowOf xs c k).getD j 0 = xs.getD (k * c + j) 0 := by
 unfold rowOf;simp [hj]
theorem z3H : ∀ (xss : List (List Int)) (c : Nat), (∀ x ∈ xss, x.length = c) -> ∀ i j, (hi : i < xss.length) -> j < c -> xss.flatten.getD (i * c + j) 0 = (xss[i]).getD j 0
 | [], c, h, i, j, hi, hj => by simp at hi
 | x :: xss, c, h, 0, j, hi, hj => by
  have hx := h x (List.mem_cons_self ..);rw [List.flatten_cons, Nat.zero_mul, Nat.zero_add, List.getElem_cons_zero];rw [z2D _ _ (by rw [List.length_append]; omega), z2D _ _ (by omega), List.getElem_append_left]
 | x :: xss, c, h, i + 1, j, hi, hj => by
  have hx := h x (List.mem_cons_self ..);rw [List.flatten_cons, List.getElem_cons_succ, <- z3H xss c (fun y hy => h y (List.mem_cons_of_mem _ hy)) i j (by simpa using hi) hj];have e : (i + 1) * c + j = x.length + (i * c + j) := by rw [Nat.succ_mul, hx]; omega
  rw [e, List.getD_eq_getElem?_getD, List.getElem?_append_right (by omega), List.getD_eq_getElem?_getD];congr 2; omega
structure z4c (r c : Nat) (xs hs : List Int) (k : Nat) (l : Nat -> Nat) : Prop where
 len : hs.length = r * c
 kr : k <= r
 z1y : z1a k c (z0d hs r c) l
 zero : ∀ i, k <= i -> ∀ b, z0d hs r c i b = 0
 sp : z0B r (z0d xs r c) k (z0d hs r c)
theorem z4c.unique {r c : Nat} {xs hs hs' : List Int} {k k' : Nat} {l l' : Nat -> Nat} (h : z4c r c xs hs k l) (h' : z4c r c xs hs' k' l') : hs = hs' /\ k = k' /\ ∀ i, i < k -> l i = l' i := by
 obtain ⟨h1, h2, h3⟩ := h.z1y.unique h'.z1y (h.sp.symm.trans h'.sp);refine ⟨z6V h.len h'.len fun i j hi hj => ?_, h1, h2⟩;by_cases hk : i < k
 · exact h3 i hk j
 · rw [h.zero i (by omega), h'.zero i (by omega)]
theorem z6U {R : List Hd} {xs : List Int} {r c : Nat} (hl : R.length = r) (hx : xs.length = r * c) (h : ∀ k (hk : k < R.length), R[k].xs = rowOf xs c k) : Sh c R /\ ∀ i j, ent R i j = z0d xs r c i j := by
 have hlen : ∀ k, k < r -> (rowOf xs c k).length = c := fun k hk => by
  have := z2U (c := c + 1) hk (Nat.lt_succ_self c);unfold rowOf;have h1 : (k + 1) * c <= r * c := Nat.mul_le_mul_right _ hk;have h2 : (k + 1) * c = k * c + c := Nat.succ_mul k c;simp [hx]; omega
 have hsh : Sh c R := fun q hq => by
  obtain ⟨k, hk, rfl⟩ := List.getElem_of_mem hq;rw [h k hk]; exact hlen k (by omega)
 refine ⟨hsh, fun i j => ?_⟩;by_cases hi : i < r
 · by_cases hj : j < c
   · rw [z0O (by omega), h i (by omega), z52 _ _ _ _ hj, z0Z hi hj]
   · rw [hsh.wide i (by omega), z1D _ (by omega)]
 · rw [z1U (by omega), z3o (by omega)]
theorem z4B {R : List Hd} {r c : Nat} (hl : R.length = r) (hs : Sh c R) : (R.map Hd.xs).flatten.length = r * c /\ ∀ i j, z0d (R.map Hd.xs).flatten r c i j = ent R i j := by
 have hc : ∀ x ∈ R.map Hd.xs, x.length = c := fun x hx => by
  obtain ⟨q, hq, rfl⟩ := List.mem_map.1 hx; exact hs q hq
 refine ⟨?_, fun i j => ?_⟩
 · have : ∀ (xss : List (List Int)), (∀ x ∈ xss, x.length = c) -> xss.flatten.length = xss.length * c := by
    intro xss;induction xss with
    | nil => intro _; simp
    | cons x xs ih =>
     intro h;rw [List.flatten_cons, List.length_append, ih (fun y hy => h y (List.mem_cons_of_mem _ hy)), h x (List.mem_cons_self ..), List.length_cons, Nat.succ_mul]; omega
   rw [this _ hc, List.length_map, hl]
 · by_cases hi : i < r
   · by_cases hj : j < c
     · rw [z0Z hi hj, z3H _ c hc i j (by simp; omega) hj, List.getElem_map, z0O (by omega)]
     · rw [hs.wide i (by omega), z1D _ (by omega)]
   · rw [z1U (by omega), z3o (by omega)]
theorem z0B.left {n m : Nat} {E E' F : Nat -> Nat -> Int} (h : z0B n E m F) (e : ∀ i j, E' i j = E i j) : z0B n E' m F :=
 (z0B.of_eq (fun k _ j => e k j)).trans h
theorem z0B.right {n m : Nat} {E F F' : Nat -> Nat -> Int} (h : z0B n E m F) (e : ∀ i j, F' i j = F i j) : z0B n E m F' :=
 h.trans (z0B.of_eq (fun k _ j => (e k j).symm))
theorem hnf_of {R R' : List Hd} {xs : List Int} {r c D k : Nat} (hl : R.length = r) (he : ∀ i j, ent R i j = z0d xs r c i j) (h : z7a c D R k R') : ∃ l, z4c r c xs (R'.map Hd.xs).flatten k l /\ ∀ x ∈ (R'.map Hd.xs).flatten, x.natAbs < W ^ D := by
 obtain ⟨l, hH⟩ := h.z1y;have hm := z4B (h.len.trans hl) h.sh;refine ⟨l, ⟨hm.1, hl ▸ h.kl, hH.congr (fun a _ b => hm.2 a b), fun i hi b => (hm.2 i b).trans (h.zero i hi b), ?_⟩, z2Z hm.1 (fun i j _ _ => by rw [hm.2]; exact h.bd i j)⟩;have := h.sp;rw [hl] at this;exact (this.left (fun i j => (he i j).symm)).right hm.2
def HF (r c : Nat) (E : Nat -> Nat -> Int) : Prop := ∃ k l, k <= r /\ z1a k c E l /\ ∀ i, k <= i -> i < r -> ∀ b, E i b = 0
structure z8X (c : Nat) (E : Nat -> Nat -> Int) (i j : Nat) : Prop where
 le : j <= c
 zero : ∀ b, b < j -> E i b = 0
 ne : j < c -> E i j ≠ 0
def FI (c : Nat) (E : Nat -> Nat -> Int) (i : Nat) (last : Int) : Prop :=
 ∃ k l, k <= i /\ z1a k c E l /\ (∀ a, k <= a -> a < i -> ∀ b, b < c -> E a b = 0) /\ last = (if k < i then (c : Int) else if k = 0 then -1 else (l (k - 1) : Int))
theorem FI.next {c i j : Nat} {E : Nat -> Nat -> Int} {last : Int} (h : FI c E i last) (hl : z8X c E i j) (hj : j < c) (hlast : last < (j : Int)) (hp : 0 < E i j) (hr : ∀ a, a < i -> 0 <= E a j /\ E a j < E i j) : FI c E (i + 1) (j : Int) := by
 obtain ⟨k, l, hk, hH, hz, hla⟩ := h;have hki : k = i := by
  by_cases e : k < i
  · rw [if_pos e] at hla; omega
  · omega
 subst hki;rw [if_neg (by omega)] at hla;have hlo : ∀ a, a < k -> l a < j := fun a ha => by
  rw [if_neg (by omega)] at hla;rcases Nat.lt_or_eq_of_le (show a <= k - 1 by omega) with e | e
  · have := hH.inc a (k - 1) e (by omega); omega
  · subst e; omega
 have h2 : ∀ a, a < k -> (if a < k then l a else j) = l a := fun a ha => if_pos ha;have h3 : (if k < k then l k else j) = j := if_neg (by omega);refine ⟨k + 1, fun a => if a < k then l a else j, Nat.le_refl _, ⟨⟨fun a b hab hb => ?_, fun a ha => ?_, fun a ha b hb => ?_, fun a ha => ?_⟩, fun a b hab hb => ?_⟩, fun a h1 h2 => by omega, ?_⟩
 · show (if a < k then l a else j) < (if b < k then l b else j);rw [h2 a (by omega)];by_cases e : b < k
   · rw [h2 b e]; exact hH.inc a b hab e
   · obtain rfl : b = k := by omega
     rw [h3]; exact hlo a (by omega)
 · show (if a < k then l a else j) < c;by_cases e : a < k
   · rw [h2 a e]; exact hH.lt a e
   · obtain rfl : a = k := by omega
     rw [h3]; exact hj
 · have hb : b < (if a < k then l a else j) := hb;by_cases e : a < k
   · rw [h2 a e] at hb; exact hH.zero a e b hb
   · obtain rfl : a = k := by omega
     rw [h3] at hb; exact hl.zero b hb
 · show 0 < E a (if a < k then l a else j);by_cases e : a < k
   · rw [h2 a e]; exact hH.pos a e
   · obtain rfl : a = k := by omega
     rw [h3]; exact hp
 · show 0 <= E a (if b < k then l b else j) /\ E a (if b < k then l b else j) < E b (if b < k then l b else j);by_cases e : b < k
   · rw [h2 b e]; exact hH.red a b hab e
   · obtain rfl : b = k := by omega
     rw [h3]; exact hr a hab
 · rw [if_neg (by omega), if_neg (by omega)];show (j : Int) = ((if k + 1 - 1 < k then l (k + 1 - 1) else j : Nat) : Int);rw [if_neg (by omega)]
theorem HF.row {r c i j : Nat} {E : Nat -> Nat -> Int} {last : Int} (h : HF r c E) (hi : i < r) (hl : z8X c E i j) (hj : j < c) (hF : FI c E i last) : last < (j : Int) /\ 0 < E i j /\ ∀ a, a < i -> 0 <= E a j /\ E a j < E i j := by
 obtain ⟨K, L, hK, hH, hz⟩ := h;obtain ⟨k, l, hk, hHk, hzk, hla⟩ := hF;have hiK : i < K := by
  by_cases e : i < K
  · exact e
  · exact absurd (hz i (by omega) hi j) (hl.ne hj)
 have hLj : ∀ {a q : Nat}, a < K -> (∀ b, b < q -> E a b = 0) -> E a q ≠ 0 -> L a = q := fun {a q} ha h0 hn => by
  rcases Nat.lt_trichotomy (L a) q with e | e | e
  · have := hH.pos a ha; have := h0 _ e; omega
  · exact e
  · exact absurd (hH.zero a ha q e) hn
 have hLi : L i = j := hLj hiK hl.zero (hl.ne hj);have hki : k = i := by
  by_cases e : k < i
  · exfalso;have h1 := hH.pos k (by omega);rw [hzk k (Nat.le_refl _) e (L k) (hH.lt k (by omega))] at h1;omega
  · omega
 subst hki;rw [if_neg (by omega)] at hla;refine ⟨?_, by rw [<- hLi]; exact hH.pos k hiK, fun a ha => by rw [<- hLi]; exact hH.red a k ha hiK⟩;by_cases e : k = 0
 · rw [if_pos e] at hla; omega
 · rw [if_neg e] at hla;have h1 : L (k - 1) = l (k - 1) := hLj (by omega) (hHk.zero (k - 1) (by omega)) (by have := hHk.pos (k - 1) (by omega); omega);have h2 := hH.inc (k - 1) k (by omega) hiK;omega
theorem HF.z7u {r c i : Nat} {E : Nat -> Nat -> Int} (h : HF r c E) (hi : i < r) (hl : ∀ b, E i b = 0) : ∀ a, i <= a -> a < r -> ∀ b, E a b = 0 := by
 obtain ⟨K, L, hK, hH, hz⟩ := h;have hiK : K <= i := by
  by_cases e : K <= i
  · exact e
  · have := hH.pos i (by omega); rw [hl] at this; omega
 exact fun a h1 h2 b => hz a (by omega) h2 b
theorem z4c.hf {r c k : Nat} {xs hs : List Int} {l : Nat -> Nat} (h : z4c r c xs hs k l) : HF r c (z0d hs r c) := ⟨k, l, h.kr, h.z1y, fun i hi _ b => h.zero i hi b⟩
theorem FR.full {n c k : Nat} {E0 E F : Nat -> Nat -> Int} (h : FR n c E0 E F) (hz : ∀ i, k <= i -> ∀ b, E i b = 0) (hk : k <= n) : k = n := by
 by_cases e : k < n
 · exfalso;have h1 := h.uw k k e e;rw [if_pos rfl, z2q (fun q _ => by rw [hz k (Nat.le_refl _), Int.zero_mul])] at h1;omega
 · omega
theorem zcu {l : Nat -> Nat} {c : Nat} : ∀ n, (∀ i j, i < j -> j < n -> l i < l j) -> ∃ r, r <= n /\ ∀ i, i < n -> (l i < c ↔ i < r)
 | 0, _ => ⟨0, Nat.le_refl _, fun i h => by omega⟩
 | n + 1, h => by
  obtain ⟨r, hr, hc⟩ := zcu (c := c) n (fun i j h1 h2 => h i j h1 (by omega));by_cases e : l n < c
  · have hrn : r = n := by
     by_cases e2 : r < n
     · have h1 := h r n e2 (Nat.lt_succ_self n);have h2 := (hc r e2).1 (by omega);omega
     · omega
    refine ⟨n + 1, Nat.le_refl _, fun i hi => ⟨fun _ => hi, fun _ => ?_⟩⟩;by_cases e3 : i = n
    · rw [e3]; exact e
    · have := h i n (by omega) (Nat.lt_succ_self n); omega
  · refine ⟨r, by omega, fun i hi => ?_⟩;by_cases e3 : i = n
    · subst e3;exact ⟨fun h => absurd h e, fun h => by omega⟩
    · exact hc i (by omega)
theorem zaH {n c : Nat} {E : Nat -> Nat -> Int} {l : Nat -> Nat} {hs us : List Int} (hH : z1a n (c + n) E l) (hh : ∀ i b, i < n -> b < c -> z0d hs n c i b = E i b) (hu : ∀ i b, i < n -> b < n -> z0d us n n i b = E i (c + b)) :
 ∃ r, r <= n /\ z1a r c (z0d hs n c) l /\ (∀ i, r <= i -> ∀ b, z0d hs n c i b = 0) /\ z1a (n - r) n (fun a b => z0d us n n (r + a) b) (fun a => l (r + a) - c) /\
  ∀ i q, i < r -> q < n - r -> 0 <= z0d us n n i (l (r + q) - c) /\ z0d us n n i (l (r + q) - c) < z0d us n n (r + q) (l (r + q) - c) := by
 obtain ⟨r, hr, hc⟩ := zcu (c := c) n hH.inc;have hlo : ∀ i, i < r -> l i < c := fun i hi => (hc i (by omega)).2 hi;have hge : ∀ a, a < n - r -> c <= l (r + a) := fun a ha => by
  have := hc (r + a) (by omega);omega
 have hup : ∀ a, a < n - r -> l (r + a) - c < n := fun a ha => by
  have h1 := hH.lt (r + a) (by omega);have h2 := hge a ha;omega
 have hat : ∀ i a, i < n -> a < n - r -> z0d us n n i (l (r + a) - c) = E i (l (r + a)) := fun i a hi ha => by
  rw [hu i _ hi (hup a ha)];congr 1;have := hge a ha;omega
 refine ⟨r, hr, ⟨⟨fun i k h1 h2 => hH.inc i k h1 (by omega), fun i hi => hlo i hi, fun i hi b hb => ?_, fun i hi => ?_⟩, fun i k h1 h2 => ?_⟩, fun i hi b => ?_, ⟨⟨fun i k h1 h2 => ?_, fun i hi => hup i hi, fun i hi b hb => ?_, fun i hi => ?_⟩, fun i k h1 h2 => ?_⟩, fun i q hi hq => ?_⟩
 · rw [hh i b (by omega) (by have := hlo i hi; omega)]; exact hH.zero i (by omega) b hb
 · rw [hh i _ (by omega) (hlo i hi)]; exact hH.pos i (by omega)
 · rw [hh i _ (by omega) (hlo k h2), hh k _ (by omega) (hlo k h2)]; exact hH.red i k h1 (by omega)
 · by_cases e : i < n /\ b < c
   · rw [hh i b e.1 e.2];refine hH.zero i e.1 b ?_;have := hc i e.1;omega
   · by_cases e1 : i < n
     · exact z1D _ (by omega)
     · exact z3o (by omega) _
 · have h3 := hH.inc (r + i) (r + k) (by omega) (by omega);have h4 := hge i (by omega);show l (r + i) - c < l (r + k) - c;omega
 · show z0d us n n (r + i) b = 0;have hb : b < l (r + i) - c := hb;rw [hu (r + i) b (by omega) (by have := hup i hi; omega)];exact hH.zero (r + i) (by omega) _ (by omega)
 · show 0 < z0d us n n (r + i) (l (r + i) - c);rw [hat _ i (by omega) hi];exact hH.pos (r + i) (by omega)
 · show 0 <= z0d us n n (r + i) (l (r + k) - c) /\ z0d us n n (r + i) (l (r + k) - c) < z0d us n n (r + k) (l (r + k) - c);rw [hat _ k (by omega) h2, hat _ k (by omega) h2];exact hH.red (r + i) (r + k) (by omega) (by omega)
 · rw [hat _ q (by omega) hq, hat _ q (by omega) hq];exact hH.red i (r + q) (by omega) (by omega)
def HX : Nat := 65536
theorem z3B : 0 < HX := by unfold HX; omega
theorem z8y : HX ^ 4 = W := rfl
def z0m : List Nat -> Nat
 | [] => 0
 | x :: r => x + HX * z0m r
def HOk (l : List Nat) : Prop := ∀ x ∈ l, x < HX
theorem HOk.tail {x : Nat} {r : List Nat} (h : HOk (x :: r)) : HOk r := fun y hy => h y (List.mem_cons_of_mem _ hy)
theorem HOk.head {x : Nat} {r : List Nat} (h : HOk (x :: r)) : x < HX := h x (List.mem_cons_self ..)
theorem HOk.append {a b : List Nat} (ha : HOk a) (hb : HOk b) : HOk (a ++ b) := fun x hx => (List.mem_append.1 hx).elim (ha x) (hb x)
theorem HOk.take {l : List Nat} (h : HOk l) (k : Nat) : HOk (l.take k) := fun x hx => h x (List.mem_of_mem_take hx)
theorem HOk.drop {l : List Nat} (h : HOk l) (k : Nat) : HOk (l.drop k) := fun x hx => h x (List.mem_of_mem_drop hx)
theorem HOk.set {l : List Nat} (h : HOk l) (k v : Nat) (hv : v < HX) : HOk (l.set k v) := fun x hx => (List.mem_or_eq_of_mem_set hx).elim (h x) (fun e => e ▸ hv)
theorem HOk.replicate (n : Nat) : HOk (List.replicate n 0) := fun x hx => by rw [List.eq_of_mem_replicate hx]; exact z3B
theorem HOk.gw_ {l : List Nat} (h : HOk l) (k : Nat) : gw l k < HX := by
 unfold gw;rw [List.getD_eq_getElem?_getD];cases hk : l[k]? with
 | none => simpa using z3B
 | some v => exact h v (List.mem_of_getElem? hk)
theorem z1B (a b : List Nat) : z0m (a ++ b) = z0m a + HX ^ a.length * z0m b := by
 induction a with
 | nil => simp [z0m]
 | cons x r ih => simp only [List.cons_append, z0m, ih, List.length_cons, Nat.pow_succ, Nat.mul_add]; rw [Nat.mul_comm (HX ^ r.length) HX, Nat.mul_assoc]; omega
theorem z6P (n : Nat) : z0m (List.replicate n 0) = 0 := by
 induction n with
 | zero => simp [z0m]
 | succ n ih => simp [List.replicate_succ, z0m, ih]
theorem z3y {l : List Nat} (h : HOk l) : z0m l < HX ^ l.length := by
 induction l with
 | nil => simp [z0m]
 | cons x r ih =>
  have h1 := h.head;have h2 := ih h.tail;simp only [z0m, List.length_cons, Nat.pow_succ];have : HX * (z0m r + 1) <= HX * HX ^ r.length := Nat.mul_le_mul_left _ h2;rw [Nat.mul_comm (HX ^ r.length) HX];rw [Nat.mul_add] at this;omega
theorem z0s (l : List Nat) (k : Nat) : z0m (l.take (k + 1)) = z0m (l.take k) + HX ^ k * gw l k := by
 unfold gw;by_cases hk : k < l.length
 · rw [List.take_succ_eq_append_getElem hk, z1B, List.length_take, Nat.min_eq_left (by omega)];simp [z0m, hk]
 · rw [List.take_of_length_le (by omega), List.take_of_length_le (by omega)];simp [List.getElem?_eq_none (show l.length <= k by omega)]
theorem za1 {l : List Nat} (h : ∀ j, gw l j = 0) : z0m l = 0 := by
 induction l with
 | nil => rfl
 | cons x r ih =>
  have h0 := h 0;have := ih (fun j => by have := h (j + 1); unfold gw at *; simpa using this);unfold gw at h0;simp at h0;simp [z0m, h0, this]
theorem z4X {l : List Nat} {k : Nat} (h : ∀ j, k <= j -> gw l j = 0) : z0m (l.take k) = z0m l := by
 by_cases hk : k <= l.length
 · conv => rhs; rw [<- List.take_append_drop k l, z1B]
   rw [za1 (l := l.drop k) (fun j => by have := h (k + j) (by omega); unfold gw at *; simpa using this)]; omega
 · rw [List.take_of_length_le (by omega)]
theorem z6T (l : List Nat) : z0m (l.take (z08 l)) = z0m l := z4X (fun j hj => z1r l j hj)
structure Hex (n : Nat) (ds : List Nat) : Prop where
 ok : HOk ds
 trim : z08 ds = ds.length
 val : z0m ds = n
theorem z7b (l : List Nat) : z08 (l.take (z08 l)) = (l.take (z08 l)).length := by
 have hl := z0e l;rw [List.length_take, Nat.min_eq_left hl];rcases Nat.eq_zero_or_pos (z08 l) with h0 | h0
 · rw [h0]; rfl
 · have h1 := z5n l (by omega);have h2 : z08 l - 1 < z08 (l.take (z08 l)) := z3e _ _ (by
    rw [List.getD_eq_getElem?_getD, List.getElem?_take_of_lt (by omega), <- List.getD_eq_getElem?_getD]; exact h1)
   have h3 := z0e (l.take (z08 l));rw [List.length_take, Nat.min_eq_left hl] at h3;omega
theorem Hex.of {l : List Nat} (h : HOk l) : Hex (z0m l) (l.take (z08 l)) := ⟨h.take _, z7b l, z6T l⟩
theorem Hex.top {n : Nat} {ds : List Nat} (h : Hex n ds) (hl : 0 < ds.length) : HX ^ (ds.length - 1) <= n := by
 have h1 := z5n ds (by have := h.trim; omega);have h2 := z0s ds (ds.length - 1);have e : ds.length - 1 + 1 = ds.length := by omega
 rw [e, List.take_length, h.val] at h2;rw [h.trim] at h1;have h3 : 1 <= gw ds (ds.length - 1) := by unfold gw; omega
 have := Nat.mul_le_mul_left (HX ^ (ds.length - 1)) h3;omega
theorem Hex.lt {n : Nat} {ds : List Nat} (h : Hex n ds) : n < HX ^ ds.length := by rw [<- h.val]; exact z3y h.ok
theorem Hex.z8G {n m : Nat} {xs ys : List Nat} (h : Hex n xs) (k : Hex m ys) (hl : xs.length < ys.length) : n < m := by
 have h1 := h.lt;have h2 := k.top (by omega);have h3 : HX ^ xs.length <= HX ^ (ys.length - 1) := Nat.pow_le_pow_right z3B (by omega);omega
theorem z7h {xs ys : List Nat} (hx : HOk xs) (hl : xs.length = ys.length) : ∀ (k : Nat), k < xs.length -> (∀ j, k < j -> gw xs j = gw ys j) -> gw xs k < gw ys k -> z0m xs < z0m ys := by
 intro k hk hj hlt;have up : ∀ m, k + 1 <= m -> z0m (xs.take m) < z0m (ys.take m) := by
  intro m hm;induction m with
  | zero => omega
  | succ m ih =>
   by_cases e : m = k
   · subst e;rw [z0s, z0s];have h1 := z3y (hx.take m);rw [List.length_take, Nat.min_eq_left (by omega)] at h1;have h2 : HX ^ m * (gw xs m + 1) <= HX ^ m * gw ys m := Nat.mul_le_mul_left _ hlt;rw [Nat.mul_add] at h2;omega
   · rw [z0s, z0s, hj m (by omega)];have := ih (by omega);omega
 have := up xs.length hk;rw [List.take_length, hl, List.take_length] at this;exact this
theorem zaa {xs ys : List Nat} (hl : xs.length = ys.length) (hj : ∀ j, gw xs j = gw ys j) : z0m xs = z0m ys := by
 have : xs = ys := List.ext_getElem hl fun j h1 h2 => by
  have := hj j;unfold gw at this;rw [List.getD_eq_getElem?_getD, List.getD_eq_getElem?_getD, List.getElem?_eq_getElem h1, List.getElem?_eq_getElem h2] at this;simpa using this
 rw [this]
def sp4 (w : Nat) : List Nat := [w % HX, w / HX % HX, w / HX / HX % HX, w / HX / HX / HX % HX]
theorem sp4_ok (w : Nat) : HOk (sp4 w) := fun x hx => by
 simp only [sp4, List.mem_cons, List.not_mem_nil, or_false] at hx;rcases hx with rfl | rfl | rfl | rfl <;> exact Nat.mod_lt _ z3B
theorem zdu {w : Nat} (h : w < W) : z0m (sp4 w) = w := by
 simp only [sp4, z0m, Nat.mul_zero, Nat.add_zero];unfold W at h; unfold HX; omega
theorem z3u (w : Nat) : (sp4 w).length = 4 := rfl
def spl (ws : List Nat) : List Nat := ws.flatMap sp4
theorem z7C (w : Nat) (ws : List Nat) : spl (w :: ws) = sp4 w ++ spl ws := by simp [spl]
theorem zcJ (ws : List Nat) : HOk (spl ws) := by
 induction ws with
 | nil => intro x hx; simp [spl] at hx
 | cons w ws ih => rw [z7C]; exact (sp4_ok w).append ih
theorem z3F (ws : List Nat) : (spl ws).length = 4 * ws.length := by
 induction ws with
 | nil => rfl
 | cons w ws ih => rw [z7C, List.length_append, ih, z3u, List.length_cons]; omega
theorem zb6 {ws : List Nat} (h : Ok ws) : z0m (spl ws) = z01 ws := by
 induction ws with
 | nil => rfl
 | cons w ws ih =>
  rw [z7C, z1B, z3u, z8y, zdu h.head, ih h.tail]; rfl
def ch4 (ds : List Nat) (q : Nat) : Nat := z0m ((ds.drop (4 * q)).take 4)
theorem ch4_lt {ds : List Nat} (h : HOk ds) (q : Nat) : ch4 ds q < W := by
 unfold ch4;refine Nat.lt_of_lt_of_le (z3y ((h.drop _).take _)) ?_;rw [<- z8y];exact Nat.pow_le_pow_right z3B (by simp; omega)
theorem z7e : ∀ (n : Nat) (ds : List Nat), ds.length <= 4 * n -> z01 ((List.range n).map (ch4 ds)) = z0m ds
 | 0, ds, h => by
  have : ds = [] := List.length_eq_zero_iff.1 (by omega);subst this; rfl
 | n + 1, ds, h => by
  have ih := z7e n (ds.drop 4) (by simp; omega);rw [List.range_succ_eq_map, List.map_cons, List.map_map];have e : (List.range n).map (ch4 ds ∘ Nat.succ) = (List.range n).map (ch4 (ds.drop 4)) := by
   refine List.map_congr_left (fun q _ => ?_);simp only [Function.comp, ch4, List.drop_drop];congr 3; omega
  rw [e, z01, ih];unfold ch4;simp only [Nat.mul_zero, List.drop_zero]
  conv => rhs; rw [<- List.take_append_drop 4 ds, z1B]
  by_cases h4 : 4 <= ds.length
  · rw [List.length_take, Nat.min_eq_left h4, z8y]
  · rw [List.drop_of_length_le (by omega)]; simp [z0m]
theorem zaw {ds : List Nat} (h : HOk ds) (n : Nat) : Ok ((List.range n).map (ch4 ds)) := fun x hx => by
 obtain ⟨q, _, rfl⟩ := List.mem_map.1 hx;exact ch4_lt h q
theorem zdd {ds : List Nat} {n m : Nat} (h : Hex m ds) (h1 : ds.length <= 4 * n) (h2 : 4 * n < ds.length + 4) : (List.range n).map (ch4 ds) = dig m := by
 have hok := zaw h.ok n;have hv := z7e n ds h1;rw [h.val] at hv;have hd := z2N hok;rw [hv] at hd;rw [hd];have hl : z08 ((List.range n).map (ch4 ds)) = n := by
  have := z0e ((List.range n).map (ch4 ds));rw [List.length_map, List.length_range] at this;rcases Nat.eq_zero_or_pos n with h0 | h0
  · omega
  · have : n - 1 < z08 ((List.range n).map (ch4 ds)) := z3e _ _ (by
     rw [List.getD_eq_getElem?_getD];simp only [List.getElem?_map, List.getElem?_range (show n - 1 < n by omega), Option.map_some, Option.getD_some];unfold ch4;intro e;have h3 : 0 < (ds.drop (4 * (n - 1))).length := by simp; omega
     have h4 : (ds.drop (4 * (n - 1))).length <= 4 := by simp; omega
     rw [List.take_of_length_le h4] at e;have h5 := h.top (by omega);have h6 : z0m ds = z0m (ds.take (4 * (n - 1))) := by
      conv => lhs; rw [<- List.take_append_drop (4 * (n - 1)) ds, z1B, e]
      omega
     have h7 := z3y (h.ok.take (4 * (n - 1)));rw [<- h6, h.val, List.length_take, Nat.min_eq_left (by omega)] at h7;have h8 : HX ^ (4 * (n - 1)) <= HX ^ (ds.length - 1) := Nat.pow_le_pow_right z3B (by omega);omega)
    omega
 rw [List.take_of_length_le (by rw [List.length_map, List.length_range, hl]; exact Nat.le_refl _)]
end Go.Proofs.YtknkkceioockjaaGreat
namespace Go.Proofs.YtknkkceioockjaaGreat
open Go.RowKit
def DAt (w : World) (ao : Option Addr) (ds : List Nat) : Prop :=
 0 < ds.length -> ∃ b o, ao = some ⟨b, o, none⟩ /\ b < w.heap.size /\ ∀ i, i < ds.length -> w.cell? ⟨b, o + i, none⟩ = some (.int .i64 ((gw ds i : Nat) : Int))
theorem DAt.below {w w' : World} {ao : Option Addr} {ds : List Nat} (h : DAt w ao ds) (hb : Below w.heap.size w w') : DAt w' ao ds := by
 intro hl;obtain ⟨b, o, e, hlt, hc⟩ := h hl;exact ⟨b, o, e, Nat.lt_of_lt_of_le hlt hb.size, fun i hi => (hb.cell (p := ⟨b, o + i, none⟩) hlt).trans (hc i hi)⟩
theorem gw_tk {l : List Nat} {k i : Nat} (h : i < k) : gw (l.take k) i = gw l i := by
 unfold gw; rw [List.getD_eq_getElem?_getD, List.getElem?_take_of_lt h, <- List.getD_eq_getElem?_getD]
theorem DAt.take {w : World} {ao : Option Addr} {ds : List Nat} (h : DAt w ao ds) (k : Nat) : DAt w ao (ds.take k) := by
 intro hl;have h1 : (ds.take k).length <= ds.length := by simp; omega
 have h2 : (ds.take k).length <= k := by simp; omega
 obtain ⟨b, o, e, hlt, hc⟩ := h (by omega);exact ⟨b, o, e, hlt, fun i hi => by rw [gw_tk (by omega)]; exact hc i (by omega)⟩
theorem DAt.row {w : World} {b : Nat} {ds : List Nat} {r : List Value} (h : z00 w b 3 (ds.map iv ++ r)) : DAt w (some ⟨b, 0, none⟩) ds := by
 intro _;refine ⟨b, 0, rfl, h.lt, fun i hi => ?_⟩;rw [Nat.zero_add, h.cell, List.getElem?_append_left (by simpa using hi)];simp [iv, gw, hi]
set_option maxHeartbeats 1000000 in
theorem zb1 (ao : Option Addr) (len cap : Nat) (ds : List Nat) (w : World) (hA : DAt w ao ds) (hl : len = ds.length) (hcap : len <= cap) (hm : cap <= 70368744177664) :
 Calls Tryz.prog 145 #[.slice ao len cap] w fun e w' => e = .returned (.slice ao (z08 ds) cap) /\ w = w' := by
 subst hl;have htl := z0e ds;have HA := Lib.hid hA; clear hA;go_enter Tryz.func145, Tryz.ntmps145;go_wp2
 go_loop [3] (fun i => ∃ k : Nat, k <= ds.length /\ z08 ds <= k /\ i = .int .i64 k) (fun i => (intOf i).toNat)
 case atStart => exact ⟨ds.length, by omega, by omega, rfl⟩
 case round =>
  obtain ⟨k, hk, ht, rfl⟩ := hrel;by_cases h0 : 0 < k
  · obtain ⟨b, o, rfl, hb, hc⟩ := HA.out (by omega);have hcell := hc (k - 1) (by omega);by_cases hz : gw ds (k - 1) = 0
    · have hzb : (((gw ds (k - 1) : Nat) : Int) == 0) = true := by rw [hz]; rfl
      have Hz := Lib.hid hz; clear hz hc;go_wp2
      go_round
      case rel => exact ⟨k - 1, by omega, z1Q ds (k - 1) (fun j hj => by
       by_cases hj' : j = k - 1
       · rw [hj']; exact Hz.out
       · exact z1r ds j (by omega)), by go_num⟩
      case measure => simp [intOf]; omega
    · have hzb : (((gw ds (k - 1) : Nat) : Int) == 0) = false := by rw [beq_eq_false_iff_ne]; omega
      have h1 := z3e ds (k - 1) hz;clear hc hz;have hke : k = z08 ds := by omega
      subst hke;go_wp2;go_ret;exact ⟨rfl, rfl⟩
  · have hke : k = z08 ds := by omega
    subst hke;go_wp2;go_ret;exact ⟨rfl, rfl⟩
theorem zdl (ρ : Operand -> Value) (o : Oper) (p q : Operand) {w : World} (ho : o.op = .binOp .rem 49 p q 49) (x y : Nat) (hx : x < W) (hy : y ≠ 0) (hp : ρ p = .int .u64 (x : Int)) (hq : ρ q = .int .u64 (y : Int)) :
 (execOp ρ o).run Tryz.prog w = .ok (.value (.int .u64 ((z6x x y : Nat) : Int))) w := by
 obtain ⟨dst, op, type, pos, after, guard⟩ := o;simp only at ho; subst ho;simp [go_sem, hp, hq, IntKind.wrap_u64, z6x, hy];have h1 := Nat.mod_le x y;unfold W at hx;have e1 := Int.ofNat_tmod x y;have e2 := Int.natCast_emod x y;generalize x % y = z at *;generalize (x : Int).tmod (y : Int) = u at *;generalize (x : Int) % (y : Int) = v at *;omega
theorem zc9 {w : World} {ops : Array Oper} {rest : List Oper} {o : Oper} {a : Act} {Q : Exit -> Act -> World -> Prop} (hg : o.guard = none) (p q : Operand) (ho : o.op = .binOp .rem 49 p q 49) {X Y : Int} (x y : Nat) (hx : x < W) (hy : y ≠ 0)
 (hp : a.eval p = .int .u64 X) (hq : a.eval q = .int .u64 Y) (hX : X = (x : Int)) (hY : Y = (y : Int))
 (h : wpList Tryz.prog ops Q rest (a.put o.dst (.int .u64 ((z6x x y : Nat) : Int))) w) : wpList Tryz.prog ops Q (o :: rest) a w := by
 subst hX hY;exact z0U hg (zdl _ _ p q ho x y hx hy hp hq) h
theorem zaX (ρ : Operand -> Value) (o : Oper) (p : Operand) {w : World} (ho : o.op = .convert 49 3 p) (x : Nat) (hx : x < 9223372036854775808) (hp : ρ p = .int .u64 (x : Int)) :
 (execOp ρ o).run Tryz.prog w = .ok (.value (.int .i64 (x : Int))) w := by
 obtain ⟨dst, op, type, pos, after, guard⟩ := o;simp only at ho; subst ho;simp [go_sem, hp];exact wrap_small (by omega) (by omega)
theorem zdq (ρ : Operand -> Value) (o : Oper) (p : Operand) {w : World} (ho : o.op = .convert 3 49 p) (x : Nat) (hx : x < W) (hp : ρ p = .int .i64 (x : Int)) :
 (execOp ρ o).run Tryz.prog w = .ok (.value (.int .u64 (x : Int))) w := by
 obtain ⟨dst, op, type, pos, after, guard⟩ := o;simp only at ho; subst ho;simp [go_sem, hp];rw [IntKind.wrap_u64]; unfold W at hx; omega
structure z4K (w : World) (b N : Nat) (D : List Nat) (W' : World) : Prop where
 row : z00 W' b 3 (D.map iv ++ List.replicate (N - D.length) (iv 0))
 bel : Below w.heap.size w W'
 ge : w.heap.size <= b
theorem z4K.spare {w : World} {b N n : Nat} {D : List Nat} {W' : World} (h : z4K w b N D W') (hn : D.length = n) (hN : n + 1 <= N) (X : Obj) : (∀ j, j < 1 -> ((W'.alloc X).cell? ⟨b, 0 + n * 1 + j, none⟩).isSome = true) /\ (∀ j, j < 1 -> (W'.alloc X).frozen? ⟨b, 0 + n * 1 + j, none⟩ = false) := by
 have hr := h.row.alloc X;refine ⟨fun j hj => ?_, fun j _ => hr.free _⟩;rw [hr.cell];have : 0 + n * 1 + j < (D.map iv ++ List.replicate (N - D.length) (iv 0)).length := by simp; omega
 simp only [List.getElem?_eq_getElem this]; rfl
theorem z4K.app {w : World} {b N n : Nat} {D : List Nat} {W' : World} (h : z4K w b N D W') (hn : D.length = n) (hN : n + 1 <= N) (x : Nat) (W2 : World)
 (e : (W'.alloc (.cells #[.int .i64 (x : Int)] 3)).setCells b n [.int .i64 (x : Int)] = W2) : z4K w b N (D ++ [x]) W2 := by
 subst hn;have hb1 : Below W'.heap.size W' (W'.alloc (.cells #[.int .i64 (x : Int)] 3)) := (Below.refl _ _).alloc (Nat.le_refl _) _;have h2 := (h.row.alloc (.cells #[.int .i64 (x : Int)] 3)).set D.length (.int .i64 (x : Int));have e2 : (W'.alloc (.cells #[.int .i64 (x : Int)] 3)).setCell ⟨b, D.length, none⟩ (.int .i64 (x : Int)) = W2 := by rw [<- e]; rfl
 rw [e2] at h2;refine ⟨?_, ?_, h.ge⟩
 · have e3 : (D.map iv ++ List.replicate (N - D.length) (iv 0)).set D.length (.int .i64 (x : Int)) = (D ++ [x]).map iv ++ List.replicate (N - (D ++ [x]).length) (iv 0) := by
    obtain ⟨q, hq⟩ : ∃ q, N - D.length = q + 1 := ⟨N - D.length - 1, by omega⟩;have hq2 : N - (D ++ [x]).length = q := by simp; omega
    rw [hq, hq2, List.replicate_succ, List.set_append_right _ _ (by simp)];simp [iv]
   rw [<- e3]; exact h2
 · rw [<- e2]; exact (h.bel.trans (hb1.mono h.bel.size)).setCell (p := ⟨b, D.length, none⟩) h.ge _
set_option maxRecDepth 100000 in
set_option maxHeartbeats 4000000 in
theorem z2P (ao : Option Addr) (len cap : Nat) (ws : List Nat) (w : World) (hA : WAt w ao ws) (hl : len = ws.length) (hm : len <= 8796093022208) :
 Calls Tryz.prog 101 #[.slice ao len cap] w fun e w' => (∃ b ds, e = .returned (.slice (some ⟨b, 0, none⟩) ds.length (4 * len)) /\ w.heap.size <= b /\ Hex (z01 ws) ds /\ DAt w' (some ⟨b, 0, none⟩) ds /\ ds.length <= 4 * len /\ b < w'.heap.size) /\ Below w.heap.size w w' := by
 subst hl;have HA := Lib.hid hA; clear hA;have hw4 : IntKind.i64.wrap (4 * (ws.length : Int)) = ((4 * ws.length : Nat) : Int) := by rw [wrap_small] <;> omega
 go_enter Tryz.func101, Tryz.ntmps101;go_wp2_with (at_make; refine z3v rfl _ _ rfl 0 (4 * ws.length) rfl rfl rfl (by omega) (Nat.zero_le _) (by omega) ?_; intro b w1 hm1)
 have hI : z4K w b (4 * ws.length) [] w1 := ⟨by have := hm1.row; rw [List.map_replicate] at this; simpa using this, hm1.below, by have := hm1.at_; omega⟩;have HI := Lib.hid hI; clear hI hm1;clear hw4;go_loopw [3, 4] (fun d_ i_ wr => ∃ (i : Nat), i <= ws.length /\ i_ = .int .i64 (i : Int) /\ d_ = .slice (some ⟨b, 0, none⟩) (4 * i) (4 * ws.length) /\ Hid (z4K w b (4 * ws.length) (spl (ws.take i)) wr)) (fun _ i_ _ => ws.length - (intOf i_).toNat)
 case atStart => exact ⟨0, Nat.zero_le _, rfl, rfl, Lib.hid (by simpa [spl] using HI.out)⟩
 case round =>
  obtain ⟨i, hi, rfl, rfl, hIr⟩ := hrel;by_cases hin : i < ws.length
  · have hin1 : (i : Int) < (ws.length : Int) := by omega
    obtain ⟨ab, aoff, rfl, hab, hc⟩ := (HA.out.below hIr.out.bel).pos (by omega);have hcell := hc i hin;have hgwW := HA.out.ok.gw i;obtain ⟨x, hx⟩ : ∃ x, gw ws i = x := ⟨_, rfl⟩;rw [hx] at hcell hgwW;have Hx := Lib.hid hx; clear hx hc;go_wp2;go_loopw [3, 5, 6] (fun d_ x_ k_ wq => ∃ (k : Nat), k <= 4 /\ k_ = .int .i64 (k : Int) /\ x_ = .int .u64 ((x / HX ^ k : Nat) : Int) /\ d_ = .slice (some ⟨b, 0, none⟩) (4 * i + k) (4 * ws.length) /\ Hid (z4K w b (4 * ws.length) (spl (ws.take i) ++ (sp4 x).take k) wq)) (fun _ _ k_ _ => 4 - (intOf k_).toNat)
    case atStart => exact ⟨0, by omega, rfl, by simp, rfl, Lib.hid (by simpa using hIr.out)⟩
    case round =>
     obtain ⟨k, hk, rfl, rfl, rfl, hIq⟩ := hrel;by_cases hk4 : k < 4
     · have hk41 : (k : Int) < 4 := by omega
       obtain ⟨y, hy⟩ : ∃ y, x / HX ^ k = y := ⟨_, rfl⟩;have hyW : y < W := by rw [<- hy]; exact Nat.lt_of_le_of_lt (Nat.div_le_self ..) hgwW
       have hlen : (spl (ws.take i) ++ (sp4 x).take k).length = 4 * i + k := by
        rw [List.length_append, z3F, List.length_take, List.length_take, z3u, Nat.min_eq_left (by omega), Nat.min_eq_left (by omega)]
       have hroom : 4 * i + k + 1 <= 4 * ws.length := by omega
       have hnext : spl (ws.take i) ++ (sp4 x).take (k + 1) = (spl (ws.take i) ++ (sp4 x).take k) ++ [y % HX] := by
        have hd : (sp4 x).take (k + 1) = (sp4 x).take k ++ [y % HX] := by
         rw [<- hy];match k, hk4 with
         | 0, _ => simp [sp4]
         | 1, _ => simp [sp4, HX]
         | 2, _ => simp [sp4, HX, Nat.div_div_eq_div_mul]
         | 3, _ => simp [sp4, HX, Nat.div_div_eq_div_mul]
        rw [hd, List.append_assoc]
       have hdiv : x / HX ^ (k + 1) = y / HX := by rw [<- hy, Nat.div_div_eq_div_mul, Nat.pow_succ]
       rw [hy];generalize spl (ws.take i) ++ (sp4 x).take k = D at *;have HN := Lib.hid (And.intro hnext hdiv); clear hnext hdiv hy;have hsp := fun X => hIq.out.spare hlen hroom X;have hr1 : z6x y 65536 < 9223372036854775808 := Nat.lt_of_lt_of_le (Nat.mod_lt _ (by omega)) (by omega);go_wp2_with (first
        | (with_reducible show wpList _ _ _ (⟨some 27, _, _, _, _, _⟩ :: _) _ _; refine zc9 rfl _ _ rfl y 65536 hyW (by omega) rfl rfl rfl rfl ?_)
        | (with_reducible show wpList _ _ _ (⟨some 28, _, _, _, _, _⟩ :: _) _ _; refine z0U rfl (zaX _ _ _ rfl (z6x y 65536) hr1 rfl) ?_)
        | (with_reducible show wpList _ _ _ (⟨some 32, _, _, _, _, _⟩ :: _) _ _; refine z8z rfl _ _ rfl y 65536 hyW (by omega) rfl rfl rfl rfl ?_)
        | (at_builtin; refine z7v rfl _ _ 33 rfl 3 (.int .i64 0) 1 8 Tryz.underlying33 z98 b 0 (4 * i + k) (4 * ws.length) ⟨wr.heap.size, 0, none⟩ 1 1 [.int .i64 ((z6x y 65536 : Nat) : Int)] rfl rfl rfl (cell_one_new _ _ _) (by simp [Value.oneCell']) hroom (hsp _).1 (hsp _).2 ?_; obtain ⟨w7, hw7⟩ : ∃ w7, (wr.alloc (.cells #[.int .i64 ((z6x y 65536 : Nat) : Int)] 3)).setCells b (4 * i + k) [.int .i64 ((z6x y 65536 : Nat) : Int)] = w7 := ⟨_, rfl⟩; have hI7 := hIq.out.app hlen hroom (z6x y 65536) w7 hw7; simp only [Nat.zero_add, Nat.mul_one]; rw [hw7]; have HI7 := Lib.hid hI7; clear hI7 hw7))
       go_roundw
       case rel =>
        refine ⟨k + 1, by omega, by go_num, ?_, by go_num, Lib.hid ?_⟩
        · rw [HN.out.2]; rfl
        · rw [HN.out.1]; exact HI7.out
       case measure => simp [intOf]; omega
     · obtain rfl : k = 4 := by omega
       go_wp2;go_roundw
       case rel =>
        have h9 := hIq.out;refine ⟨i + 1, by omega, by go_num, by go_num, Lib.hid ?_⟩;have e : spl (ws.take (i + 1)) = spl (ws.take i) ++ sp4 x := by
         rw [List.take_succ_eq_append_getElem hin];have : ws[i] = x := by rw [<- Hx.out]; simp [gw, hin]
         simp [spl, this]
        rw [e]; exact h9
       case measure => simp [intOf]; omega
  · obtain rfl : i = ws.length := by omega
    have hIe := hIr.out;rw [List.take_length] at hIe;have z0m := zb6 HA.out.ok;have hlen := z3F ws;have hH := Hex.of (zcJ ws);rw [z0m] at hH;have htl := z0e (spl ws);have HH := Lib.hid (And.intro hH (And.intro hlen htl));have hD : DAt wr (some ⟨b, 0, none⟩) (spl ws) := DAt.row hIe.row;have ht := zb1 (some ⟨b, 0, none⟩) (4 * ws.length) (4 * ws.length) (spl ws) wr hD hlen.symm (Nat.le_refl _) (by omega);have HT := Lib.hid ht;have HD := Lib.hid hD;clear hH z0m hlen htl ht hD hIe;go_wp2_with fail
    refine HT.out.mono ?_;rintro e w9 ⟨rfl, rfl⟩;go_wp2;go_ret;have hl2 : ((spl ws).take (z08 (spl ws))).length = z08 (spl ws) := by rw [List.length_take, Nat.min_eq_left HH.out.2.2]
    refine ⟨⟨b, (spl ws).take (z08 (spl ws)), ?_, hIr.out.ge, HH.out.1, HD.out.take _, by have := HH.out.2; omega, hIr.out.row.lt⟩, hIr.out.bel⟩;rw [hl2]; rfl
theorem z6L (D : List Nat) (j m : Nat) : z0m ((D.drop j).take (m + 1)) = gw D j + HX * z0m ((D.drop (j + 1)).take m) := by
 by_cases hj : j < D.length
 · rw [List.drop_eq_getElem_cons hj, List.take_succ_cons, z0m];simp [gw, hj]
 · rw [List.drop_of_length_le (by omega), List.drop_of_length_le (by omega)];simp [z0m, gw, List.getElem?_eq_none (show D.length <= j by omega)]
theorem z8F {D : List Nat} (h : HOk D) (j m : Nat) : z0m ((D.drop j).take m) < HX ^ m := by
 refine Nat.lt_of_lt_of_le (z3y ((h.drop j).take m)) (Nat.pow_le_pow_right z3B (by simp; omega))
structure za8 (w : World) (b N : Nat) (D : List Nat) (W' : World) : Prop where
 row : z00 W' b 49 ((D ++ List.replicate (N - D.length) 0).map wv)
 bel : Below w.heap.size w W'
 ge : w.heap.size <= b
theorem za8.spare {w : World} {b N n : Nat} {D : List Nat} {W' : World} (h : za8 w b N D W') (hn : D.length = n) (hN : n + 1 <= N) (X : Obj) : (∀ j, j < 1 -> ((W'.alloc X).cell? ⟨b, 0 + n * 1 + j, none⟩).isSome = true) /\ (∀ j, j < 1 -> (W'.alloc X).frozen? ⟨b, 0 + n * 1 + j, none⟩ = false) := by
 have hr := h.row.alloc X;refine ⟨fun j hj => ?_, fun j _ => hr.free _⟩;rw [hr.cell];have : 0 + n * 1 + j < ((D ++ List.replicate (N - D.length) 0).map wv).length := by simp; omega
 simp only [List.getElem?_eq_getElem this]; rfl
theorem za8.app {w : World} {b N n : Nat} {D : List Nat} {W' : World} (h : za8 w b N D W') (hn : D.length = n) (hN : n + 1 <= N) (x : Nat) (W2 : World)
 (e : (W'.alloc (.cells #[.int .u64 (x : Int)] 49)).setCells b n [.int .u64 (x : Int)] = W2) : za8 w b N (D ++ [x]) W2 := by
 subst hn;have hb1 : Below W'.heap.size W' (W'.alloc (.cells #[.int .u64 (x : Int)] 49)) := (Below.refl _ _).alloc (Nat.le_refl _) _;have h2 := (h.row.alloc (.cells #[.int .u64 (x : Int)] 49)).z17 D.length x;have e2 : (W'.alloc (.cells #[.int .u64 (x : Int)] 49)).setCell ⟨b, D.length, none⟩ (.int .u64 (x : Int)) = W2 := by rw [<- e]; rfl
 rw [e2] at h2;refine ⟨?_, ?_, h.ge⟩
 · have e3 : (D ++ List.replicate (N - D.length) 0).set D.length x = (D ++ [x]) ++ List.replicate (N - (D ++ [x]).length) 0 := by
    obtain ⟨q, hq⟩ : ∃ q, N - D.length = q + 1 := ⟨N - D.length - 1, by omega⟩;have hq2 : N - (D ++ [x]).length = q := by simp; omega
    rw [hq, hq2, List.replicate_succ, List.set_append_right _ _ (by simp)];simp
   rw [<- e3]; exact h2
 · rw [<- e2]; exact (h.bel.trans (hb1.mono h.bel.size)).setCell (p := ⟨b, D.length, none⟩) h.ge _
set_option maxRecDepth 100000 in
set_option maxHeartbeats 4000000 in
theorem z6J (ao : Option Addr) (len cap : Nat) (ds : List Nat) (w : World) (hA : DAt w ao ds) (hok : HOk ds) (hl : len = ds.length) (hcap : len <= cap) (hm : cap <= 35184372088832) :
 Calls Tryz.prog 121 #[.slice ao len cap] w fun e w' => (∃ ao' cap', e = .returned (.slice ao' (z04 (z0m ds)) cap') /\ z16 w' w.heap.size ao' (z04 (z0m ds)) cap' (dig (z0m ds))) /\ Below w.heap.size w w' := by
 have hH := Hex.of hok;have htl := z0e ds;have ht := zb1 ao len cap ds w hA hl hcap (by omega);rw [<- hl] at htl;have hl2 : (ds.take (z08 ds)).length = z08 ds := by rw [List.length_take, Nat.min_eq_left (z0e ds)]
 have hA2 := hA.take (z08 ds);obtain ⟨D, hD⟩ : ∃ D, ds.take (z08 ds) = D := ⟨_, rfl⟩;obtain ⟨v, hv⟩ : ∃ v, z0m ds = v := ⟨_, rfl⟩;obtain ⟨L, hL⟩ : ∃ L, z08 ds = L := ⟨_, rfl⟩;rw [hD] at hH hl2 hA2;rw [hv] at hH ⊢;rw [hL] at ht hl2 htl;have HT := Lib.hid ht; clear ht;have HH := Lib.hid hH; clear hH;have HA2 := Lib.hid hA2; clear hA2;have HL2 := Lib.hid hl2; clear hl2;clear hA hD hv hL hok hl;obtain ⟨N, hN⟩ : ∃ N, L / 4 + 1 = N := ⟨_, rfl⟩;have hNb : N <= 35184372088832 := by omega
 have HN := Lib.hid hN; clear hN;go_enter Tryz.func121, Tryz.ntmps121;go_wp2_with fail
 refine HT.out.mono ?_;rintro e w9 ⟨rfl, rfl⟩;have hdv : IntKind.i64.wrap ((L : Int).tdiv 4) = ((L / 4 : Nat) : Int) := by
  rw [show (L : Int).tdiv 4 = ((L / 4 : Nat) : Int) from (Int.ofNat_tdiv L 4).symm]; exact wrap_small (by omega) (by omega)
 go_wp2_with (at_make; refine z1s rfl _ _ rfl 0 N rfl rfl rfl (by have := HN.out; omega) (Nat.zero_le _) (by omega) ?_; intro b w1 hm1)
 have hI : za8 w b N [] w1 := ⟨by have := hm1.row; simpa using this, hm1.below, by have := hm1.at_; omega⟩;have HI := Lib.hid hI; clear hI hm1 hdv;go_loopw [3, 4] (fun l_ i_ wr => ∃ (q : Nat), 4 * q < L + 4 /\ i_ = .int .i64 (4 * (q : Int)) /\ l_ = .slice (some ⟨b, 0, none⟩) q N /\ Hid (za8 w b N ((List.range q).map (ch4 D)) wr)) (fun _ i_ _ => L + 4 - (intOf i_).toNat)
 case atStart => exact ⟨0, by omega, by simp, rfl, Lib.hid (by simpa using HI.out)⟩
 case round =>
  obtain ⟨q, hq, rfl, rfl, hIr⟩ := hrel;by_cases hin : 4 * q < L
  · have hin1 : 4 * (q : Int) < (L : Int) := by omega
    have hroom : q + 1 <= N := by have := HN.out; omega
    have hqb : 4 * (q : Int) <= 140737488355328 := by omega
    go_wp2;go_loopw [5, 6] (fun x_ k_ wq => ∃ (j : Nat), j <= 4 /\ k_ = .int .i64 ((j : Int) - 1) /\ x_ = .int .u64 ((z0m ((D.drop (4 * q + j)).take (4 - j)) : Nat) : Int) /\ wq = wr) (fun _ k_ _ => (intOf k_ + 1).toNat)
    case atStart => exact ⟨4, Nat.le_refl _, rfl, by simp [z0m], rfl⟩
    case round =>
     obtain ⟨j, hj, rfl, rfl, rfl⟩ := hrel;rcases Nat.eq_zero_or_pos j with h0 | h0
     · subst h0;have hx : z0m ((D.drop (4 * q + 0)).take (4 - 0)) = ch4 D q := rfl;rw [hx];have hlen : ((List.range q).map (ch4 D)).length = q := by simp
       have hsp := fun X => hIr.out.spare hlen hroom X;have hnext : (List.range (q + 1)).map (ch4 D) = (List.range q).map (ch4 D) ++ [ch4 D q] := by rw [List.range_succ]; simp
       have HNX := Lib.hid hnext; clear hnext hx;generalize ch4 D q = x at *;go_wp2_with (at_builtin; refine z7v rfl _ _ 43 rfl 49 (.int .u64 0) 1 8 Tryz.underlying43 z9J b 0 q N ⟨wr.heap.size, 0, none⟩ 1 1 [.int .u64 (x : Int)] rfl rfl rfl (cell_one_new _ _ _) (by simp [Value.oneCell']) hroom (hsp _).1 (hsp _).2 ?_; obtain ⟨w7, hw7⟩ : ∃ w7, (wr.alloc (.cells #[.int .u64 (x : Int)] 49)).setCells b q [.int .u64 (x : Int)] = w7 := ⟨_, rfl⟩; have hI7 := hIr.out.app hlen hroom x w7 hw7; simp only [Nat.zero_add, Nat.mul_one]; rw [hw7]; have HI7 := Lib.hid hI7; clear hI7 hw7)
       go_roundw
       case rel =>
        refine ⟨q + 1, by omega, by go_num, by go_num, Lib.hid ?_⟩;rw [HNX.out]; exact HI7.out
       case measure => simp [intOf]; omega
     · obtain ⟨j', rfl⟩ : ∃ j', j = j' + 1 := ⟨j - 1, by omega⟩;have e1 : ((j' + 1 : Nat) : Int) - 1 = (j' : Int) := by omega
       rw [e1]; clear e1;have hpos : (0 : Int) <= (j' : Int) := by omega
       obtain ⟨y, hy⟩ : ∃ y, z0m ((D.drop (4 * q + (j' + 1))).take (4 - (j' + 1))) = y := ⟨_, rfl⟩;have hyl : y < HX ^ 3 := by
        rw [<- hy];exact Nat.lt_of_lt_of_le (z8F HH.out.ok _ _) (Nat.pow_le_pow_right z3B (by omega))
       have hnx : z0m ((D.drop (4 * q + j')).take (4 - j')) = gw D (4 * q + j') + HX * y := by
        rw [show 4 - j' = 4 - (j' + 1) + 1 by omega, z6L, <- hy]; rfl
       rw [hy]; clear hy;have hdl := HH.out.ok.gw_ (4 * q + j');have hm1 : z0l y 65536 = HX * y := by
        unfold z0l; rw [Nat.mod_eq_of_lt]
        · exact Nat.mul_comm ..
        · unfold W; unfold HX at hyl; omega
       have hjb : (j' : Int) <= 3 := by omega
       have HNX := Lib.hid (And.intro hnx (And.intro hdl (And.intro hyl hm1))); clear hnx hdl hyl hm1;by_cases hil : 4 * q + j' < L
       · have hil1 : 4 * (q : Int) + (j' : Int) < (L : Int) := by omega
         obtain ⟨ab, aoff, rfl, hab, hc⟩ := (HA2.out.below hIr.out.bel) (by have := HL2.out; omega);have hcell := hc (4 * q + j') (by have := HL2.out; omega);clear hc;obtain ⟨d, hd⟩ : ∃ d, gw D (4 * q + j') = d := ⟨_, rfl⟩;rw [hd] at HNX hcell;clear hd;have hdW : d < W := Nat.lt_trans HNX.out.2.1 (by unfold HX W; omega);go_wp2_with (first
          | (with_reducible show wpList _ _ _ (⟨some 25, _, _, _, _, _⟩ :: _) _ _; refine z3K rfl _ _ rfl y 65536 rfl rfl rfl rfl ?_)
          | (with_reducible show wpList _ _ _ (⟨some 39, _, _, _, _, _⟩ :: _) _ _; refine z0U rfl (zdq _ _ _ rfl d hdW rfl) ?_)
          | (with_reducible show wpList _ _ _ (⟨some 40, _, _, _, _, _⟩ :: _) _ _; refine z6X rfl _ _ rfl (z0l y 65536) d rfl rfl rfl rfl ?_))
         go_roundw
         case rel =>
          refine ⟨j', by omega, by go_num, ?_, trivial⟩;rw [HNX.out.1, HNX.out.2.2.2];congr 2;unfold z0y;have h1 := HNX.out.2.1;have h2 := HNX.out.2.2.1;rw [Nat.mod_eq_of_lt]
          · omega
          · unfold W; unfold HX at *; omega
         case measure => (simp [intOf] <;> omega)
       · have hil1 : ¬ 4 * (q : Int) + (j' : Int) < (L : Int) := by omega
         have hd0 : gw D (4 * q + j') = 0 := by
          unfold gw; rw [List.getD_eq_getElem?_getD, List.getElem?_eq_none (by have := HL2.out; omega)]; rfl
         have HD0 := Lib.hid hd0; clear hd0;go_wp2_with (first
          | (with_reducible show wpList _ _ _ (⟨some 25, _, _, _, _, _⟩ :: _) _ _; refine z3K rfl _ _ rfl y 65536 rfl rfl rfl rfl ?_))
         go_roundw
         case rel =>
          refine ⟨j', by omega, by go_num, ?_, trivial⟩;rw [HNX.out.1, HNX.out.2.2.2, HD0.out]; simp
         case measure => (simp [intOf] <;> omega)
  · have hin1 : ¬ 4 * (q : Int) < (L : Int) := by omega
    have hdig := zdd (n := q) HH.out (by have := HL2.out; omega) (by have := HL2.out; omega);have hwl : z04 v = q := by
     have h2 := congrArg List.length hdig;rw [List.length_map, List.length_range] at h2;unfold z04; exact h2.symm
    have hok2 := zaw HH.out.ok q;have HDW := Lib.hid (And.intro hdig (And.intro hwl hok2)); clear hdig hwl hok2;go_wp2;go_ret;rw [HDW.out.2.1];refine ⟨⟨some ⟨b, 0, none⟩, N, rfl, ?_⟩, hIr.out.bel⟩;have h1 := hIr.out.row.own (n := q) (B := w.heap.size) (cap := N) (HDW.out.2.2.append (Ok.replicate _)) hIr.out.ge (by simp) (by have := HN.out; simp; omega) (by unfold maxLen; omega);rw [List.take_left' (by simp), HDW.out.1] at h1;exact h1
theorem zcI (ρ : Operand -> Value) (o : Oper) (p q : Operand) {w : World} (ho : o.op = .binOp .rem 3 p q 3) (x y : Nat) (hx : x < 9223372036854775808) (hy : y ≠ 0) (hp : ρ p = .int .i64 (x : Int)) (hq : ρ q = .int .i64 (y : Int)) :
 (execOp ρ o).run Tryz.prog w = .ok (.value (.int .i64 ((x % y : Nat) : Int))) w := by
 obtain ⟨dst, op, type, pos, after, guard⟩ := o;simp only at ho; subst ho;have h1 := Nat.mod_le x y;have e3 : IntKind.i64.wrap ((x : Int).tmod (y : Int)) = ((x % y : Nat) : Int) := by
  rw [<- Int.ofNat_tmod];generalize x % y = z at *;exact wrap_small (by omega) (by omega)
 simp [go_sem, hp, hq, hy, e3];exact (Int.ofNat_tmod x y).symm.trans (Int.natCast_emod x y)
theorem zco (ρ : Operand -> Value) (o : Oper) (p q : Operand) {w : World} (ho : o.op = .binOp .quo 3 p q 3) (x y : Nat) (hx : x < 9223372036854775808) (hy : y ≠ 0) (hp : ρ p = .int .i64 (x : Int)) (hq : ρ q = .int .i64 (y : Int)) :
 (execOp ρ o).run Tryz.prog w = .ok (.value (.int .i64 ((x / y : Nat) : Int))) w := by
 obtain ⟨dst, op, type, pos, after, guard⟩ := o;simp only at ho; subst ho;have h1 := Nat.div_le_self x y;have e3 : IntKind.i64.wrap ((x : Int).tdiv (y : Int)) = ((x / y : Nat) : Int) := by
  rw [<- Int.ofNat_tdiv];generalize x / y = z at *;exact wrap_small (by omega) (by omega)
 simp [go_sem, hp, hq, hy, e3];have e4 := Int.natCast_ediv x y;rw [<- e4];generalize x / y = z at *;exact wrap_small (by omega) (by omega)
theorem z8V {w : World} {ops : Array Oper} {rest : List Oper} {o : Oper} {a : Act} {Q : Exit -> Act -> World -> Prop} (hg : o.guard = none) (p q : Operand) (ho : o.op = .binOp .rem 3 p q 3) {X Y : Int} (x y : Nat) (hx : x < 9223372036854775808) (hy : y ≠ 0)
 (hp : a.eval p = .int .i64 X) (hq : a.eval q = .int .i64 Y) (hX : X = (x : Int)) (hY : Y = (y : Int))
 (h : wpList Tryz.prog ops Q rest (a.put o.dst (.int .i64 ((x % y : Nat) : Int))) w) : wpList Tryz.prog ops Q (o :: rest) a w := by
 subst hX hY;exact z0U hg (zcI _ _ p q ho x y hx hy hp hq) h
theorem z8N {w : World} {ops : Array Oper} {rest : List Oper} {o : Oper} {a : Act} {Q : Exit -> Act -> World -> Prop} (hg : o.guard = none) (p q : Operand) (ho : o.op = .binOp .quo 3 p q 3) {X Y : Int} (x y : Nat) (hx : x < 9223372036854775808) (hy : y ≠ 0)
 (hp : a.eval p = .int .i64 X) (hq : a.eval q = .int .i64 Y) (hX : X = (x : Int)) (hY : Y = (y : Int))
 (h : wpList Tryz.prog ops Q rest (a.put o.dst (.int .i64 ((x / y : Nat) : Int))) w) : wpList Tryz.prog ops Q (o :: rest) a w := by
 subst hX hY;exact z0U hg (zco _ _ p q ho x y hx hy hp hq) h
set_option maxHeartbeats 1000000 in
theorem zay (ao : Option Addr) (len cap : Nat) (ws : List Nat) (w : World) (hA : WAt w ao ws) (hl : len = ws.length) (hm : len <= 8796093022208) :
 Calls Tryz.prog 100 #[.slice ao len cap] w fun e w' => (∃ ao' cap', e = .returned (.slice ao' (z04 (z01 ws)) cap') /\ z16 w' w.heap.size ao' (z04 (z01 ws)) cap' (dig (z01 ws))) /\ Below w.heap.size w w' := by
 have HSp := Lib.hid (z2P ao len cap ws w hA hl hm);clear hA hl;go_enter Tryz.func100, Tryz.ntmps100;go_wp2_with fail
 refine HSp.out.mono ?_;rintro e w2 ⟨⟨b, ds, rfl, hb, hH, hD, hdl, _⟩, hb2⟩;have hj := z6J (some ⟨b, 0, none⟩) ds.length (4 * len) ds w2 hD hH.ok rfl hdl (by omega);rw [hH.val] at hj;have HJ := Lib.hid hj; clear hj hH hD;have HB2 := Lib.hid hb2; clear hb2;go_wp2_with fail
 refine HJ.out.mono ?_;rintro e w3 ⟨⟨ao', cap', rfl, hO⟩, hb3⟩;have HO := Lib.hid (hO.mono HB2.out.size);have HB3 := Lib.hid (HB2.out.trans (hb3.mono HB2.out.size));clear hO hb3;go_wp2;go_ret;exact ⟨⟨ao', cap', rfl, HO.out⟩, HB3.out⟩
theorem zaF {l : List Nat} {i : Nat} (h : l.length <= i) : gw l i = 0 := by
 unfold gw; rw [List.getD_eq_getElem?_getD, List.getElem?_eq_none h]; rfl
set_option maxHeartbeats 1000000 in
theorem z9y (ao : Option Addr) (len cap : Nat) (ds : List Nat) (i : Nat) (w : World) (hA : DAt w ao ds) (hl : len = ds.length) (hm : len <= 35184372088832) (hi : i <= 35184372088832) :
 Calls Tryz.prog 120 #[.slice ao len cap, .int .i64 (i : Int)] w fun e w' => e = .returned (.int .i64 ((gw ds i : Nat) : Int)) /\ w' = w := by
 subst hl;have HA := Lib.hid hA; clear hA;go_enter Tryz.func120, Tryz.ntmps120;by_cases h : ds.length <= i
 · rw [zaF h];have h1 : (ds.length : Int) <= (i : Int) := by omega
   go_wp2;go_ret;exact ⟨rfl, rfl⟩
 · have h1 : ¬ (ds.length : Int) <= (i : Int) := by omega
   have h2 : (i : Int) < (ds.length : Int) := by omega
   obtain ⟨b, o, rfl, hb, hc⟩ := HA.out (by omega);have hcell := hc i (by omega);clear hc;go_wp2;go_ret;exact ⟨rfl, rfl⟩
set_option maxHeartbeats 2000000 in
theorem z9D (aoA aoB : Option Addr) (lA cA lB cB n m : Nat) (xs ys : List Nat) (w : World) (hA : DAt w aoA xs) (hB : DAt w aoB ys) (hx : Hex n xs) (hy : Hex m ys) (hlA : lA = xs.length) (hlB : lB = ys.length) (hmA : lA <= 35184372088832) (hmB : lB <= 35184372088832) :
 Calls Tryz.prog 102 #[.slice aoA lA cA, .slice aoB lB cB] w fun e w' => e = .returned (.int .i64 (z1k n m)) /\ Below w.heap.size w w' := by
 subst hlA hlB;have HX' := Lib.hid hx; clear hx;have HY' := Lib.hid hy; clear hy;have HA := Lib.hid hA; clear hA;have HB := Lib.hid hB; clear hB;by_cases hs : xs.length = ys.length
 · have hb : (((xs.length : Nat) : Int) != ((ys.length : Nat) : Int)) = false := by rw [hs]; simp
   have Hs := Lib.hid hs; clear hs;go_enter Tryz.func102, Tryz.ntmps102;go_wp2;go_loopw [5] (fun i wr => ∃ k : Nat, k <= xs.length /\ i = .int .i64 ((k : Int) - 1) /\ Hid (∀ j, k <= j -> gw xs j = gw ys j) /\ Below w.heap.size w wr) (fun i _ => (intOf i + 1).toNat)
   case atStart => exact ⟨xs.length, Nat.le_refl _, rfl, Lib.hid (fun j hj => by rw [zaF hj, zaF (by have := Hs.out; omega)]), Below.refl _ _⟩
   case round =>
    obtain ⟨k, hk, rfl, hag, hbl⟩ := hrel;by_cases h0 : 0 < k
    · have hk2 : k <= ys.length := by have := Hs.out; omega
      obtain ⟨b1, o1, rfl, hb1, hc1⟩ := (HA.out.below hbl) (by omega);obtain ⟨b2, o2, rfl, hb2, hc2⟩ := (HB.out.below hbl) (by omega);have e1 := hc1 (k - 1) (by omega);have e2 := hc2 (k - 1) (by omega);clear hc1 hc2;have i1 : (k : Int) - 1 < (xs.length : Int) := by omega
      have i2 : (k : Int) - 1 < (ys.length : Int) := by omega
      have i3 : (0 : Int) <= (k : Int) - 1 := by omega
      by_cases hlt : gw xs (k - 1) < gw ys (k - 1)
      · have t1 : decide (((gw xs (k - 1) : Nat) : Int) < ((gw ys (k - 1) : Nat) : Int)) = true := by simp; omega
        go_wp2
        go_quiet (fail)
        go_wp2;go_ret;refine ⟨z1I (z4z ?_).symm, below_drewN hbl _⟩;rw [<- HX'.out.val, <- HY'.out.val];exact z7h HX'.out.ok Hs.out (k - 1) (by omega) (fun j hj => hag.out j (by omega)) hlt
      · have t1 : decide (((gw xs (k - 1) : Nat) : Int) < ((gw ys (k - 1) : Nat) : Int)) = false := by simp; omega
        by_cases hgt : gw ys (k - 1) < gw xs (k - 1)
        · have t2 : decide (((gw ys (k - 1) : Nat) : Int) < ((gw xs (k - 1) : Nat) : Int)) = true := by simp; omega
          go_wp2
          go_quiet (fail)
          go_wp2
          go_quiet (fail)
          go_wp2;go_ret;refine ⟨z1I (z6I ?_).symm, below_drewN (below_drewN hbl _) _⟩;rw [<- HX'.out.val, <- HY'.out.val];exact z7h HY'.out.ok Hs.out.symm (k - 1) (by omega) (fun j hj => (hag.out j (by omega)).symm) hgt
        · have t2 : decide (((gw ys (k - 1) : Nat) : Int) < ((gw xs (k - 1) : Nat) : Int)) = false := by simp; omega
          go_wp2
          go_quiet (fail)
          go_wp2
          go_quiet (fail)
          go_wp2;go_roundw
          case rel => exact ⟨k - 1, by omega, by go_num, Lib.hid (fun j hj => by
           by_cases e : j = k - 1
           · subst e; omega
           · exact hag.out j (by omega)), below_drewN hbl _⟩
          case measure => simp [intOf]; omega
    · go_wp2;go_ret;refine ⟨z1I (zaU ?_).symm, hbl⟩;rw [<- HX'.out.val, <- HY'.out.val];exact zaa Hs.out (fun j => hag.out j (by omega))
 · have hb : (((xs.length : Nat) : Int) != ((ys.length : Nat) : Int)) = true := by rw [bne_iff_ne]; omega
   by_cases hlt : xs.length < ys.length;all_goals
    go_enter Tryz.func102, Tryz.ntmps102;go_wp2;go_ret
   · exact ⟨z1I (z4z (HX'.out.z8G HY'.out hlt)).symm, Below.refl _ _⟩
   · exact ⟨z1I (z6I (HY'.out.z8G HX'.out (by omega))).symm, Below.refl _ _⟩
set_option maxHeartbeats 1000000 in
theorem z7m (aoA aoB : Option Addr) (lA cA lB cB : Nat) (xs ys : List Nat) (w : World) (hA : WAt w aoA xs) (hB : WAt w aoB ys) (hlA : lA = xs.length) (hlB : lB = ys.length) (hmA : lA <= 8796093022208) (hmB : lB <= 8796093022208) :
 Calls Tryz.prog 59 #[.slice aoA lA cA, .slice aoB lB cB] w fun e w' => e = .returned (.int .i64 (z1k (z01 xs) (z01 ys))) /\ Below w.heap.size w w' := by
 have HS1 := Lib.hid (z2P aoA lA cA xs w hA hlA hmA);have HB := Lib.hid hB; clear hB;have HlB := Lib.hid hlB; clear hlB;clear hA hlA;go_enter Tryz.func59, Tryz.ntmps59;go_wp2_with fail
 refine HS1.out.mono ?_;rintro e w2 ⟨⟨b, ds, rfl, hb, hH, hD, hdl, _⟩, hb2⟩;have HS2 := Lib.hid (z2P aoB lB cB ys w2 (HB.out.below hb2) HlB.out hmB);have HH := Lib.hid hH; clear hH;have HD := Lib.hid hD; clear hD;have HB2 := Lib.hid hb2; clear hb2;go_wp2_with fail
 refine HS2.out.mono ?_;rintro e w3 ⟨⟨b', es, rfl, hb', hH', hD', hel, _⟩, hb3⟩;have HO := Lib.hid (z9D (some ⟨b, 0, none⟩) (some ⟨b', 0, none⟩) ds.length (4 * lA) es.length (4 * lB) _ _ ds es w3 (HD.out.below hb3) hD' HH.out hH' rfl rfl (by omega) (by omega));have HB3 := Lib.hid (HB2.out.trans (hb3.mono HB2.out.size));clear hH' hD' hb3;go_wp2_with fail
 refine HO.out.mono ?_;rintro e w4 ⟨rfl, hb4⟩;have HB4 := Lib.hid (HB3.out.trans (hb4.mono HB3.out.size));clear hb4;go_wp2;go_ret;exact ⟨rfl, HB4.out⟩
theorem z1R {l : List Nat} {k v : Nat} (hk : k < l.length) : z0m ((l.set k v).take (k + 1)) = z0m (l.take k) + HX ^ k * v := by
 rw [z0s, List.take_set_of_le (Nat.le_refl _)];congr 1;unfold gw; simp [hk]
theorem z00.dat {w : World} {b : Nat} {ds : List Nat} (h : z00 w b 3 (ds.map iv)) : DAt w (some ⟨b, 0, none⟩) ds := DAt.row (r := []) (by simpa using h)
theorem z00.z5m {w : World} {b : Nat} {ds : List Nat} (h : z00 w b 3 (ds.map iv)) (i v : Nat) : z00 (w.setCell ⟨b, i, none⟩ (.int .i64 (v : Int))) b 3 ((ds.set i v).map iv) := by
 rw [<- z71]; exact h.set i _
theorem z00.z7J {w : World} {b : Nat} {ds : List Nat} (h : z00 w b 3 (ds.map iv)) {i : Nat} (hi : i < ds.length) : w.cell? ⟨b, i, none⟩ = some (.int .i64 ((gw ds i : Nat) : Int)) :=
 (h.cell i).trans (z4Y ds hi)
structure Two (w : World) (b1 b2 n m : Nat) (xs ys : List Nat) : Prop where
 h1 : Hex n xs
 h2 : Hex m ys
 d1 : DAt w (some ⟨b1, 0, none⟩) xs
 d2 : DAt w (some ⟨b2, 0, none⟩) ys
theorem Two.below {w w' : World} {b1 b2 n m : Nat} {xs ys : List Nat} (h : Two w b1 b2 n m xs ys) (hb : Below w.heap.size w w') : Two w' b1 b2 n m xs ys := ⟨h.h1, h.h2, h.d1.below hb, h.d2.below hb⟩
theorem DAt.other {w : World} {b g : Nat} {ds : List Nat} (h : DAt w (some ⟨b, 0, none⟩) ds) (hne : b ≠ g) (i : Nat) (v : Value) : DAt (w.setCell ⟨g, i, none⟩ v) (some ⟨b, 0, none⟩) ds := by
 intro hl;obtain ⟨b', o, e, hlt, hc⟩ := h hl;simp only [Option.some.injEq, Addr.mk.injEq, and_true] at e;obtain ⟨rfl, rfl⟩ := e;exact ⟨b, 0, rfl, by simpa using hlt, fun i hi => (World.cell?_setCell_far _ _ _ _ (fun e => hne e.symm)).trans (hc i hi)⟩
theorem Two.z5m {w : World} {b1 b2 n m b : Nat} {xs ys cu : List Nat} (h : Two w b1 b2 n m xs ys) (_ : z00 w b 3 (cu.map iv)) (hb : b1 < b /\ b2 < b) (i : Nat) (v : Value) : Two (w.setCell ⟨b, i, none⟩ v) b1 b2 n m xs ys :=
 ⟨h.h1, h.h2, h.d1.other (by omega) i v, h.d2.other (by omega) i v⟩
structure SumI (w : World) (b n i c : Nat) (xs ys cu : List Nat) (W' : World) : Prop where
 len : cu.length = n + 1
 ok : HOk cu
 c1 : c <= 1
 val : z0m (cu.take i) + HX ^ i * c = z0m (xs.take i) + z0m (ys.take i)
 row : z00 W' b 3 (cu.map iv)
 bel : Below w.heap.size w W'
set_option maxRecDepth 100000 in
set_option maxHeartbeats 4000000 in
theorem z9d (aoA aoB : Option Addr) (lA cA lB cB : Nat) (xs ys : List Nat) (w : World) (hA : WAt w aoA xs) (hB : WAt w aoB ys) (hlA : lA = xs.length) (hlB : lB = ys.length) (hmA : lA <= 1099511627776) (hmB : lB <= 1099511627776) :
 Calls Tryz.prog 73 #[.slice aoA lA cA, .slice aoB lB cB] w fun e w' => (∃ ao' cap', e = .returned (.slice ao' (z04 (z01 xs + z01 ys)) cap') /\ z16 w' w.heap.size ao' (z04 (z01 xs + z01 ys)) cap' (dig (z01 xs + z01 ys))) /\ Below w.heap.size w w' := by
 have HS1 := Lib.hid (z2P aoA lA cA xs w hA hlA (by omega));have HB := Lib.hid hB; clear hB;have HlB := Lib.hid hlB; clear hlB;clear hA hlA;go_enter Tryz.func73, Tryz.ntmps73;go_wp2_with fail
 refine HS1.out.mono ?_;rintro e w2 ⟨⟨b1, ds, rfl, hb1, hH, hD, hdl, hlt1⟩, hb2⟩;have HS2 := Lib.hid (z2P aoB lB cB ys w2 (HB.out.below hb2) HlB.out (by omega));have HH := Lib.hid hH; clear hH;have HD := Lib.hid hD; clear hD;have HB2 := Lib.hid hb2; clear hb2;go_wp2_with fail
 refine HS2.out.mono ?_;rintro e w3 ⟨⟨b2, es, rfl, hb', hH', hD', hel, hlt2⟩, hb3⟩;have HT : Hid (Two w3 b1 b2 (z01 xs) (z01 ys) ds es) := Lib.hid ⟨HH.out, hH', HD.out.below hb3, hD'⟩;have HB3 := Lib.hid (HB2.out.trans (hb3.mono HB2.out.size));have hTB : b1 < w3.heap.size /\ b2 < w3.heap.size := ⟨Nat.lt_of_lt_of_le hlt1 hb3.size, hlt2⟩;clear hH' hD' hb3 HH HD HB2 HS1 HS2 hb1 hb' hlt1 hlt2;have HTB := Lib.hid hTB; clear hTB;by_cases hcmp : (ds.length : Int) < (es.length : Int)
 · have hv1 : z0m (ds.take es.length) = z01 xs := by rw [List.take_of_length_le (by omega), HT.out.h1.val]
   have hv2 : z0m (es.take es.length) = z01 ys := by rw [List.take_of_length_le (by omega), HT.out.h2.val]
   have HV := Lib.hid (And.intro hv1 hv2); clear hv1 hv2;go_wp2_with (at_make; refine z3v rfl _ _ rfl (es.length + 1) (es.length + 1) rfl rfl (by omega) (by omega) (Nat.le_refl _) (by omega) ?_; intro b w4 hm4)
   have hbg : w.heap.size <= b := by have := hm4.at_; have := HB3.out.size; omega
   have hbb : b1 < b /\ b2 < b := by have := hm4.at_; have := HTB.out; omega
   have HI : Hid (SumI w b es.length 0 0 ds es (List.replicate (es.length + 1) 0) w4) := Lib.hid ⟨by simp, HOk.replicate _, by omega, by simp [z0m], hm4.row, HB3.out.trans (hm4.below.mono HB3.out.size)⟩;have HT4 := Lib.hid (HT.out.below hm4.below);clear hm4 HT hcmp;go_loopw [9, 10] (fun c_ i_ wr => ∃ (i c : Nat) (cu : List Nat), i <= es.length /\ i_ = .int .i64 (i : Int) /\ c_ = .int .i64 (c : Int) /\ Hid (SumI w b es.length i c ds es cu wr) /\ Hid (Two wr b1 b2 (z01 xs) (z01 ys) ds es)) (fun _ i_ _ => es.length - (intOf i_).toNat)
   case atStart => exact ⟨0, 0, _, Nat.zero_le _, rfl, rfl, HI, HT4⟩
   case round =>
    obtain ⟨i, c, cu, hi, rfl, rfl, hI, hT⟩ := hrel;by_cases hin : i < es.length
    · have hin1 : (i : Int) < (es.length : Int) := by omega
      have hA1 := Lib.hid (z9y (some ⟨b1, 0, none⟩) ds.length (4 * lA) ds i wr hT.out.d1 rfl (by omega) (by omega));have hA2 := Lib.hid (z9y (some ⟨b2, 0, none⟩) es.length (4 * lB) es i wr hT.out.d2 rfl (by omega) (by omega));have hx := hT.out.h1.ok.gw_ i;have hy := hT.out.h2.ok.gw_ i;have hv := z0s ds i;have hv' := z0s es i;obtain ⟨x, hxe⟩ : ∃ x, gw ds i = x := ⟨_, rfl⟩;obtain ⟨y, hye⟩ : ∃ y, gw es i = y := ⟨_, rfl⟩;rw [hxe] at hx hv hA1;rw [hye] at hy hv' hA2;have hc := hI.out.c1;have hxb : x <= 65535 := by unfold HX at hx; omega
      have hyb : y <= 65535 := by unfold HX at hy; omega
      have HVV := Lib.hid (And.intro hv hv');clear hx hy hv hv' hxe hye;obtain ⟨s, hs⟩ : ∃ s, x + y + c = s := ⟨_, rfl⟩;have hsb : s <= 131071 := by omega
      have hsi : (x : Int) + (y : Int) + (c : Int) = (s : Int) := by omega
      have HSI := Lib.hid hsi; clear hsi;have HSS := Lib.hid hs; clear hs;have g0 := hI.out.row.z7J (i := i) (by rw [hI.out.len]; omega);have f0 := hI.out.row.free i;go_wp2_with fail
      refine hA1.out.mono ?_;rintro e w' ⟨rfl, rfl⟩;go_wp2_with fail
      refine hA2.out.mono ?_;rintro e w' ⟨rfl, rfl⟩;go_wp2_with (first
       | (with_reducible show wpList _ _ _ (⟨some 44, _, _, _, _, _⟩ :: _) _ _; refine z8V rfl _ _ rfl s 65536 (by omega) (by omega) rfl rfl HSI.out rfl ?_)
       | (with_reducible show wpList _ _ _ (⟨some 47, _, _, _, _, _⟩ :: _) _ _; refine z8N rfl _ _ rfl s 65536 (by omega) (by omega) rfl rfl HSI.out rfl ?_))
      go_roundw
      case rel =>
       have hI' := hI.out;refine ⟨i + 1, s / 65536, cu.set i (s % 65536), by omega, by go_num, rfl, Lib.hid ⟨by rw [List.length_set]; exact hI'.len, hI'.ok.set _ _ (by unfold HX; omega), by omega, ?_, hI'.row.z5m i _, hI'.bel.setCell (p := ⟨b, i, none⟩) hbg _⟩, Lib.hid (hT.out.z5m hI'.row hbb i _)⟩;rw [z1R (by rw [hI'.len]; omega), HVV.out.1, HVV.out.2];have e1 := hI'.val;have e2 : HX ^ (i + 1) * (s / 65536) = HX ^ i * (65536 * (s / 65536)) := by rw [Nat.pow_succ, Nat.mul_assoc]; rfl
       have e3 : HX ^ i * (s % 65536) + HX ^ i * (65536 * (s / 65536)) = HX ^ i * s := by
        rw [<- Nat.mul_add, Nat.mod_add_div]
       have e4 : HX ^ i * s = HX ^ i * x + HX ^ i * y + HX ^ i * c := by rw [<- HSS.out, Nat.mul_add, Nat.mul_add]
       omega
      case measure => simp [intOf]; omega
    · obtain rfl : i = es.length := by omega
      have hI' := hI.out;have g0 := hI'.row.z7J (i := es.length) (by rw [hI'.len]; omega);have f0 := hI'.row.free es.length;have hfin : z0m (cu.set es.length c) = z01 xs + z01 ys := by
       have h1 := z1R (l := cu) (k := es.length) (v := c) (by rw [hI'.len]; omega);rw [List.take_of_length_le (by rw [List.length_set, hI'.len]; exact Nat.le_refl _)] at h1;rw [h1, hI'.val, HV.out.1, HV.out.2]
      have hrow := hI'.row.z5m es.length c;have hbl := hI'.bel.setCell (p := ⟨b, es.length, none⟩) hbg (.int .i64 (c : Int));have hj := z6J (some ⟨b, 0, none⟩) (es.length + 1) (es.length + 1) (cu.set es.length c) _ hrow.dat (hI'.ok.set _ _ (by have := hI'.c1; unfold HX; omega)) (by rw [List.length_set, hI'.len]) (Nat.le_refl _) (by omega);rw [hfin] at hj;have HJ := Lib.hid hj;have HBL := Lib.hid hbl;clear hj hbl hrow hfin hI' hi hin;go_wp2_with fail
      refine HJ.out.mono ?_;rintro e w9 ⟨⟨ao', cap', rfl, hO⟩, hb9⟩;have HO := Lib.hid (hO.mono HBL.out.size);have HB9 := Lib.hid (HBL.out.trans (hb9.mono HBL.out.size));clear hO hb9;go_wp2;go_ret;exact ⟨⟨ao', cap', rfl, HO.out⟩, HB9.out⟩
 · have hv1 : z0m (ds.take ds.length) = z01 xs := by rw [List.take_of_length_le (by omega), HT.out.h1.val]
   have hv2 : z0m (es.take ds.length) = z01 ys := by rw [List.take_of_length_le (by omega), HT.out.h2.val]
   have HV := Lib.hid (And.intro hv1 hv2); clear hv1 hv2;go_wp2_with (at_make; refine z3v rfl _ _ rfl (ds.length + 1) (ds.length + 1) rfl rfl (by omega) (by omega) (Nat.le_refl _) (by omega) ?_; intro b w4 hm4)
   have hbg : w.heap.size <= b := by have := hm4.at_; have := HB3.out.size; omega
   have hbb : b1 < b /\ b2 < b := by have := hm4.at_; have := HTB.out; omega
   have HI : Hid (SumI w b ds.length 0 0 ds es (List.replicate (ds.length + 1) 0) w4) := Lib.hid ⟨by simp, HOk.replicate _, by omega, by simp [z0m], hm4.row, HB3.out.trans (hm4.below.mono HB3.out.size)⟩;have HT4 := Lib.hid (HT.out.below hm4.below);clear hm4 HT hcmp;go_loopw [9, 10] (fun c_ i_ wr => ∃ (i c : Nat) (cu : List Nat), i <= ds.length /\ i_ = .int .i64 (i : Int) /\ c_ = .int .i64 (c : Int) /\ Hid (SumI w b ds.length i c ds es cu wr) /\ Hid (Two wr b1 b2 (z01 xs) (z01 ys) ds es)) (fun _ i_ _ => ds.length - (intOf i_).toNat)
   case atStart => exact ⟨0, 0, _, Nat.zero_le _, rfl, rfl, HI, HT4⟩
   case round =>
    obtain ⟨i, c, cu, hi, rfl, rfl, hI, hT⟩ := hrel;by_cases hin : i < ds.length
    · have hin1 : (i : Int) < (ds.length : Int) := by omega
      have hA1 := Lib.hid (z9y (some ⟨b1, 0, none⟩) ds.length (4 * lA) ds i wr hT.out.d1 rfl (by omega) (by omega));have hA2 := Lib.hid (z9y (some ⟨b2, 0, none⟩) es.length (4 * lB) es i wr hT.out.d2 rfl (by omega) (by omega));have hx := hT.out.h1.ok.gw_ i;have hy := hT.out.h2.ok.gw_ i;have hv := z0s ds i;have hv' := z0s es i;obtain ⟨x, hxe⟩ : ∃ x, gw ds i = x := ⟨_, rfl⟩;obtain ⟨y, hye⟩ : ∃ y, gw es i = y := ⟨_, rfl⟩;rw [hxe] at hx hv hA1;rw [hye] at hy hv' hA2;have hc := hI.out.c1;have hxb : x <= 65535 := by unfold HX at hx; omega
      have hyb : y <= 65535 := by unfold HX at hy; omega
      have HVV := Lib.hid (And.intro hv hv');clear hx hy hv hv' hxe hye;obtain ⟨s, hs⟩ : ∃ s, x + y + c = s := ⟨_, rfl⟩;have hsb : s <= 131071 := by omega
      have hsi : (x : Int) + (y : Int) + (c : Int) = (s : Int) := by omega
      have HSI := Lib.hid hsi; clear hsi;have HSS := Lib.hid hs; clear hs;have g0 := hI.out.row.z7J (i := i) (by rw [hI.out.len]; omega);have f0 := hI.out.row.free i;go_wp2_with fail
      refine hA1.out.mono ?_;rintro e w' ⟨rfl, rfl⟩;go_wp2_with fail
      refine hA2.out.mono ?_;rintro e w' ⟨rfl, rfl⟩;go_wp2_with (first
       | (with_reducible show wpList _ _ _ (⟨some 44, _, _, _, _, _⟩ :: _) _ _; refine z8V rfl _ _ rfl s 65536 (by omega) (by omega) rfl rfl HSI.out rfl ?_)
       | (with_reducible show wpList _ _ _ (⟨some 47, _, _, _, _, _⟩ :: _) _ _; refine z8N rfl _ _ rfl s 65536 (by omega) (by omega) rfl rfl HSI.out rfl ?_))
      go_roundw
      case rel =>
       have hI' := hI.out;refine ⟨i + 1, s / 65536, cu.set i (s % 65536), by omega, by go_num, rfl, Lib.hid ⟨by rw [List.length_set]; exact hI'.len, hI'.ok.set _ _ (by unfold HX; omega), by omega, ?_, hI'.row.z5m i _, hI'.bel.setCell (p := ⟨b, i, none⟩) hbg _⟩, Lib.hid (hT.out.z5m hI'.row hbb i _)⟩;rw [z1R (by rw [hI'.len]; omega), HVV.out.1, HVV.out.2];have e1 := hI'.val;have e2 : HX ^ (i + 1) * (s / 65536) = HX ^ i * (65536 * (s / 65536)) := by rw [Nat.pow_succ, Nat.mul_assoc]; rfl
       have e3 : HX ^ i * (s % 65536) + HX ^ i * (65536 * (s / 65536)) = HX ^ i * s := by
        rw [<- Nat.mul_add, Nat.mod_add_div]
       have e4 : HX ^ i * s = HX ^ i * x + HX ^ i * y + HX ^ i * c := by rw [<- HSS.out, Nat.mul_add, Nat.mul_add]
       omega
      case measure => simp [intOf]; omega
    · obtain rfl : i = ds.length := by omega
      have hI' := hI.out;have g0 := hI'.row.z7J (i := ds.length) (by rw [hI'.len]; omega);have f0 := hI'.row.free ds.length;have hfin : z0m (cu.set ds.length c) = z01 xs + z01 ys := by
       have h1 := z1R (l := cu) (k := ds.length) (v := c) (by rw [hI'.len]; omega);rw [List.take_of_length_le (by rw [List.length_set, hI'.len]; exact Nat.le_refl _)] at h1;rw [h1, hI'.val, HV.out.1, HV.out.2]
      have hrow := hI'.row.z5m ds.length c;have hbl := hI'.bel.setCell (p := ⟨b, ds.length, none⟩) hbg (.int .i64 (c : Int));have hj := z6J (some ⟨b, 0, none⟩) (ds.length + 1) (ds.length + 1) (cu.set ds.length c) _ hrow.dat (hI'.ok.set _ _ (by have := hI'.c1; unfold HX; omega)) (by rw [List.length_set, hI'.len]) (Nat.le_refl _) (by omega);rw [hfin] at hj;have HJ := Lib.hid hj;have HBL := Lib.hid hbl;clear hj hbl hrow hfin hI' hi hin;go_wp2_with fail
      refine HJ.out.mono ?_;rintro e w9 ⟨⟨ao', cap', rfl, hO⟩, hb9⟩;have HO := Lib.hid (hO.mono HBL.out.size);have HB9 := Lib.hid (HBL.out.trans (hb9.mono HBL.out.size));clear hO hb9;go_wp2;go_ret;exact ⟨⟨ao', cap', rfl, HO.out⟩, HB9.out⟩
structure DifI (w : World) (b i c : Nat) (xs ys cu : List Nat) (W' : World) : Prop where
 len : cu.length = xs.length
 ok : HOk cu
 c1 : c <= 1
 val : z0m (cu.take i) + z0m (ys.take i) = z0m (xs.take i) + HX ^ i * c
 row : z00 W' b 3 (cu.map iv)
 bel : Below w.heap.size w W'
set_option maxRecDepth 100000 in
set_option maxHeartbeats 4000000 in
theorem z5z (aoA aoB : Option Addr) (lA cA lB cB : Nat) (xs ys : List Nat) (w : World) (hA : WAt w aoA xs) (hB : WAt w aoB ys) (hlA : lA = xs.length) (hlB : lB = ys.length) (hmA : lA <= 1099511627776) (hmB : lB <= 1099511627776) (hle : z01 ys <= z01 xs) :
 Calls Tryz.prog 74 #[.slice aoA lA cA, .slice aoB lB cB] w fun e w' => (∃ ao' cap', e = .returned (.tuple #[.slice ao' (z04 (z01 xs - z01 ys)) cap', .int .i64 0]) /\ z16 w' w.heap.size ao' (z04 (z01 xs - z01 ys)) cap' (dig (z01 xs - z01 ys))) /\ Below w.heap.size w w' := by
 have HS1 := Lib.hid (z2P aoA lA cA xs w hA hlA (by omega));have HB := Lib.hid hB; clear hB;have HlB := Lib.hid hlB; clear hlB;have HLE := Lib.hid hle; clear hle;clear hA hlA;go_enter Tryz.func74, Tryz.ntmps74;go_wp2_with fail
 refine HS1.out.mono ?_;rintro e w2 ⟨⟨b1, ds, rfl, hb1, hH, hD, hdl, hlt1⟩, hb2⟩;have HS2 := Lib.hid (z2P aoB lB cB ys w2 (HB.out.below hb2) HlB.out (by omega));have HH := Lib.hid hH; clear hH;have HD := Lib.hid hD; clear hD;have HB2 := Lib.hid hb2; clear hb2;go_wp2_with fail
 refine HS2.out.mono ?_;rintro e w3 ⟨⟨b2, es, rfl, hb', hH', hD', hel, hlt2⟩, hb3⟩;have hT : Two w3 b1 b2 (z01 xs) (z01 ys) ds es := ⟨HH.out, hH', HD.out.below hb3, hD'⟩;have HO := Lib.hid (z9D (some ⟨b1, 0, none⟩) (some ⟨b2, 0, none⟩) ds.length (4 * lA) es.length (4 * lB) _ _ ds es w3 hT.d1 hT.d2 hT.h1 hT.h2 rfl rfl (by omega) (by omega));have HT := Lib.hid hT;have HB3 := Lib.hid (HB2.out.trans (hb3.mono HB2.out.size));have hTB : b1 < w3.heap.size /\ b2 < w3.heap.size := ⟨Nat.lt_of_lt_of_le hlt1 hb3.size, hlt2⟩;have hes : es.length <= ds.length := by
  by_cases h : es.length <= ds.length
  · exact h
  · have := hT.h1.z8G hT.h2 (by omega);have := HLE.out; omega
 have hnc : 0 <= z1k (z01 xs) (z01 ys) := by
  unfold z1k; have := HLE.out;rw [if_neg (by omega)]; split <;> omega
 obtain ⟨cc, hcc⟩ : ∃ cc, z1k (z01 xs) (z01 ys) = cc := ⟨_, rfl⟩;rw [hcc] at HO hnc;clear hH' hD' hb3 HH HD HB2 HS1 HS2 hb1 hb' hlt1 hlt2 hT hcc;go_wp2_with fail
 refine HO.out.mono ?_;rintro e w4 ⟨rfl, hb4⟩;have HT4 := Lib.hid (HT.out.below hb4);have HB4 := Lib.hid (HB3.out.trans (hb4.mono HB3.out.size));have hTB4 : b1 < w4.heap.size /\ b2 < w4.heap.size := by have := hb4.size; omega
 clear hb4 HT HB3 hTB HO;have hcc1 : ¬ cc < 0 := by omega
 go_wp2_with (at_make; refine z3v rfl _ _ rfl ds.length ds.length rfl rfl rfl rfl (Nat.le_refl _) (by omega) ?_; intro b w5 hm5)
 have hbg : w.heap.size <= b := by have := hm5.at_; have := HB4.out.size; omega
 have hbb : b1 < b /\ b2 < b := by have := hm5.at_; omega
 have HI : Hid (DifI w b 0 0 ds es (List.replicate ds.length 0) w5) := Lib.hid ⟨by simp, HOk.replicate _, by omega, by simp [z0m], hm5.row, HB4.out.trans (hm5.below.mono HB4.out.size)⟩;have HT5 := Lib.hid (HT4.out.below hm5.below);clear hm5 HT4 HB4;go_loopw [9, 10] (fun c_ i_ wr => ∃ (i c : Nat) (cu : List Nat), i <= ds.length /\ i_ = .int .i64 (i : Int) /\ c_ = .int .i64 (c : Int) /\ Hid (DifI w b i c ds es cu wr) /\ Hid (Two wr b1 b2 (z01 xs) (z01 ys) ds es)) (fun _ i_ _ => ds.length - (intOf i_).toNat)
 case atStart => exact ⟨0, 0, _, Nat.zero_le _, rfl, rfl, HI, HT5⟩
 case round =>
  obtain ⟨i, c, cu, hi, rfl, rfl, hI, hT⟩ := hrel;by_cases hin : i < ds.length
  · have hin1 : (i : Int) < (ds.length : Int) := by omega
    have hA2 := fun m => z9y (some ⟨b2, 0, none⟩) es.length (4 * lB) es i (wr.drewN m) (DAt.below (w := wr) hT.out.d2 (below_drewN (Below.refl _ _) m)) rfl (by omega) (by omega);obtain ⟨b1', o1', e1', hlt1', hc1'⟩ := hT.out.d1 (by omega);simp only [Option.some.injEq, Addr.mk.injEq, and_true] at e1';obtain ⟨rfl, rfl⟩ := e1';have hcell := hc1' i hin;rw [Nat.zero_add] at hcell;have hx := hT.out.h1.ok.gw_ i;have hy := hT.out.h2.ok.gw_ i;have hv := z0s ds i;have hv' := z0s es i;obtain ⟨x, hxe⟩ : ∃ x, gw ds i = x := ⟨_, rfl⟩;obtain ⟨y, hye⟩ : ∃ y, gw es i = y := ⟨_, rfl⟩;rw [hxe] at hx hv hcell;rw [hye] at hy hv';have hA3 : ∀ m, Calls Tryz.prog 120 #[.slice (some ⟨b2, 0, none⟩) es.length (4 * lB), .int .i64 (i : Int)] (wr.drewN m) fun e w' => e = .returned (.int .i64 (y : Int)) /\ ∃ k, w' = (wr.drewN m).drewN k := fun m => by
     have := hA2 m;rw [hye] at this;exact this.mono (fun e w' h => ⟨h.1, 0, h.2⟩)
    have HA3 := Lib.hid hA3; clear hA2 hA3;have hc := hI.out.c1;have hxb : x <= 65535 := by unfold HX at hx; omega
    have hyb : y <= 65535 := by unfold HX at hy; omega
    have HVV := Lib.hid (And.intro hv hv');clear hx hy hv hv' hxe hye hc1';have g0 := hI.out.row.z7J (i := i) (by rw [hI.out.len]; exact hin);have f0 := hI.out.row.free i;go_wp2
    go_quiet ((go_at_call 120; refine Calls.quiet_of (HA3.out _)))
    have hT2 := Two.below (w := wr) hT.out (below_drewN (Below.refl _ _) nq);have hI2 : DifI w b i c ds es cu (wr.drewN nq) := ⟨hI.out.len, hI.out.ok, hI.out.c1, hI.out.val, hI.out.row.below (below_drewN (Below.refl _ _) nq) hI.out.row.lt, below_drewN hI.out.bel nq⟩;generalize wr.drewN nq = w6 at *;have HT2 := Lib.hid hT2; clear hT2;have g0 := hI2.row.z7J (i := i) (by rw [hI2.len]; exact hin);have f0 := hI2.row.free i;have HI2 := Lib.hid hI2; clear hI2;have fin : ∀ (z c' : Nat), z < HX -> c' <= 1 -> (z : Int) = (x : Int) - (y : Int) - (c : Int) + 65536 * (c' : Int) -> DifI w b (i + 1) c' ds es (cu.set i z) (w6.setCell ⟨b, i, none⟩ (.int .i64 (z : Int))) := by
     intro z c' hz hc' he;have hI' := HI2.out;refine ⟨by rw [List.length_set]; exact hI'.len, hI'.ok.set _ _ hz, hc', ?_, hI'.row.z5m i _, hI'.bel.setCell (p := ⟨b, i, none⟩) hbg _⟩;rw [z1R (by rw [hI'.len]; exact hin), HVV.out.1, HVV.out.2];have e1 := hI'.val;have e2 : z + y + c = x + 65536 * c' := by omega
     have e3 : HX ^ (i + 1) * c' = HX ^ i * (65536 * c') := by rw [Nat.pow_succ, Nat.mul_assoc]; rfl
     have e4 : HX ^ i * z + HX ^ i * y + HX ^ i * c = HX ^ i * x + HX ^ i * (65536 * c') := by
      rw [<- Nat.mul_add, <- Nat.mul_add, <- Nat.mul_add, e2]
     omega
    have HF := Lib.hid fin; clear fin;by_cases hneg : (x : Int) - (y : Int) - (c : Int) < 0
    · have hsum : (x : Int) - (y : Int) - (c : Int) + 65536 = ((x + 65536 - y - c : Nat) : Int) := by omega
      obtain ⟨z, hz⟩ : ∃ z, x + 65536 - y - c = z := ⟨_, rfl⟩;rw [hz] at hsum;have hF := HF.out z 1 (by unfold HX; omega) (Nat.le_refl _) (by omega);have HF2 := Lib.hid hF; clear hF;have hzb : z <= 65535 := by omega
      have HSUM := Lib.hid hsum; clear hsum hz;go_wp2;go_roundw
      case rel =>
       have e5 := HSUM.out;refine ⟨i + 1, 1, cu.set i z, by omega, by go_num, rfl, Lib.hid ?_, Lib.hid (HT2.out.z5m HI2.out.row hbb i _)⟩;rw [e5]; exact HF2.out
      case measure => simp [intOf]; omega
    · have hsum : (x : Int) - (y : Int) - (c : Int) = ((x - y - c : Nat) : Int) := by omega
      obtain ⟨z, hz⟩ : ∃ z, x - y - c = z := ⟨_, rfl⟩;rw [hz] at hsum;have hF := HF.out z 0 (by unfold HX; omega) (Nat.zero_le _) (by omega);have HF2 := Lib.hid hF; clear hF;have HSUM := Lib.hid hsum; clear hsum hz;go_wp2;go_roundw
      case rel =>
       have e5 := HSUM.out;refine ⟨i + 1, 0, cu.set i z, by omega, by go_num, rfl, Lib.hid ?_, Lib.hid (HT2.out.z5m HI2.out.row hbb i _)⟩;rw [e5]; exact HF2.out
      case measure => simp [intOf]; omega
  · obtain rfl : i = ds.length := by omega
    have hI' := hI.out;have hfin : z0m cu = z01 xs - z01 ys := by
     have h1 := hI'.val;rw [List.take_of_length_le (by rw [hI'.len]; exact Nat.le_refl _), List.take_of_length_le hes, List.take_length, hT.out.h1.val, hT.out.h2.val] at h1;have h2 := z3y hI'.ok;rw [hI'.len] at h2;have h3 := hI'.c1;have h4 := HLE.out;have h5 : c = 0 := by
      rcases Nat.eq_zero_or_pos c with h | h
      · exact h
      · obtain rfl : c = 1 := by omega
        omega
     subst h5;omega
    have hj := z6J (some ⟨b, 0, none⟩) ds.length ds.length cu _ hI'.row.dat hI'.ok hI'.len.symm (Nat.le_refl _) (by omega);rw [hfin] at hj;have HJ := Lib.hid hj;have HBL := Lib.hid hI'.bel;clear hj hfin hI' hi hin;go_wp2_with fail
    refine HJ.out.mono ?_;rintro e w9 ⟨⟨ao', cap', rfl, hO⟩, hb9⟩;have HO := Lib.hid (hO.mono HBL.out.size);have HB9 := Lib.hid (HBL.out.trans (hb9.mono HBL.out.size));clear hO hb9;go_wp2;go_ret2;exact ⟨⟨ao', cap', rfl, HO.out⟩, HB9.out⟩
theorem z4K.put {w : World} {b N n : Nat} {D : List Nat} {W' : World} (h : z4K w b N D W') (hn : D.length = n) (hN : n + 1 <= N) (x : Nat) : z4K w b N (D ++ [x]) (W'.setCell ⟨b, n, none⟩ (.int .i64 (x : Int))) := by
 subst hn;refine ⟨?_, h.bel.setCell (p := ⟨b, D.length, none⟩) h.ge _, h.ge⟩;have e3 : (D.map iv ++ List.replicate (N - D.length) (iv 0)).set D.length (.int .i64 (x : Int)) = (D ++ [x]).map iv ++ List.replicate (N - (D ++ [x]).length) (iv 0) := by
  obtain ⟨q, hq⟩ : ∃ q, N - D.length = q + 1 := ⟨N - D.length - 1, by omega⟩;have hq2 : N - (D ++ [x]).length = q := by simp; omega
  rw [hq, hq2, List.replicate_succ, List.set_append_right _ _ (by simp)];simp [iv]
 rw [<- e3]; exact h.row.set D.length (.int .i64 (x : Int))
theorem z4K.at0 {w : World} {b N n : Nat} {D : List Nat} {W' : World} (h : z4K w b N D W') (hn : D.length = n) (hN : n + 1 <= N) : W'.cell? ⟨b, n, none⟩ = some (.int .i64 0) := by
 subst hn;rw [h.row.cell, List.getElem?_append_right (by simp)];have : 0 < N - D.length := by omega
 simp [iv, this]
set_option maxRecDepth 100000 in
set_option maxHeartbeats 4000000 in
theorem z8p (ao : Option Addr) (len cap : Nat) (ws : List Nat) (w : World) (hA : WAt w ao ws) (hl : len = ws.length) (hm : len <= 8796093022208) :
 Calls Tryz.prog 98 #[.slice ao len cap] w fun e w' => (∃ b ds, e = .returned (.slice (some ⟨b, 0, none⟩) ds.length (4 * len)) /\ w.heap.size <= b /\ Hex (z01 ws) ds /\ DAt w' (some ⟨b, 0, none⟩) ds /\ ds.length <= 4 * len /\ b < w'.heap.size) /\ Below w.heap.size w w' := by
 subst hl;have HA := Lib.hid hA; clear hA;have hw4 : IntKind.i64.wrap (4 * (ws.length : Int)) = ((4 * ws.length : Nat) : Int) := by rw [wrap_small] <;> omega
 go_enter Tryz.func98, Tryz.ntmps98;go_wp2_with (at_make; refine z3v rfl _ _ rfl (4 * ws.length) (4 * ws.length) rfl rfl (by omega) (by omega) (Nat.le_refl _) (by omega) ?_; intro b w1 hm1)
 have hI : z4K w b (4 * ws.length) [] w1 := ⟨by have := hm1.row; rw [List.map_replicate] at this; simpa using this, hm1.below, by have := hm1.at_; omega⟩;have HI := Lib.hid hI; clear hI hm1;clear hw4;go_loopw [4] (fun i_ wr => ∃ (i : Nat), i <= ws.length /\ i_ = .int .i64 (i : Int) /\ Hid (z4K w b (4 * ws.length) (spl (ws.take i)) wr)) (fun i_ _ => ws.length - (intOf i_).toNat)
 case atStart => exact ⟨0, Nat.zero_le _, rfl, Lib.hid (by simpa [spl] using HI.out)⟩
 case round =>
  obtain ⟨i, hi, rfl, hIr⟩ := hrel;by_cases hin : i < ws.length
  · have hin1 : (i : Int) < (ws.length : Int) := by omega
    obtain ⟨ab, aoff, rfl, hab, hc⟩ := (HA.out.below hIr.out.bel).pos (by omega);have hcell := hc i hin;have hgwW := HA.out.ok.gw i;obtain ⟨x, hx⟩ : ∃ x, gw ws i = x := ⟨_, rfl⟩;rw [hx] at hcell hgwW;have Hx := Lib.hid hx; clear hx hc;go_wp2;go_loopw [5, 6] (fun x_ k_ wq => ∃ (k : Nat), k <= 4 /\ k_ = .int .i64 (k : Int) /\ x_ = .int .u64 ((x / HX ^ k : Nat) : Int) /\ Hid (z4K w b (4 * ws.length) (spl (ws.take i) ++ (sp4 x).take k) wq)) (fun _ k_ _ => 4 - (intOf k_).toNat)
    case atStart => exact ⟨0, by omega, rfl, by simp, Lib.hid (by simpa using hIr.out)⟩
    case round =>
     obtain ⟨k, hk, rfl, rfl, hIq⟩ := hrel;by_cases hk4 : k < 4
     · have hk41 : (k : Int) < 4 := by omega
       obtain ⟨y, hy⟩ : ∃ y, x / HX ^ k = y := ⟨_, rfl⟩;have hyW : y < W := by rw [<- hy]; exact Nat.lt_of_le_of_lt (Nat.div_le_self ..) hgwW
       have hlen : (spl (ws.take i) ++ (sp4 x).take k).length = 4 * i + k := by
        rw [List.length_append, z3F, List.length_take, List.length_take, z3u, Nat.min_eq_left (by omega), Nat.min_eq_left (by omega)]
       have hroom : 4 * i + k + 1 <= 4 * ws.length := by omega
       have hnext : spl (ws.take i) ++ (sp4 x).take (k + 1) = (spl (ws.take i) ++ (sp4 x).take k) ++ [y % HX] := by
        have hd : (sp4 x).take (k + 1) = (sp4 x).take k ++ [y % HX] := by
         rw [<- hy];match k, hk4 with
         | 0, _ => simp [sp4]
         | 1, _ => simp [sp4, HX]
         | 2, _ => simp [sp4, HX, Nat.div_div_eq_div_mul]
         | 3, _ => simp [sp4, HX, Nat.div_div_eq_div_mul]
        rw [hd, List.append_assoc]
       have hdiv : x / HX ^ (k + 1) = y / HX := by rw [<- hy, Nat.div_div_eq_div_mul, Nat.pow_succ]
       rw [hy];generalize spl (ws.take i) ++ (sp4 x).take k = D at *;have HN := Lib.hid (And.intro hnext hdiv); clear hnext hdiv hy;have hr1 : z6x y 65536 < 9223372036854775808 := Nat.lt_of_lt_of_le (Nat.mod_lt _ (by omega)) (by omega);have c0 := hIq.out.at0 hlen hroom;have f0 := hIq.out.row.free (4 * i + k);have HL := Lib.hid hlen; clear hlen;have hi1 : 4 * (i : Int) + (k : Int) < 4 * (ws.length : Int) := by omega
       go_wp2_with (first
        | (with_reducible show wpList _ _ _ (⟨some 32, _, _, _, _, _⟩ :: _) _ _; refine zc9 rfl _ _ rfl y 65536 hyW (by omega) rfl rfl rfl rfl ?_)
        | (with_reducible show wpList _ _ _ (⟨some 33, _, _, _, _, _⟩ :: _) _ _; refine z0U rfl (zaX _ _ _ rfl (z6x y 65536) hr1 rfl) ?_)
        | (with_reducible show wpList _ _ _ (⟨some 36, _, _, _, _, _⟩ :: _) _ _; refine z8z rfl _ _ rfl y 65536 hyW (by omega) rfl rfl rfl rfl ?_))
       go_roundw
       case rel =>
        refine ⟨k + 1, by omega, by go_num, ?_, Lib.hid ?_⟩
        · rw [HN.out.2]; rfl
        · rw [HN.out.1]; exact hIq.out.put HL.out hroom (z6x y 65536)
       case measure => simp [intOf]; omega
     · obtain rfl : k = 4 := by omega
       go_wp2;go_roundw
       case rel =>
        have h9 := hIq.out;refine ⟨i + 1, by omega, by go_num, Lib.hid ?_⟩;have e : spl (ws.take (i + 1)) = spl (ws.take i) ++ sp4 x := by
         rw [List.take_succ_eq_append_getElem hin];have : ws[i] = x := by rw [<- Hx.out]; simp [gw, hin]
         simp [spl, this]
        rw [e]; exact h9
       case measure => simp [intOf]; omega
  · obtain rfl : i = ws.length := by omega
    have hIe := hIr.out;rw [List.take_length] at hIe;have z0m := zb6 HA.out.ok;have hlen := z3F ws;have hH := Hex.of (zcJ ws);rw [z0m] at hH;have htl := z0e (spl ws);have HD := Lib.hid (show DAt wr (some ⟨b, 0, none⟩) (spl ws) from DAt.row hIe.row);have HH := Lib.hid (And.intro hH (And.intro hlen htl));have hlt := hIe.row.lt;obtain ⟨t, ht⟩ : ∃ t, z08 (spl ws) = t := ⟨_, rfl⟩;rw [ht] at HH;have hlen2 : t <= 4 * ws.length := by have := HH.out.2; omega
    have HTL := Lib.hid ht; clear ht;clear hH z0m hlen htl hIe;go_wp2
    go_loop [7] (fun n_ => ∃ k : Nat, k <= 4 * ws.length /\ t <= k /\ n_ = .int .i64 k) (fun i => (intOf i).toNat)
    case atStart => exact ⟨4 * ws.length, by omega, by omega, by go_num⟩
    case round =>
     obtain ⟨k, hk, ht, rfl⟩ := hrel;by_cases h0 : 0 < k
     · obtain ⟨b', o', e', hb', hc'⟩ := HD.out (by rw [HH.out.2.1]; omega);simp only [Option.some.injEq, Addr.mk.injEq, and_true] at e';obtain ⟨rfl, rfl⟩ := e';have hcell := hc' (k - 1) (by rw [HH.out.2.1]; omega);rw [Nat.zero_add] at hcell;have hkb : (k : Int) - 1 < 4 * (ws.length : Int) := by omega
       by_cases hz : gw (spl ws) (k - 1) = 0
       · have hzb : (((gw (spl ws) (k - 1) : Nat) : Int) == 0) = true := by rw [hz]; rfl
         have hnk : t <= k - 1 := by
          rw [<- HTL.out];exact z1Q (spl ws) (k - 1) (fun j hj => by
           by_cases hj' : j = k - 1
           · rw [hj']; exact hz
           · exact z1r (spl ws) j (by have := HTL.out; omega))
         clear hz hc';go_wp2
         go_round
         case rel => exact ⟨k - 1, by omega, hnk, by go_num⟩
         case measure => simp [intOf]; omega
       · have hzb : (((gw (spl ws) (k - 1) : Nat) : Int) == 0) = false := by rw [beq_eq_false_iff_ne]; omega
         have h1 := z3e (spl ws) (k - 1) hz;have hke : k = t := by have := HTL.out; omega
         clear hc' hz h1;subst hke;go_wp2;go_ret;have hl2 : ((spl ws).take k).length = k := by rw [List.length_take, Nat.min_eq_left HH.out.2.2]
         have hH := HH.out.1;refine ⟨⟨b, (spl ws).take k, ?_, hIr.out.ge, hH, HD.out.take _, by omega, hlt⟩, hIr.out.bel⟩;rw [hl2]; rfl
     · have hke : k = t := by omega
       subst hke;go_wp2;go_ret;have hl2 : ((spl ws).take k).length = k := by rw [List.length_take, Nat.min_eq_left HH.out.2.2]
       have hH := HH.out.1;refine ⟨⟨b, (spl ws).take k, ?_, hIr.out.ge, hH, HD.out.take _, by omega, hlt⟩, hIr.out.bel⟩;rw [hl2]; rfl
def pw (ds : List Nat) (j q : Nat) : Nat := z0m ((ds.take (4 * q + 4)).drop (max j (4 * q)))
theorem zbp (l : List Nat) {j : Nat} (hj : j < l.length) : z0m (l.drop j) = gw l j + HX * z0m (l.drop (j + 1)) := by
 rw [List.drop_eq_getElem_cons hj, z0m]; simp [gw, hj]
theorem zda {ds : List Nat} {j : Nat} (hj : j < ds.length) : pw ds j (j / 4) = gw ds j + HX * pw ds (j + 1) (j / 4) := by
 unfold pw;rw [Nat.max_eq_left (by omega), Nat.max_eq_left (by omega), zbp _ (by simp; omega), gw_tk (by omega)]
theorem zdt {ds : List Nat} {j q : Nat} (h : q ≠ j / 4) : pw ds j q = pw ds (j + 1) q := by
 unfold pw;by_cases h1 : j < 4 * q
 · rw [Nat.max_eq_right (by omega), Nat.max_eq_right (by omega)]
 · rw [List.drop_of_length_le (by simp; omega), List.drop_of_length_le (by simp; omega)]
theorem pw_top {ds : List Nat} {q : Nat} : pw ds ds.length q = 0 := by
 unfold pw;rw [List.drop_of_length_le (by simp; omega)]; rfl
theorem zd5 (ds : List Nat) (q : Nat) : pw ds 0 q = ch4 ds q := by
 unfold pw ch4;rw [Nat.max_eq_right (by omega), List.drop_take];congr 2; omega
theorem zdn {ds : List Nat} (h : HOk ds) (j : Nat) : pw ds (j + 1) (j / 4) < HX ^ 3 := by
 unfold pw;refine Nat.lt_of_lt_of_le (z3y ((h.take _).drop _)) (Nat.pow_le_pow_right z3B ?_);rw [Nat.max_eq_left (by omega)];simp; omega
theorem pw_set {ds : List Nat} {j Q : Nat} (hj : j < ds.length) (hQ : j / 4 < Q) : ((List.range Q).map (pw ds (j + 1))).set (j / 4) (gw ds j + HX * pw ds (j + 1) (j / 4)) = (List.range Q).map (pw ds j) := by
 refine List.ext_getElem (by simp) fun q h1 h2 => ?_;rw [List.getElem_set];by_cases e : j / 4 = q
 · rw [if_pos e]; subst e; simp [zda hj]
 · rw [if_neg e]; simp [zdt (fun h => e h.symm)]
set_option maxRecDepth 100000 in
set_option maxHeartbeats 4000000 in
theorem zc2 (b0 len cap : Nat) (ds : List Nat) (w : World) (hA : z00 w b0 3 (ds.map iv)) (hok : HOk ds) (hl : len = ds.length) (hm : len <= 70368744177664) :
 Calls Tryz.prog 99 #[.slice (some ⟨b0, 0, none⟩) len cap] w fun e w' => (∃ ao' cap', e = .returned (.slice ao' (z04 (z0m ds)) cap') /\ z16 w' w.heap.size ao' (z04 (z0m ds)) cap' (dig (z0m ds))) /\ Below w.heap.size w w' := by
 subst hl;have HA := Lib.hid hA; clear hA;have HO := Lib.hid hok; clear hok;obtain ⟨Q, hQ⟩ : ∃ Q, (ds.length + 3) / 4 = Q := ⟨_, rfl⟩;have hQd : ds.length <= 4 * Q := by omega
 have hQb : Q <= 17592186044417 := by omega
 have hdv : IntKind.i64.wrap (((ds.length : Int) + 3).tdiv 4) = (Q : Int) := by
  have e : ((ds.length : Int) + 3).tdiv 4 = (((ds.length + 3) / 4 : Nat) : Int) := by
   rw [show ((ds.length : Int) + 3) = ((ds.length + 3 : Nat) : Int) by omega];exact (Int.ofNat_tdiv (ds.length + 3) 4).symm
  rw [e, hQ]; exact wrap_small (by omega) (by omega)
 have HQ := Lib.hid hQ; clear hQ;go_enter Tryz.func99, Tryz.ntmps99;go_wp2_with (at_make; refine z1s rfl _ _ rfl Q Q rfl rfl rfl rfl (Nat.le_refl _) (by omega) ?_; intro b w1 hm1)
 have hrow : z00 w1 b 49 (((List.range Q).map (pw ds ds.length)).map wv) := by
  have e : (List.range Q).map (pw ds ds.length) = List.replicate Q 0 := by
   refine List.ext_getElem (by simp) fun q h1 h2 => by simp [pw_top]
  rw [e]; exact hm1.row
 have hbg : w.heap.size <= b /\ b0 < b := by have := hm1.at_; have := HA.out.lt; omega
 have HR := Lib.hid hrow; clear hrow;have HB := Lib.hid hm1.below;clear hm1 hdv;go_loopw [4] (fun i_ wr => ∃ (j : Nat), j <= ds.length /\ i_ = .int .i64 ((j : Int) - 1) /\ Hid (z00 wr b 49 (((List.range Q).map (pw ds j)).map wv)) /\ Hid (Below w.heap.size w wr)) (fun i_ _ => (intOf i_ + 1).toNat)
 case atStart => exact ⟨ds.length, Nat.le_refl _, rfl, HR, HB⟩
 case round =>
  obtain ⟨j', hj, rfl, hR, hBl⟩ := hrel;rcases Nat.eq_zero_or_pos j' with h0 | h0
  · subst h0;have hL : (List.range Q).map (pw ds 0) = (List.range Q).map (ch4 ds) := List.map_congr_left (fun q _ => zd5 ds q);have hR' := hR.out;rw [hL] at hR';have hv := z7e Q ds hQd;have hok := zaw HO.out Q;obtain ⟨ls, hls⟩ : ∃ ls, (List.range Q).map (ch4 ds) = ls := ⟨_, rfl⟩;have hll : ls.length = Q := by rw [<- hls]; simp
    rw [hls] at hR' hv hok;have hdig := z2N hok;have htl := z0e ls;rw [hv] at hdig;have hwl : z04 (z0m ds) = z08 ls := by unfold z04; rw [hdig, List.length_take, Nat.min_eq_left htl]
    obtain ⟨t, ht⟩ : ∃ t, z08 ls = t := ⟨_, rfl⟩;have HT := Lib.hid ht;have HR2 := Lib.hid hR';have HOK := Lib.hid hok;have HD := Lib.hid hdig;rw [ht] at htl hwl;have HWL := Lib.hid hwl;have HLL := Lib.hid hll;have htQ : t <= Q := by omega
    clear hR' hok hdig ht htl hwl hll hv hls hL;go_wp2
    go_loop [5] (fun n_ => ∃ k : Nat, k <= Q /\ t <= k /\ n_ = .int .i64 k) (fun i => (intOf i).toNat)
    case atStart => exact ⟨Q, Nat.le_refl _, htQ, rfl⟩
    case round =>
     obtain ⟨k, hk, ht, rfl⟩ := hrel;by_cases h0 : 0 < k
     · have hcell := HR2.out.word (i := k - 1) (by rw [HLL.out]; omega);have hkb : (k : Int) - 1 < (Q : Int) := by omega
       by_cases hz : gw ls (k - 1) = 0
       · have hzb : (((gw ls (k - 1) : Nat) : Int) == 0) = true := by rw [hz]; rfl
         have hnk : t <= k - 1 := by
          rw [<- HT.out];exact z1Q ls (k - 1) (fun j hj => by
           by_cases hj' : j = k - 1
           · rw [hj']; exact hz
           · exact z1r ls j (by have := HT.out; omega))
         clear hz;go_wp2
         go_round
         case rel => exact ⟨k - 1, by omega, hnk, by go_num⟩
         case measure => simp [intOf]; omega
       · have hzb : (((gw ls (k - 1) : Nat) : Int) == 0) = false := by rw [beq_eq_false_iff_ne]; omega
         have h1 := z3e ls (k - 1) hz;have hke : k = t := by have := HT.out; omega
         clear hz h1;subst hke;go_wp2;go_ret;rw [HWL.out];refine ⟨⟨some ⟨b, 0, none⟩, Q, rfl, ?_⟩, hBl.out⟩;have h1 := HR2.out.own (n := k) (B := w.heap.size) (cap := Q) HOK.out hbg.1 (by rw [HLL.out]; exact hk) HLL.out.symm (by unfold maxLen; omega);rw [HD.out, HT.out]; exact h1
     · have hke : k = t := by omega
       subst hke;go_wp2;go_ret;rw [HWL.out];refine ⟨⟨some ⟨b, 0, none⟩, Q, rfl, ?_⟩, hBl.out⟩;have h1 := HR2.out.own (n := k) (B := w.heap.size) (cap := Q) HOK.out hbg.1 (by rw [HLL.out]; exact hk) HLL.out.symm (by unfold maxLen; omega);rw [HD.out, HT.out]; exact h1
  · obtain ⟨j, rfl⟩ : ∃ j, j' = j + 1 := ⟨j' - 1, by omega⟩;have e1 : ((j + 1 : Nat) : Int) - 1 = (j : Int) := by omega
    rw [e1]; clear e1;have hpos : (0 : Int) <= (j : Int) := by omega
    have hjl : (j : Int) < (ds.length : Int) := by omega
    have hq : j / 4 < Q := by omega
    have hc := (HA.out.below hBl.out HA.out.lt).z7J (i := j) (by omega);have hg := hR.out.word (i := j / 4) (by simp; exact hq);have hg2 : gw ((List.range Q).map (pw ds (j + 1))) (j / 4) = pw ds (j + 1) (j / 4) := by
     unfold gw; simp [hq]
    rw [hg2] at hg;have hset := pw_set (ds := ds) (j := j) (Q := Q) (by omega) hq;have hp3 := zdn HO.out j;have hd := HO.out.gw_ j;obtain ⟨v, hv⟩ : ∃ v, pw ds (j + 1) (j / 4) = v := ⟨_, rfl⟩;obtain ⟨d, hde⟩ : ∃ d, gw ds j = d := ⟨_, rfl⟩;rw [hv] at hset hp3 hg;rw [hde] at hset hd hc;have hv3 : v <= 281474976710655 := by unfold HX at hp3; omega
    have hd3 : d <= 65535 := by unfold HX at hd; omega
    have hw1 : IntKind.u64.wrap ((v : Int) * 65536) = (v : Int) * 65536 := by rw [IntKind.wrap_u64]; omega
    have hw2 : IntKind.u64.wrap ((d : Int)) = (d : Int) := by rw [IntKind.wrap_u64]; omega
    have hw3 : IntKind.u64.wrap ((v : Int) * 65536 + (d : Int)) = (v : Int) * 65536 + (d : Int) := by rw [IntKind.wrap_u64]; omega
    have hf := hR.out.free (j / 4);have hjq : IntKind.i64.wrap ((j : Int) / 4) = (j : Int) / 4 := wrap_small (by omega) (by omega);have hqi : (j : Int) / 4 < (Q : Int) := by omega
    have hqp : 0 <= (j : Int) / 4 := by omega
    have hqn : ((j : Int) / 4).toNat = j / 4 := by omega
    have HS := Lib.hid hset; clear hset hg2 hv hde hp3 hd;go_wp2
    go_region
    go_wp2;go_roundw
    case rel =>
     refine ⟨j, by omega, by go_num, Lib.hid ?_, Lib.hid ?_⟩
     · have h9 := (hR.out.z17 (j / 4) (d + HX * v));rw [HS.out] at h9;have e : ((d + HX * v : Nat) : Int) = (v : Int) * 65536 + (d : Int) := by unfold HX; omega
       rw [e] at h9;exact h9
     · exact (hBl.out.setCell (p := ⟨b, j / 4, none⟩) hbg.1 _).drew
    case measure => simp only [intOf]; omega
structure za0 (w : World) (b i j c : Nat) (xs ys cu : List Nat) (W' : World) : Prop where
 len : cu.length = xs.length + ys.length
 ok : HOk cu
 c1 : c < HX
 val : z0m cu + HX ^ (i + j) * c = z0m (xs.take i) * z0m ys + HX ^ i * (gw xs i * z0m (ys.take j))
 hi : ∀ k, i + ys.length <= k -> gw cu k = 0
 row : z00 W' b 3 (cu.map iv)
 bel : Below w.heap.size w W'
structure MulO (w : World) (b i : Nat) (xs ys cu : List Nat) (W' : World) : Prop where
 len : cu.length = xs.length + ys.length
 ok : HOk cu
 val : z0m cu = z0m (xs.take i) * z0m ys
 hi : ∀ k, i + ys.length <= k -> gw cu k = 0
 row : z00 W' b 3 (cu.map iv)
 bel : Below w.heap.size w W'
theorem zcV {l : List Nat} {k v j : Nat} (hk : k < l.length) : gw (l.set k v) j = if j = k then v else gw l j := by
 unfold gw;rw [List.getD_eq_getElem?_getD, List.getElem?_set, List.getD_eq_getElem?_getD];by_cases h : k = j
 · subst h; simp [hk]
 · rw [if_neg h, if_neg (fun e => h e.symm)]
theorem z5o {l : List Nat} {k v : Nat} (hk : k < l.length) : z0m (l.set k v) + HX ^ k * gw l k = z0m l + HX ^ k * v := by
 have h1 : l = l.take k ++ (gw l k :: l.drop (k + 1)) := by
  conv => lhs; rw [<- List.take_append_drop k l, List.drop_eq_getElem_cons hk]
  simp [gw, hk]
 have h2 : l.set k v = l.take k ++ (v :: l.drop (k + 1)) := by
  rw [List.set_eq_take_append_cons_drop]; simp [hk]
 have e1 : z0m l = z0m (l.take k) + HX ^ k * (gw l k + HX * z0m (l.drop (k + 1))) := by
  conv => lhs; rw [h1]
  rw [z1B, List.length_take, Nat.min_eq_left (by omega)]; rfl
 have e2 : z0m (l.set k v) = z0m (l.take k) + HX ^ k * (v + HX * z0m (l.drop (k + 1))) := by
  rw [h2, z1B, List.length_take, Nat.min_eq_left (by omega)]; rfl
 rw [e1, e2, Nat.mul_add, Nat.mul_add]; omega
theorem za0.step {w : World} {b i j c : Nat} {xs ys cu : List Nat} {W' : World} (h : za0 w b i j c xs ys cu W') (hb : w.heap.size <= b) (hi : i < xs.length) (hj : j < ys.length) {s : Nat} (hs : s = gw cu (i + j) + gw xs i * gw ys j + c) (hc : s / 65536 < 65536) :
 za0 w b i (j + 1) (s / 65536) xs ys (cu.set (i + j) (s % 65536)) (W'.setCell ⟨b, i + j, none⟩ (.int .i64 ((s % 65536 : Nat) : Int))) := by
 have hl : i + j < cu.length := by rw [h.len]; omega
 refine ⟨by rw [List.length_set]; exact h.len, h.ok.set _ _ (by unfold HX; omega), by unfold HX; exact hc, ?_, fun k hk => ?_, h.row.z5m _ _, h.bel.setCell (p := ⟨b, i + j, none⟩) hb _⟩
 · have e1 := z5o (v := s % 65536) hl;have e2 := h.val;have e3 := z0s ys j;have e4 : HX ^ (i + (j + 1)) * (s / 65536) = HX ^ (i + j) * (65536 * (s / 65536)) := by rw [<- Nat.add_assoc, Nat.pow_succ, Nat.mul_assoc]; rfl
   have e5 : HX ^ (i + j) * (s % 65536) + HX ^ (i + j) * (65536 * (s / 65536)) = HX ^ (i + j) * s := by rw [<- Nat.mul_add, Nat.mod_add_div]
   have e6 : HX ^ (i + j) * s = HX ^ (i + j) * gw cu (i + j) + HX ^ (i + j) * (gw xs i * gw ys j) + HX ^ (i + j) * c := by rw [hs, Nat.mul_add, Nat.mul_add]
   have e7 : HX ^ i * (gw xs i * z0m (ys.take (j + 1))) = HX ^ i * (gw xs i * z0m (ys.take j)) + HX ^ (i + j) * (gw xs i * gw ys j) := by
    rw [e3, Nat.mul_add, Nat.mul_add, Nat.pow_add];have : HX ^ i * (gw xs i * (HX ^ j * gw ys j)) = HX ^ i * HX ^ j * (gw xs i * gw ys j) := by
     rw [Nat.mul_left_comm (gw xs i), Nat.mul_assoc]
    omega
   omega
 · rw [zcV hl, if_neg (by omega)]; exact h.hi k hk
theorem za0.last {w : World} {b i c : Nat} {xs ys cu : List Nat} {W' : World} (h : za0 w b i ys.length c xs ys cu W') (hb : w.heap.size <= b) (hi : i < xs.length) :
 MulO w b (i + 1) xs ys (cu.set (i + ys.length) c) (W'.setCell ⟨b, i + ys.length, none⟩ (.int .i64 (c : Int))) := by
 have hl : i + ys.length < cu.length := by rw [h.len]; omega
 refine ⟨by rw [List.length_set]; exact h.len, h.ok.set _ _ h.c1, ?_, fun k hk => ?_, h.row.z5m _ _, h.bel.setCell (p := ⟨b, i + ys.length, none⟩) hb _⟩
 · have e1 := z5o (v := c) hl;rw [h.hi (i + ys.length) (Nat.le_refl _), Nat.mul_zero, Nat.add_zero] at e1;have e2 := h.val;rw [List.take_length] at e2;rw [e1, e2, z0s, Nat.add_mul, Nat.mul_assoc]
 · rw [zcV hl, if_neg (by omega)]; exact h.hi k (by omega)
theorem z8C (n k : Nat) : gw (List.replicate n 0) k = 0 := by
 unfold gw;rw [List.getD_eq_getElem?_getD, List.getElem?_replicate];split <;> rfl
set_option maxRecDepth 100000 in
set_option maxHeartbeats 8000000 in
theorem zcT (aoA aoB : Option Addr) (lA cA lB cB : Nat) (xs ys : List Nat) (w : World) (hA : WAt w aoA xs) (hB : WAt w aoB ys) (hlA : lA = xs.length) (hlB : lB = ys.length) (hmA : lA <= 1099511627776) (hmB : lB <= 1099511627776) :
 Calls Tryz.prog 57 #[.slice aoA lA cA, .slice aoB lB cB] w fun e w' => (∃ ao' cap', e = .returned (.slice ao' (z04 (z01 xs * z01 ys)) cap') /\ z16 w' w.heap.size ao' (z04 (z01 xs * z01 ys)) cap' (dig (z01 xs * z01 ys))) /\ Below w.heap.size w w' := by
 have HS1 := Lib.hid (z8p aoA lA cA xs w hA hlA (by omega));have HB := Lib.hid hB; clear hB;have HlB := Lib.hid hlB; clear hlB;clear hA hlA;go_enter Tryz.func57, Tryz.ntmps57;go_wp2_with fail
 refine HS1.out.mono ?_;rintro e w2 ⟨⟨b1, ds, rfl, hb1, hH, hD, hdl, hlt1⟩, hb2⟩;have HS2 := Lib.hid (z8p aoB lB cB ys w2 (HB.out.below hb2) HlB.out (by omega));have HH := Lib.hid hH; clear hH;have HD := Lib.hid hD; clear hD;have HB2 := Lib.hid hb2; clear hb2;go_wp2_with fail
 refine HS2.out.mono ?_;rintro e w3 ⟨⟨b2, es, rfl, hb', hH', hD', hel, hlt2⟩, hb3⟩;have HT : Hid (Two w3 b1 b2 (z01 xs) (z01 ys) ds es) := Lib.hid ⟨HH.out, hH', HD.out.below hb3, hD'⟩;have HB3 := Lib.hid (HB2.out.trans (hb3.mono HB2.out.size));have hTB : b1 < w3.heap.size /\ b2 < w3.heap.size := ⟨Nat.lt_of_lt_of_le hlt1 hb3.size, hlt2⟩;clear hH' hD' hb3 HH HD HB2 HS1 HS2 hb1 hb' hlt1 hlt2;go_wp2_with (at_make; refine z3v rfl _ _ rfl (ds.length + es.length) (ds.length + es.length) rfl rfl (by omega) (by omega) (Nat.le_refl _) (by omega) ?_; intro b w4 hm4)
 have hbg : w.heap.size <= b := by have := hm4.at_; have := HB3.out.size; omega
 have hbb : b1 < b /\ b2 < b := by have := hm4.at_; omega
 have HI : Hid (MulO w b 0 ds es (List.replicate (ds.length + es.length) 0) w4) := Lib.hid ⟨by simp, HOk.replicate _, by simp [z0m, z6P], fun k _ => z8C _ k, hm4.row, HB3.out.trans (hm4.below.mono HB3.out.size)⟩;have HT4 := Lib.hid (HT.out.below hm4.below);clear hm4 HT HB3 hTB;go_loopw [8] (fun i_ wr => ∃ (i : Nat) (cu : List Nat), i <= ds.length /\ i_ = .int .i64 (i : Int) /\ Hid (MulO w b i ds es cu wr) /\ Hid (Two wr b1 b2 (z01 xs) (z01 ys) ds es)) (fun i_ _ => ds.length - (intOf i_).toNat)
 case atStart => exact ⟨0, _, Nat.zero_le _, rfl, HI, HT4⟩
 case round =>
  obtain ⟨i, cu0, hi, rfl, hO, hT0⟩ := hrel;by_cases hin : i < ds.length
  · have hin1 : (i : Int) < (ds.length : Int) := by omega
    have HI0 : Hid (za0 w b i 0 0 ds es cu0 wr) := Lib.hid ⟨hO.out.len, hO.out.ok, by unfold HX; omega, by rw [hO.out.val]; simp [z0m], hO.out.hi, hO.out.row, hO.out.bel⟩;clear hO;go_wp2;go_loopw [9, 10] (fun c_ j_ wq => ∃ (j c : Nat) (cu : List Nat), j <= es.length /\ j_ = .int .i64 (j : Int) /\ c_ = .int .i64 (c : Int) /\ Hid (za0 w b i j c ds es cu wq) /\ Hid (Two wq b1 b2 (z01 xs) (z01 ys) ds es)) (fun _ j_ _ => es.length - (intOf j_).toNat)
    case atStart => exact ⟨0, 0, _, Nat.zero_le _, rfl, rfl, HI0, hT0⟩
    case round =>
     obtain ⟨j, c, cu, hj, rfl, rfl, hI, hT⟩ := hrel;by_cases hjn : j < es.length
     · have hjn1 : (j : Int) < (es.length : Int) := by omega
       obtain ⟨b1', o1', e1', hlt1', hc1'⟩ := hT.out.d1 (by omega);simp only [Option.some.injEq, Addr.mk.injEq, and_true] at e1';obtain ⟨rfl, rfl⟩ := e1';have k1 := hc1' i hin;rw [Nat.zero_add] at k1;obtain ⟨b2', o2', e2', hlt2', hc2'⟩ := hT.out.d2 (by omega);simp only [Option.some.injEq, Addr.mk.injEq, and_true] at e2';obtain ⟨rfl, rfl⟩ := e2';have k2 := hc2' j hjn;rw [Nat.zero_add] at k2;have k3 := hI.out.row.z7J (i := i + j) (by rw [hI.out.len]; omega);have hx := hT.out.h1.ok.gw_ i;have hy := hT.out.h2.ok.gw_ j;have hz := hI.out.ok.gw_ (i + j);have hcc := hI.out.c1;obtain ⟨x, hxe⟩ : ∃ x, gw ds i = x := ⟨_, rfl⟩;obtain ⟨y, hye⟩ : ∃ y, gw es j = y := ⟨_, rfl⟩;obtain ⟨z, hze⟩ : ∃ z, gw cu (i + j) = z := ⟨_, rfl⟩;rw [hxe] at hx k1;rw [hye] at hy k2;rw [hze] at hz k3;unfold HX at hx hy hz hcc;have hxy : x * y <= 65535 * 65535 := Nat.mul_le_mul (by omega) (by omega);obtain ⟨p, hp⟩ : ∃ p, x * y = p := ⟨_, rfl⟩;rw [hp] at hxy;obtain ⟨s, hs⟩ : ∃ s, z + p + c = s := ⟨_, rfl⟩;have hsb : s <= 4294967295 := by omega
       have HST := Lib.hid (show s = gw cu (i + j) + gw ds i * gw es j + c by rw [hxe, hye, hze, hp]; exact hs.symm);have hdb : s / 65536 < 65536 := by omega
       have hm1 : IntKind.i64.wrap ((x : Int) * (y : Int)) = (p : Int) := by
        rw [<- Int.natCast_mul, hp]; exact wrap_small (by omega) (by omega)
       have hm2 : IntKind.i64.wrap ((z : Int) + (p : Int)) = (z : Int) + (p : Int) := wrap_small (by omega) (by omega);have hm3 : IntKind.i64.wrap ((z : Int) + (p : Int) + (c : Int)) = (s : Int) := by
        rw [show (z : Int) + (p : Int) + (c : Int) = (s : Int) by omega]; exact wrap_small (by omega) (by omega)
       have hm4 : IntKind.i64.wrap ((i : Int) + (j : Int)) = (i : Int) + (j : Int) := wrap_small (by omega) (by omega);have hm5 : (i : Int) + (j : Int) < (ds.length : Int) + (es.length : Int) := by omega
       have hm6 : 0 <= (i : Int) + (j : Int) := by omega
       have hm7 : ((i : Int) + (j : Int)).toNat = i + j := by omega
       have f3 := hI.out.row.free (i + j);clear hs hp hxe hye hze hc1' hc2';go_wp2
       go_quiet (fail)
       have hT2 := Two.below (w := wr) hT.out (below_drewN (Below.refl _ _) nq);have hI2 : za0 w b i j c ds es cu (wr.drewN nq) := ⟨hI.out.len, hI.out.ok, hI.out.c1, hI.out.val, hI.out.hi, hI.out.row.below (below_drewN (Below.refl _ _) nq) hI.out.row.lt, below_drewN hI.out.bel nq⟩;generalize wr.drewN nq = w6 at *;have g3 := hI2.row.z7J (i := i + j) (by rw [hI2.len]; omega);have g4 := hI2.row.free (i + j);have HN := Lib.hid (hI2.step hbg hin hjn HST.out hdb);have HT2 := Lib.hid (hT2.z5m hI2.row hbb (i + j) (.int .i64 ((s % 65536 : Nat) : Int)));clear hT2 hI2 k1 k2 k3 f3;go_wp2_with (first
        | (with_reducible show wpList _ _ _ (⟨some 57, _, _, _, _, _⟩ :: _) _ _; refine z8V rfl _ _ rfl s 65536 (by omega) (by omega) rfl rfl rfl rfl ?_)
        | (with_reducible show wpList _ _ _ (⟨some 60, _, _, _, _, _⟩ :: _) _ _; refine z8N rfl _ _ rfl s 65536 (by omega) (by omega) rfl rfl rfl rfl ?_))
       go_roundw
       case rel => exact ⟨j + 1, s / 65536, _, by omega, by go_num, rfl, HN, HT2⟩
       case measure => simp [intOf]; omega
     · obtain rfl : j = es.length := by omega
       have hm4 : IntKind.i64.wrap ((i : Int) + (es.length : Int)) = (i : Int) + (es.length : Int) := wrap_small (by omega) (by omega);have hm5 : (i : Int) + (es.length : Int) < (ds.length : Int) + (es.length : Int) := by omega
       have g3 := hI.out.row.z7J (i := i + es.length) (by rw [hI.out.len]; omega);have g4 := hI.out.row.free (i + es.length);have HN := Lib.hid (hI.out.last hbg hin);have HT2 := Lib.hid (hT.out.z5m hI.out.row hbb (i + es.length) (.int .i64 (c : Int)));go_wp2;go_roundw
       case rel => exact ⟨i + 1, _, by omega, by go_num, HN, HT2⟩
       case measure => simp [intOf]; omega
  · obtain rfl : i = ds.length := by omega
    have hO' := hO.out;have hfin : z0m cu0 = z01 xs * z01 ys := by
     rw [hO'.val, List.take_length, hT0.out.h1.val, hT0.out.h2.val]
    have hj := zc2 b (ds.length + es.length) (ds.length + es.length) cu0 _ hO'.row hO'.ok hO'.len.symm (by omega);rw [hfin] at hj;have HJ := Lib.hid hj;have HBL := Lib.hid hO'.bel;clear hj hfin hO' hi hin;go_wp2_with fail
    refine HJ.out.mono ?_;rintro e w9 ⟨⟨ao', cap', rfl, hO9⟩, hb9⟩;have HO := Lib.hid (hO9.mono HBL.out.size);have HB9 := Lib.hid (HBL.out.trans (hb9.mono HBL.out.size));clear hO9 hb9;go_wp2;go_ret;exact ⟨⟨ao', cap', rfl, HO.out⟩, HB9.out⟩
set_option maxRecDepth 100000 in
set_option maxHeartbeats 1000000 in
theorem z3b (n : Bool) (ao : Option Addr) (len cap : Nat) (ws : List Nat) (w : World) (hA : WAt w ao ws) (hl : len = ws.length) (hm : len <= 8796093022208) :
 Calls Tryz.prog 58 #[.bool n, .slice ao len cap] w fun e w' => (∃ v', e = .returned v' /\ z05 w' w.heap.size v' (zi n (z01 ws))) /\ Below w.heap.size w w' := by
 have hb1 : Below w.heap.size w (w.alloc (.cells #[.bool false, .slice none 0 0] 45)) := (Below.refl _ _).alloc (Nat.le_refl _) _;have hr1 := z00.new w #[.bool false, .slice none 0 0] 45;have hs1 : (w.alloc (.cells #[.bool false, .slice none 0 0] 45)).heap.size = w.heap.size + 1 := by simp
 have HL := Lib.hid (zay ao len cap ws _ (hA.below hb1) hl hm);have HB1 := Lib.hid hb1; clear hb1;have HR1 := Lib.hid hr1; clear hr1;clear hA hl;go_enter Tryz.func58, Tryz.ntmps58;go_wp2_with fail
 generalize w.alloc (.cells #[.bool false, .slice none 0 0] 45) = w1 at *;refine HL.out.mono ?_;rintro e w2 ⟨⟨ao', cap', rfl, hO⟩, hb2⟩;have hr2 := HR1.out.below hb2 HR1.out.lt;have c0 := hr2.cell 0;have c1 := hr2.cell 1;have f0 := hr2.free 0;have f1 := hr2.free 1;have HR2 := Lib.hid hr2; clear hr2;have HO := Lib.hid hO; clear hO;have HB2 := Lib.hid (HB1.out.trans (hb2.mono HB1.out.size)); clear hb2;cases n;all_goals
  go_wp2;refine bodyPost_ret (z0i (p := 4) (by kernel_rfl) _ _ w.heap.size _ _ rfl (HR2.out.z2n _ _)) rfl ?_
 · refine ⟨⟨_, rfl, ?_⟩, (HB2.out.setCell (Nat.le_refl _) _).setCell (Nat.le_refl _) _⟩;have := z05.mk false ((HO.out.z19 (p := ⟨w.heap.size, 0, none⟩) (by show w.heap.size < w1.heap.size; omega) (.bool false)).z19 (p := ⟨w.heap.size, 1, none⟩) (by show w.heap.size < w1.heap.size; omega) (.slice ao' (z04 (z01 ws)) cap'));exact this.mono (by omega)
 · refine ⟨⟨_, rfl, ?_⟩, (HB2.out.setCell (Nat.le_refl _) _).setCell (Nat.le_refl _) _⟩;have := z05.mk true ((HO.out.z19 (p := ⟨w.heap.size, 0, none⟩) (by show w.heap.size < w1.heap.size; omega) (.bool (decide (0 < z04 (z01 ws))))).z19 (p := ⟨w.heap.size, 1, none⟩) (by show w.heap.size < w1.heap.size; omega) (.slice ao' (z04 (z01 ws)) cap'));simpa using this.mono (by omega)
set_option maxRecDepth 100000 in
set_option maxHeartbeats 1000000 in
theorem z9H (v : Value) (x : Int) (L : Nat) (w : World) (hA : z03 w L v x) (hL : L <= 8796093022208) :
 Calls Tryz.prog 90 #[v] w fun e w' => (∃ v', e = .returned v' /\ z05 w' w.heap.size v' x) /\ Below w.heap.size w w' := by
 obtain ⟨n, ao, len, cap, ws, rfl, hW, hl, hl2, hc, rfl⟩ := hA;obtain ⟨r1, r2, hb⟩ := z0H w #[.bool n, .slice ao len cap] #[.bool false, .slice none 0 0] 45 45;have HM := Lib.hid (z3b n ao len cap ws _ (hW.below hb) hl (by omega));have HR1 := Lib.hid r1; clear r1;have HR2 := Lib.hid r2; clear r2;have HB := Lib.hid hb; clear hb;have e0 := HR1.out.cell 0;have e1 := HR1.out.cell 1;clear hW hl hc;go_enter Tryz.func90, Tryz.ntmps90;go_wp2_with fail
 generalize (w.alloc (.cells #[.bool n, .slice ao len cap] 45)).alloc (.cells #[.bool false, .slice none 0 0] 45) = w2 at *;refine HM.out.mono ?_;rintro e w3 ⟨⟨v', rfl, hO⟩, hb3⟩;obtain ⟨pz, rfl⟩ := z0n.parts hO.num;unfold av at *;have hr3 := HR2.out.below hb3 HR2.out.lt;have c0 := hr3.cell 0;have c1 := hr3.cell 1;have f0 := hr3.free 0;have f1 := hr3.free 1;have hs2 : w.heap.size + 1 < w2.heap.size := HR2.out.lt;have HR3 := Lib.hid hr3; clear hr3;have HO := Lib.hid hO; clear hO;have HB3 := Lib.hid (HB.out.trans (hb3.mono HB.out.size)); clear hb3 e0 e1;go_wp2;refine bodyPost_ret (z0i (p := 2) (by kernel_rfl) _ _ (w.heap.size + 1) _ _ rfl (HR3.out.z2n _ _)) rfl ?_;refine ⟨⟨_, rfl, ?_⟩, (HB3.out.setCell (Nat.le_succ _) _).setCell (Nat.le_succ _) _⟩;exact (z05.z2F HO.out HR3.out _ _).mono (by omega)
set_option maxRecDepth 100000 in
set_option maxHeartbeats 2000000 in
theorem z34 (v : Value) (x : Int) (L : Nat) (w : World) (h : z03 w L v x) (hL : L <= 8796093022208) :
 Calls Tryz.prog 45 #[v] w fun e w' => e = .returned (.int .i64 (z0o x)) /\ Below w.heap.size w w' := by
 have hA := h;obtain ⟨n, ao, len, cap, ws, rfl, hW, hl, hk, hc, hx⟩ := h;have r1 := z00.new w #[.bool n, .slice ao len cap] 45;have hb : Below w.heap.size w (w.alloc (.cells #[.bool n, .slice ao len cap] 45)) := (Below.refl _ _).alloc (Nat.le_refl _) _;have HM := Lib.hid (z9H _ x L _ (hA.below hb) hL);have HR1 := Lib.hid r1; clear r1;have HB := Lib.hid hb; clear hb;have e0 := HR1.out.cell 0;have e1 := HR1.out.cell 1;clear hW hl hc hA hx;go_enter Tryz.func45, Tryz.ntmps45;go_wp2_with fail
 generalize w.alloc (.cells #[.bool n, .slice ao len cap] 45) = w2 at *;refine HM.out.mono ?_;rintro e w3 ⟨⟨v', rfl, hO⟩, hb3⟩;obtain ⟨aoz, capz, rfl, hOz⟩ := hO;have hbz : Below w.heap.size w w3 := HB.out.trans (hb3.mono HB.out.size);have HBZ := Lib.hid hbz; clear hbz hb3 hOz e0 e1;rcases Int.lt_trichotomy x 0 with hx | hx | hx
 · have h1 : decide (x < 0) = true := by simpa using hx
   rw [h1];have HZ := Lib.hid (show z0o x = -1 by unfold z0o; rw [if_pos hx]);clear hx h1;go_wp2;go_ret;exact ⟨by rw [HZ.out]; rfl, HBZ.out.alloc HBZ.out.size _⟩
 · subst hx;have h1 : decide ((0 : Int) < 0) = false := rfl;have h2 : z04 (0 : Int).natAbs = 0 := z1g;rw [h1, h2];have HZ := Lib.hid (show z0o 0 = 0 from rfl);clear h1 h2;go_wp2;go_ret;exact ⟨by rw [HZ.out]; rfl, HBZ.out.alloc HBZ.out.size _⟩
 · have h1 : decide (x < 0) = false := by simp; omega
   have h2 : z04 x.natAbs ≠ 0 := fun e => by have := z1b.1 e; omega
   rw [h1];have HZ := Lib.hid (show z0o x = 1 by unfold z0o; rw [if_neg (by omega), if_neg (by omega)]);obtain ⟨k, hk⟩ : ∃ k, z04 x.natAbs = k := ⟨_, rfl⟩;rw [hk] at h2 ⊢;have h3 : 0 < (k : Int) := by omega
   clear hx h1 hk;go_wp2;go_ret;exact ⟨by rw [HZ.out]; rfl, HBZ.out.alloc HBZ.out.size _⟩
set_option maxRecDepth 100000 in
set_option maxHeartbeats 2000000 in
theorem zbb (v u : Value) (x y : Int) (L : Nat) (w : World) (h1 : z03 w L v x) (h2 : z03 w L u y) (hL : L <= 1099511627776) :
 Calls Tryz.prog 23 #[v, u] w fun e w' => e = .returned (.int .i64 (z1k x.natAbs y.natAbs)) /\ Below w.heap.size w w' := by
 obtain ⟨n1, ao1, len1, cap1, ws1, rfl, hW1, hl1, hk1, hc1, rfl⟩ := h1;obtain ⟨n2, ao2, len2, cap2, ws2, rfl, hW2, hl2, hk2, hc2, rfl⟩ := h2;rw [z2A, z2A];obtain ⟨r1, r2, hb⟩ := z0H w #[.bool n1, .slice ao1 len1 cap1] #[.bool n2, .slice ao2 len2 cap2] 45 45;have HM := Lib.hid (z7m ao1 ao2 len1 cap1 len2 cap2 ws1 ws2 _ (hW1.below hb) (hW2.below hb) hl1 hl2 (by omega) (by omega));have e10 := r1.cell 0;have e11 := r1.cell 1;have e20 := r2.cell 0;have e21 := r2.cell 1;have HB := Lib.hid hb; clear hb r1 r2;clear hW1 hl1 hc1 hW2 hl2 hc2;go_enter Tryz.func23, Tryz.ntmps23;go_wp2_with fail
 generalize (w.alloc (.cells #[.bool n1, .slice ao1 len1 cap1] 45)).alloc (.cells #[.bool n2, .slice ao2 len2 cap2] 45) = w2 at *;refine HM.out.mono ?_;rintro e w3 ⟨rfl, hb3⟩;have HB3 := Lib.hid (HB.out.trans (hb3.mono HB.out.size)); clear hb3 e10 e11 e20 e21;go_wp2;go_ret;exact ⟨rfl, HB3.out⟩
set_option maxRecDepth 100000 in
set_option maxHeartbeats 2000000 in
theorem zaD (v u : Value) (x y : Int) (L : Nat) (w : World) (h1 : z03 w L v x) (h2 : z03 w L u y) (hL : L <= 1099511627776) :
 Calls Tryz.prog 34 #[v, u] w fun e w' => e = .returned (.int .i64 (z5R x y)) /\ Below w.heap.size w w' := by
 have hA1 := h1;have hA2 := h2;obtain ⟨n1, ao1, len1, cap1, ws1, rfl, hW1, hl1, hk1, hc1, hx1⟩ := h1;obtain ⟨n2, ao2, len2, cap2, ws2, rfl, hW2, hl2, hk2, hc2, hx2⟩ := h2;clear hW1 hl1 hc1 hW2 hl2 hc2 hx1 hx2 hk1 hk2;obtain ⟨r1, r2, hb⟩ := z0H w #[.bool n1, .slice ao1 len1 cap1] #[.bool n2, .slice ao2 len2 cap2] 45 45;have HM := Lib.hid (z34 _ x L _ (hA1.below hb) (by omega));have e10 := r1.cell 0;have e11 := r1.cell 1;have e20 := r2.cell 0;have e21 := r2.cell 1;have R1 := Lib.hid r1; clear r1;have R2 := Lib.hid r2; clear r2;have H1 := Lib.hid (hA1.below hb); clear hA1;have H2 := Lib.hid (hA2.below hb); clear hA2;have HB := Lib.hid hb; clear hb;go_enter Tryz.func34, Tryz.ntmps34;go_wp2_with fail
 generalize (w.alloc (.cells #[.bool n1, .slice ao1 len1 cap1] 45)).alloc (.cells #[.bool n2, .slice ao2 len2 cap2] 45) = w2 at *;refine HM.out.mono ?_;rintro e w3 ⟨rfl, hb3⟩;have HM2 := Lib.hid (z34 _ y L _ (H2.out.below hb3) (by omega));have k10 := (R1.out.below hb3 R1.out.lt).cell 0;have k11 := (R1.out.below hb3 R1.out.lt).cell 1;have k20 := (R2.out.below hb3 R2.out.lt).cell 0;have k21 := (R2.out.below hb3 R2.out.lt).cell 1;have R13 := Lib.hid (R1.out.below hb3 R1.out.lt);have R23 := Lib.hid (R2.out.below hb3 R2.out.lt);have H13 := Lib.hid (H1.out.below hb3);have H23 := Lib.hid (H2.out.below hb3);have HB3 := Lib.hid (HB.out.trans (hb3.mono HB.out.size)); clear hb3 e10 e11 e20 e21 HM H1 H2 R1 R2;go_wp2_with fail
 refine HM2.out.mono ?_;rintro e w4 ⟨rfl, hb4⟩;have HM3 := Lib.hid (zbb _ _ x y L _ (H13.out.below hb4) (H23.out.below hb4) hL);have k10 := (R13.out.below hb4 R13.out.lt).cell 0;have k11 := (R13.out.below hb4 R13.out.lt).cell 1;have k20 := (R23.out.below hb4 R23.out.lt).cell 0;have k21 := (R23.out.below hb4 R23.out.lt).cell 1;have HB4 := Lib.hid (HB3.out.trans (hb4.mono HB3.out.size)); clear hb4 HM2 H13 H23 R13 R23;have hz1 := z4p x;have hz2 := z4p y;by_cases hs : z0o x = z0o y
 · have hfin := zdx hs;have hnb : z1k x.natAbs y.natAbs = -1 ∨ z1k x.natAbs y.natAbs = 0 ∨ z1k x.natAbs y.natAbs = 1 := by
    unfold z1k; split
    · exact .inl rfl
    · split
      · exact .inr (.inr rfl)
      · exact .inr (.inl rfl)
   rw [<- hs];obtain ⟨s, hse⟩ : ∃ s, z0o x = s := ⟨_, rfl⟩;rw [hse] at hfin hz1 ⊢;obtain ⟨k, hke⟩ : ∃ k, z1k x.natAbs y.natAbs = k := ⟨_, rfl⟩;rw [hke] at hfin HM3 hnb;have HF := Lib.hid hfin; clear hfin hs hz2 hse hke;have hp : IntKind.i64.wrap (s * k) = s * k := by
    rcases hz1 with rfl | rfl | rfl <;> rcases hnb with rfl | rfl | rfl <;> rfl
   have hne : (s != s) = false := by simp
   go_wp2_with fail
   refine HM3.out.mono ?_;rintro e w5 ⟨rfl, hb5⟩;have HB5 := Lib.hid (HB4.out.trans (hb5.mono HB4.out.size)); clear hb5 k10 k11 k20 k21;go_wp2;go_ret;exact ⟨by rw [HF.out]; rfl, HB5.out⟩
 · have hzc : z5R x y = if z0o x < z0o y then -1 else 1 := by
    unfold z5R z0o at *
    (repeat' split at hs) <;> (repeat' split) <;> omega
   obtain ⟨s, hse⟩ : ∃ s, z0o x = s := ⟨_, rfl⟩;obtain ⟨t, hte⟩ : ∃ t, z0o y = t := ⟨_, rfl⟩;rw [hse] at hs hzc ⊢;rw [hte] at hs hzc ⊢;have HZ := Lib.hid hzc;clear hz1 hz2 hse hte hzc;have hne : (s != t) = true := by simpa using hs
   have HNE := Lib.hid hs; clear hs;by_cases hlt : s < t
   · go_wp2;go_ret;exact ⟨by rw [HZ.out, if_pos hlt]; rfl, HB4.out⟩
   · go_wp2;go_ret;exact ⟨by rw [HZ.out, if_neg (by omega)]; rfl, HB4.out⟩
end Go.Proofs.YtknkkceioockjaaGreat
