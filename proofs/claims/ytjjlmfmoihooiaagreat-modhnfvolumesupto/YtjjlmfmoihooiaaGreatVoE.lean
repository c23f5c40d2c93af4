/- Part 5 of 9 of the proof that the law ModhnfVolumes returns true for every input of bulk at most 1048576 and leaves its arguments as they were. -/
import Derived.Deep.RegionLaw
import Derived.Maps.AppendAt
import Derived.Deep.Onto
import Derived.Deep.AppendSrc
import Derived.Deep.Upon
import Derived.Test.YtjjlmfmoihooiaaGreatVoD
set_option linter.all false
set_option maxRecDepth 100000
set_option maxHeartbeats 4000000
namespace Go.Proofs.YtjjlmfmoihooiaaGreat
open Go.RowKit
attribute [local go_sem] Oper.semAt_some
abbrev NR := Nat × Hd
def NR.enc (x : NR) : Array Value := #[.int .i64 (x.1 : Int), .slice (some ⟨x.2.blk, 0, none⟩) x.2.xs.length x.2.cap]
def uF (B : Nat) (pre : List NR) (x : NR) (W : World) : Prop := aL W x.2.blk x.2.xs /\ B <= x.2.blk /\ ∀ y ∈ pre, y.2.blk ≠ x.2.blk
def ux (r c : Nat) (xs : List Int) (zs : List NR) : Prop := zs.length = r /\ ∀ k (h : k < zs.length), zs[k] = (k, ⟨(zs[k]).2.blk, c, rowOf xs c k⟩)
theorem aT.piece {w : World} {b : Nat} {xs : List Int} (h : aL w b xs) (L : Nat) (hL : ∀ x ∈ xs, ag x.natAbs <= L) (k c : Nat) : aT w L (some ⟨b, k * c * 2, none⟩) (rowOf xs c k) := by
 intro hp;refine ⟨b, k * c * 2, rfl, h.lt, fun i hi => ?_⟩;have h0 : i < c := by simp [rowOf] at hi; omega
 have h1 : k * c + i < xs.length := by simp [rowOf] at hi; omega
 obtain ⟨p, h2, h3, h4⟩ := h.get h1;have e : (k * c + i) * 2 = k * c * 2 + i * 2 := by omega
 rw [e] at h2 h3;refine ⟨p, h2, h3, ?_⟩;have e2 : (rowOf xs c k)[i] = xs[k * c + i] := by simp [rowOf]
 rw [e2];exact h4.int (hL _ (List.getElem_mem _))
theorem kM (n g b r c : Nat) (xs : List Int) (w : World) (S : Nat -> Prop) (hS : dN S w) (hg : aa w g 24 [.int .i64 (r : Int), .int .i64 (c : Int), .slice (some ⟨b, 0, none⟩) xs.length xs.length]) (hgS : ¬ S g) (hb : aL w b xs) (hbS : ¬ S b) (hl : xs.length = r * c) (hr : r <= 100000) (hc : c <= 100000)
 (hL : ∀ x ∈ xs, ag x.natAbs <= 17592186044415)
 (l : Nat) (J : List NR -> World -> Prop) (W : World) (hW : Below w.heap.size w W) (hJ : ∀ s A B, J s A -> Below A.heap.size A B -> J s B)
 (hY : ∀ pre x Wp W1, J pre Wp -> Below Wp.heap.size Wp W1 -> Wp.heap.size <= x.2.blk -> uF w.heap.size pre x W1 -> x = (pre.length, ⟨x.2.blk, c, rowOf xs c pre.length⟩) -> pre.length < r -> YieldAt Fence.wide (n - 1) Tryz.prog l (NR.enc x) W1 fun e W' => e = .returned (.bool true) /\ J (pre ++ [x]) W' /\ dP w.heap.size S W1 W')
 (h0 : J [] W) (hn : 1 <= n) :
 CallsIn Fence.wide n Tryz.prog 89 (#[.func (.yield l) #[] #[]] ++ #[.pointer (some ⟨g, 0, none⟩)]) W fun e W' => (∃ v, e = .returned v) /\ ∃ zs, ux r c xs zs /\ J zs W' := by
 have HG := H5 hg; clear hg;have HB := H5 hb; clear hb;have HL := H5 hl; clear hl;have HW := H5 hW; clear hW;have HY := H5 hY; clear hY;have HWL := H5 hS; clear hS;have g0 := (HG.out.below HW.out HG.out.lt).cell 0;refine callsIn_of_wp Tryz.func89 rfl trivial ?_ rfl;simp only [Tryz.ntmps89, List.size_toArray, List.length_cons, List.length_nil, Nat.reduceAdd, Nat.reduceSub, Array.replicate_succ, Array.replicate_zero, List.push_toArray, List.append_toArray, List.nil_append, List.cons_append];simp only [List.getElem?_cons_zero] at g0
 gi_wp2
 clear g0
 gi_loopw [6] (fun i wr => ∃ (k : Nat) (zs : List NR), k <= r /\ i = .int .i64 (k : Int) /\ Hid (zs.length = k /\ (∀ j (h : j < zs.length), zs[j] = (j, ⟨(zs[j]).2.blk, c, rowOf xs c j⟩)) /\ (∀ y ∈ zs, y.2.blk < wr.heap.size) /\ J zs wr /\ aO S w wr))
  (fun i _ => r - (intOf i).toNat)
 case atStart => exact ⟨0, [], Nat.zero_le _, rfl, H5 ⟨rfl, fun j h => absurd h (by simp), fun y h => absurd h (by simp), h0, aO.bb HW.out⟩⟩
 case round =>
  obtain ⟨k, zs, hk, rfl, HI⟩ := hrel;by_cases hlt : k < r
  . have hlt' : (k : Int) < (r : Int) := by omega
    have g0 := (HI.out.2.2.2.2.row HG.out hgS).cell 0;have g1 := (HI.out.2.2.2.2.row HG.out hgS).cell 1;have g2 := (HI.out.2.2.2.2.row HG.out hgS).cell 2;simp only [List.getElem?_cons_zero, List.getElem?_cons_succ] at g0 g1 g2;obtain ⟨q, hq⟩ : ∃ q, k * c = q := ⟨_, rfl⟩;have hq2 : (k + 1) * c = q + c := by rw [Nat.succ_mul, hq]
    have hq3 : q + c <= xs.length := by rw [<- hq2, HL.out]; exact Nat.mul_le_mul_right _ hlt
    have hxl : xs.length <= 10000000000 := by rw [HL.out]; exact Nat.mul_le_mul hr hc
    have hw1 : wrap64 ((k : Int) * (c : Int)) = (q : Int) := by
     rw [<- Int.natCast_mul, hq]; unfold wrap64; omega
    have hw2 : wrap64 (((k : Int) + 1) * (c : Int)) = (q : Int) + (c : Int) := by
     have : ((k : Int) + 1) * (c : Int) = ((q + c : Nat) : Int) := by rw [<- hq2]; push_cast; rfl
     rw [this]; push_cast; unfold wrap64; omega
    have hpc : aT wr 17592186044415 (some ⟨b, q * 2, none⟩) (rowOf xs c k) := by
     rw [<- hq]; exact aT.piece (HI.out.2.2.2.2.zz HWL.out HB.out hbS) _ hL k c
    have hrl : (rowOf xs c k).length = c := bZ HL.out hlt;have HP := H5 hpc; clear hpc;have HQ := H5 hq; clear hq;have HQ2 := H5 hq2; clear hq2;have hle1 : (q : Int) + (c : Int) <= (xs.length : Int) := by omega
    have hle2 : (q : Int) <= (q : Int) + (c : Int) := by omega
    have hcap : xs.length - q ≠ 0 \/ c = 0 := by omega
    gi_wp2_with fail
    . refine ⟨trivial, ?_⟩;have hE := j7 (some ⟨b, 0, none⟩) 0 (rowOf xs c k) wr (fun h => by rw [hrl] at h; omega) (by rw [hrl]; omega);rw [hrl] at hE;refine (callsIn_wide.2 hE).mono ?_;rintro e w3 ⟨⟨bn, rfl, hbn, hrow⟩, hb3⟩;have hs3 := hb3.size;have hJ3 : J zs w3 := hJ _ _ _ HI.out.2.2.2.1 hb3;have hlt3 : bn < w3.heap.size := hrow.lt;obtain ⟨fn, tmps, assign, body, hy, hR⟩ := HY.out zs (k, ⟨bn, c, rowOf xs c k⟩) wr w3 HI.out.2.2.2.1 hb3 hbn ⟨hrow, by have := HI.out.2.2.2.2.size; show w.heap.size <= bn; omega, fun y hy => by have := HI.out.2.2.1 y hy; show y.2.blk ≠ bn; omega⟩ (by rw [HI.out.1]) (by rw [HI.out.1]; exact hlt);simp only [NR.enc] at hy;rw [hrl] at hy;have HI3 : Hid (aO S w w3) := H5 (HI.out.2.2.2.2.below hb3);have HZ := H5 (And.intro HI.out.1 (And.intro HI.out.2.1 HI.out.2.2.1));have HB3 := H5 hb3;clear hb3 HI HP hrow hJ3 g0 g1 g2
      gi_wp2
      refine hR.mono ?_;rintro e W' ⟨rfl, hJ', hk'⟩;have HJ' := H5 hJ';have HK' := H5 hk';clear hJ' hk' hy hR
      gi_wp2
      go_roundw
      case rel =>
       refine ⟨k + 1, zs ++ [(k, ⟨bn, c, rowOf xs c k⟩)], by omega, by go_num, H5 ⟨by simp [HZ.out.1], fun j hj => ?_, fun y hy => ?_, HJ'.out, ?_⟩⟩
       . by_cases hjk : j < zs.length
         . rw [List.getElem_append_left hjk];exact HZ.out.2.1 j hjk
         . have hjl : j = zs.length := by simp at hj; omega
           subst hjl;simp [HZ.out.1]
       . have hsz := HK'.out.size;rcases List.mem_append.1 hy with hy | hy
         . have := HZ.out.2.2 y hy; have := HB3.out.size; omega
         . simp only [List.mem_singleton] at hy; subst hy; show bn < _; omega
       . exact ⟨HK'.out.os.trans HI3.out.os, HK'.out.tape.trans HI3.out.tape, HK'.out.output.trans HI3.out.output, Nat.le_trans HI3.out.size HK'.out.size, fun i hi hs => (HK'.out.block i hi hs).trans (HI3.out.block i hi hs)⟩
      case measure => simp [intOf]; omega
    . refine ⟨trivial, ?_⟩;have hE := j7 (some ⟨b, q * 2, none⟩) (xs.length - q) (rowOf xs c k) wr HP.out (by rw [hrl]; omega);rw [hrl] at hE;refine (callsIn_wide.2 hE).mono ?_;rintro e w3 ⟨⟨bn, rfl, hbn, hrow⟩, hb3⟩;have hs3 := hb3.size;have hJ3 : J zs w3 := hJ _ _ _ HI.out.2.2.2.1 hb3;have hlt3 : bn < w3.heap.size := hrow.lt;obtain ⟨fn, tmps, assign, body, hy, hR⟩ := HY.out zs (k, ⟨bn, c, rowOf xs c k⟩) wr w3 HI.out.2.2.2.1 hb3 hbn ⟨hrow, by have := HI.out.2.2.2.2.size; show w.heap.size <= bn; omega, fun y hy => by have := HI.out.2.2.1 y hy; show y.2.blk ≠ bn; omega⟩ (by rw [HI.out.1]) (by rw [HI.out.1]; exact hlt);simp only [NR.enc] at hy;rw [hrl] at hy;have HI3 : Hid (aO S w w3) := H5 (HI.out.2.2.2.2.below hb3);have HZ := H5 (And.intro HI.out.1 (And.intro HI.out.2.1 HI.out.2.2.1));have HB3 := H5 hb3;clear hb3 HI HP hrow hJ3 g0 g1 g2
      gi_wp2
      refine hR.mono ?_;rintro e W' ⟨rfl, hJ', hk'⟩;have HJ' := H5 hJ';have HK' := H5 hk';clear hJ' hk' hy hR
      gi_wp2
      go_roundw
      case rel =>
       refine ⟨k + 1, zs ++ [(k, ⟨bn, c, rowOf xs c k⟩)], by omega, by go_num, H5 ⟨by simp [HZ.out.1], fun j hj => ?_, fun y hy => ?_, HJ'.out, ?_⟩⟩
       . by_cases hjk : j < zs.length
         . rw [List.getElem_append_left hjk];exact HZ.out.2.1 j hjk
         . have hjl : j = zs.length := by simp at hj; omega
           subst hjl;simp [HZ.out.1]
       . have hsz := HK'.out.size;rcases List.mem_append.1 hy with hy | hy
         . have := HZ.out.2.2 y hy; have := HB3.out.size; omega
         . simp only [List.mem_singleton] at hy; subst hy; show bn < _; omega
       . exact ⟨HK'.out.os.trans HI3.out.os, HK'.out.tape.trans HI3.out.tape, HK'.out.output.trans HI3.out.output, Nat.le_trans HI3.out.size HK'.out.size, fun i hi hs => (HK'.out.block i hi hs).trans (HI3.out.block i hi hs)⟩
      case measure => simp [intOf]; omega
  . obtain rfl : k = r := by omega
    gi_wp2
    go_end0
    exact ⟨⟨_, rfl⟩, zs, ⟨HI.out.1, HI.out.2.1⟩, HI.out.2.2.2.1⟩
theorem qT (n g b r c : Nat) (xs : List Int) (w : World) (S : Nat -> Prop) (hS : dN S w) (hg : aa w g 24 [.int .i64 (r : Int), .int .i64 (c : Int), .slice (some ⟨b, 0, none⟩) xs.length xs.length]) (hgS : ¬ S g) (hb : aL w b xs) (hbS : ¬ S b) (hl : xs.length = r * c) (hr : r <= 100000) (hc : c <= 100000)
 (hL : ∀ x ∈ xs, ag x.natAbs <= 17592186044415)
 (l : Nat) (J : List NR -> World -> Prop) (W : World) (hW : Below w.heap.size w W) (hJ : ∀ s A B, J s A -> Below A.heap.size A B -> J s B)
 (hY : ∀ pre x W1, J pre W1 -> uF w.heap.size pre x W1 -> pre.length < r -> YieldAt Fence.wide (n - 1) Tryz.prog l (NR.enc x) W1 fun e W' => e = .returned (.bool true) /\ J (pre ++ [x]) W' /\ dP w.heap.size S W1 W')
 (h0 : J [] W) (hn : 1 <= n) :
 CallsIn Fence.wide n Tryz.prog 89 (#[.func (.yield l) #[] #[]] ++ #[.pointer (some ⟨g, 0, none⟩)]) W fun e W' => (∃ v, e = .returned v) /\ ∃ zs, ux r c xs zs /\ J zs W' :=
 kM n g b r c xs w S hS hg hgS hb hbS hl hr hc hL l J W hW hJ (fun pre x Wp W1 hj hb _ hx _ hl => hY pre x W1 (hJ _ _ _ hj hb) hx hl) h0 hn
end Go.Proofs.YtjjlmfmoihooiaaGreat
namespace Go.Proofs.YtjjlmfmoihooiaaGreat
def an (xs : List Int) (r c i j : Nat) : Int := if i < r /\ j < c then xs.getD (i * c + j) 0 else 0
theorem iQ {r c i j : Nat} (hi : i < r) (hj : j < c) : i * c + j < r * c := by
 have h1 : (i + 1) * c <= r * c := Nat.mul_le_mul_right _ hi;have h2 : (i + 1) * c = i * c + c := Nat.succ_mul i c;omega
theorem Ay {r c n : Nat} (h : n < r * c) : ∃ i j, i < r /\ j < c /\ n = i * c + j := by
 have hc : 0 < c := by
  rcases Nat.eq_zero_or_pos c with h0 | h0
  . subst h0; simp at h
  . exact h0
 exact ⟨n / c, n % c, (Nat.div_lt_iff_lt_mul hc).2 h, Nat.mod_lt _ hc, by have := Nat.div_add_mod n c; rw [Nat.mul_comm] at this; omega⟩
theorem cM {xs : List Int} {r c i j : Nat} (hi : i < r) (hj : j < c) : an xs r c i j = xs.getD (i * c + j) 0 := by
 unfold an; rw [if_pos ⟨hi, hj⟩]
theorem ky {xs : List Int} {r c i : Nat} (hi : r <= i) (j : Nat) : an xs r c i j = 0 := by
 unfold an; rw [if_neg (by omega)]
theorem gU {xs : List Int} {r c j : Nat} (i : Nat) (hj : c <= j) : an xs r c i j = 0 := by
 unfold an; rw [if_neg (by omega)]
theorem gg {xs : List Int} {r c B : Nat} (hB : 0 < B) (h : ∀ x ∈ xs, x.natAbs < B) (i j : Nat) : (an xs r c i j).natAbs < B := by
 unfold an;split
 . by_cases hl : i * c + j < xs.length
   . rw [jd _ _ hl]; exact h _ (List.getElem_mem _)
   . rw [fq _ _ (by omega)]; simpa using hB
 . simpa using hB
theorem tv {xs : List Int} {r c B : Nat} (hx : xs.length = r * c) (h : ∀ i j, i < r -> j < c -> (an xs r c i j).natAbs < B) : ∀ x ∈ xs, x.natAbs < B := by
 intro x hm;obtain ⟨n, hn, rfl⟩ := List.getElem_of_mem hm;obtain ⟨i, j, hi, hj, e⟩ := Ay (by omega : n < r * c);have := h i j hi hj;rw [cM hi hj, <- e, jd _ _ hn] at this;exact this
theorem gj (xs : List Int) (c k j : Nat) (hj : j < c) : (rowOf xs c k).getD j 0 = xs.getD (k * c + j) 0 := by
 unfold rowOf;simp [hj]
theorem kN : ∀ (xss : List (List Int)) (c : Nat), (∀ x ∈ xss, x.length = c) -> ∀ i j, (hi : i < xss.length) -> j < c -> xss.flatten.getD (i * c + j) 0 = (xss[i]).getD j 0
 | [], c, h, i, j, hi, hj => by simp at hi
 | x :: xss, c, h, 0, j, hi, hj => by
  have hx := h x (List.mem_cons_self ..);rw [List.flatten_cons, Nat.zero_mul, Nat.zero_add, List.getElem_cons_zero];rw [jd _ _ (by rw [List.length_append]; omega), jd _ _ (by omega), List.getElem_append_left]
 | x :: xss, c, h, i + 1, j, hi, hj => by
  have hx := h x (List.mem_cons_self ..);rw [List.flatten_cons, List.getElem_cons_succ, <- kN xss c (fun y hy => h y (List.mem_cons_of_mem _ hy)) i j (by simpa using hi) hj];have e : (i + 1) * c + j = x.length + (i * c + j) := by rw [Nat.succ_mul, hx]; omega
  rw [e, List.getD_eq_getElem?_getD, List.getElem?_append_right (by omega), List.getD_eq_getElem?_getD];congr 2; omega
theorem nv {R : List Hd} {xs : List Int} {r c : Nat} (hl : R.length = r) (hx : xs.length = r * c) (h : ∀ k (hk : k < R.length), R[k].xs = rowOf xs c k) : Sh c R /\ ∀ i j, az R i j = an xs r c i j := by
 have hlen : ∀ k, k < r -> (rowOf xs c k).length = c := fun k hk => by
  have := iQ (c := c + 1) hk (Nat.lt_succ_self c);unfold rowOf;have h1 : (k + 1) * c <= r * c := Nat.mul_le_mul_right _ hk;have h2 : (k + 1) * c = k * c + c := Nat.succ_mul k c;simp [hx]; omega
 have hsh : Sh c R := fun q hq => by
  obtain ⟨k, hk, rfl⟩ := List.getElem_of_mem hq;rw [h k hk]; exact hlen k (by omega)
 refine ⟨hsh, fun i j => ?_⟩;by_cases hi : i < r
 . by_cases hj : j < c
   . rw [c7 (by omega), h i (by omega), gj _ _ _ _ hj, cM hi hj]
   . rw [hsh.wide i (by omega), gU _ (by omega)]
 . rw [eG (by omega), ky (by omega)]
theorem vp {R : List Hd} {r c : Nat} (hl : R.length = r) (hs : Sh c R) : (R.map Hd.xs).flatten.length = r * c /\ ∀ i j, an (R.map Hd.xs).flatten r c i j = az R i j := by
 have hc : ∀ x ∈ R.map Hd.xs, x.length = c := fun x hx => by
  obtain ⟨q, hq, rfl⟩ := List.mem_map.1 hx; exact hs q hq
 refine ⟨?_, fun i j => ?_⟩
 . have : ∀ (xss : List (List Int)), (∀ x ∈ xss, x.length = c) -> xss.flatten.length = xss.length * c := by
    intro xss;induction xss with
    | nil => intro _; simp
    | cons x xs ih =>
     intro h;rw [List.flatten_cons, List.length_append, ih (fun y hy => h y (List.mem_cons_of_mem _ hy)), h x (List.mem_cons_self ..), List.length_cons, Nat.succ_mul]; omega
   rw [this _ hc, List.length_map, hl]
 . by_cases hi : i < r
   . by_cases hj : j < c
     . rw [cM hi hj, kN _ c hc i j (by simp; omega) hj, List.getElem_map, c7 (by omega)]
     . rw [hs.wide i (by omega), gU _ (by omega)]
   . rw [eG (by omega), ky (by omega)]
end Go.Proofs.YtjjlmfmoihooiaaGreat
namespace Go.Proofs.YtjjlmfmoihooiaaGreat
open Go.RowKit
attribute [local go_sem] Oper.semAt_some
theorem rK {w : World} {l : Nat} {o o' : Obj} (hl : w.heap[l]? = some o) (hn : o.isCells = false) {p : Addr} {v : Value} (h : w.cell? p = some v) : (w.putObj l o').cell? p = some v := by
 by_cases e : p.block = l
 . exfalso;unfold World.cell? at h;rw [e, hl] at h;cases o <;> simp_all [Obj.isCells]
 . exact (World.cell?_of_block (World.putObj_heap_other e)).trans h
theorem fV {w : World} {l : Nat} {o o' : Obj} (hl : w.heap[l]? = some o) (hn : o.isCells = false) {b : Nat} {t : TypeId} {cs : List Value} (h : aa w b t cs) : aa (w.putObj l o') b t cs := by
 by_cases e : b = l
 . exfalso;unfold aa at h;rw [e, hl] at h;injection h with h
   subst h;simp [Obj.isCells] at hn
 . unfold aa at *;rw [World.putObj_heap_other e]; exact h
theorem qB (w : World) (l : Nat) (o : Obj) : (w.putObj l o).heap.size = w.heap.size := by simp
theorem tt {w : World} {l : Nat} {o o' : Obj} (hl : w.heap[l]? = some o) (hn : o.isCells = false) {ao : Option Addr} {ws : List Nat} (h : cI w ao ws) : cI (w.putObj l o') ao ws := by
 refine ⟨h.1, fun hp => ?_⟩;obtain ⟨b, q, e, hb, hc⟩ := h.2 hp;exact ⟨b, q, e, by rw [qB]; exact hb, fun i hi => rK hl hn (hc i hi)⟩
theorem sA {w : World} {l : Nat} {o o' : Obj} (hl : w.heap[l]? = some o) (hn : o.isCells = false) {L : Nat} {v : Value} {x : Int} (h : aj w L v x) : aj (w.putObj l o') L v x := by
 obtain ⟨n, ao, len, cap, ws, e, hW, r⟩ := h;exact ⟨n, ao, len, cap, ws, e, tt hl hn hW, r⟩
theorem j9 {w : World} {l : Nat} {o o' : Obj} (hl : w.heap[l]? = some o) (hn : o.isCells = false) {b : Nat} {xs : List Int} (h : aL w b xs) : aL (w.putObj l o') b xs := by
 obtain ⟨ps, tl, nt, hr, hl', hN⟩ := h;exact ⟨ps, tl, nt, fV hl hn hr, hl', fun i h1 h2 => ⟨sA hl hn (hN i h1 h2).1, (hN i h1 h2).2⟩⟩
theorem rL : (Tryz.prog.info? 22).map (fun i => (i.zero, i.size, i.bytes)) = some (some (.slice none 0 0), 1, 24) := by kernel_rfl
def fu (r : Nat) (zs : List NR) : List Value := zs.map (fun z => z.2.cU) ++ List.replicate (r - zs.length) (.slice none 0 0)
structure wz (w : World) (B g o r : Nat) (zs : List NR) (W : World) : Prop where
 box : aa W g 70 [.slice (some ⟨o, 0, none⟩) zs.length r]
 row : aa W o 22 (fu r zs)
 nums : ∀ z ∈ zs, aL W z.2.blk z.2.xs /\ B <= z.2.blk
 nd : (zs.map (fun z => z.2.blk)).Nodup
 qn : aO (fun k => k = g \/ k = o) w W
theorem oY {F : Fence} {n : Nat} {P : Program} {w : World} {ops : Array Oper} {rest : List Oper} {o : Oper} {a : Act} {Q : Exit -> Act -> World -> Prop}
 (hg : o.guard = none) (s x : Operand) (t : TypeId) (hop : o.op = Op.call { callee := Callee.builtin Builtin.append, args := #[s, x], argTypes := #[t, t] })
 (e : TypeId) (z : Value) (size bytes : Nat) (h1 : P.underlying t = some (.slice e)) (h2 : (P.info? e).map (fun i => (i.zero, i.size, i.bytes)) = some (some z, size, bytes))
 (b off sLen sCap : Nat) (ad : Addr) (m c : Nat) (news : List Value) (hs : a.eval s = .slice (some ⟨b, off, none⟩) sLen sCap) (hx : a.eval x = .slice (some ad) m c)
 (hl : news.length = m * size) (hnews : ∀ j u, news[j]? = some u -> w.cell? (ad.add j) = some u) (h1c : ∀ u ∈ news, u.oneCell' = true) (hroom : sLen + m <= sCap)
 (hc : ∀ j, j < news.length -> (w.cell? ⟨b, off + sLen * size + j, none⟩).isSome = true) (hf : ∀ j, j < news.length -> w.frozen? ⟨b, off + sLen * size + j, none⟩ = false)
 (hK : wpListIn F n P ops Q rest (a.put o.dst (.slice (some ⟨b, off, none⟩) (sLen + m) sCap)) (w.setCells b (off + sLen * size) news)) :
 wpListIn F n P ops Q (o :: rest) a w := by
 refine wpListIn_plain hg fun K hK' => ?_;obtain ⟨i, hi, hz, hsz, hb⟩ := info_parts h2;subst hsz;have hrun := run_append_room_cells (P := P) (w := w) t o.type e i h1 hi b off sLen sCap ad m c news hl hnews h1c hroom hc hf;unfold Oper.wpIn;refine ⟨?_, ?_⟩
 . simp [Oper.about, hop, resolve, Target.leads, Sem.run_pure]
 . rw [Oper.semAt_plain F _ _ (by rw [hop]; intro c hc'; cases hc')];simp [execOp, hop, resolve, invoke, builtin, hs, hx, hrun, Result.andThen];exact hK' _ _ hK
theorem vi (n : Nat) : (madeCells (Value.slice none 0 0).cells (n * 1)).toList = List.replicate n (.slice none 0 0) := by
 rw [ff _ rfl]
theorem zA {w : World} {ops : Array Oper} {rest : List Oper} {o : Oper} {a : Act} {Q : Exit -> Act -> World -> Prop}
 (hg : o.guard = none) (l c : Operand) (hop : o.op = Op.makeSlice 70 l c)
 {kl kc : IntKind} {L C : Int} (n m : Nat) (hl : a.eval l = .int kl L) (hc : a.eval c = .int kc C) (hL : L = (n : Int)) (hC : C = (m : Int)) (hnm : n <= m) (b2 : m <= 1000000)
 (hK : ∀ b w', Made w w' b 22 (List.replicate m (.slice none 0 0)) -> wpList Tryz.prog ops Q rest (a.put o.dst (.slice (some ⟨b, 0, none⟩) n m)) w') :
 wpList Tryz.prog ops Q (o :: rest) a w :=
 ef hg l c 70 hop 22 (.slice none 0 0) 1 24 Tryz.underlying70 rL n m hl hc hL hC hnm (by omega) (by unfold maxLen; omega)
  (fun b w' h => hK b w' (by rw [vi] at h; exact h))
theorem zu (r c : Nat) (ao : Option Addr) (len cap : Nat) (xs : List Int) (w : World) (hr : r <= 64) (hc : c <= 64) (h : aT w 17592186044415 ao xs) (hL : ∀ x ∈ xs, ag x.natAbs <= 17592186044415) (hl : len = xs.length) (hs : xs.length = r * c) :
 CallsIn Fence.wide 6 Tryz.prog 42 #[.agg #[.int .i64 (r : Int), .int .i64 (c : Int), .slice ao len cap]] w fun e w' => (∃ o R, e = .returned (.slice (some ⟨o, 0, none⟩) R.length r) /\ ea w' o R /\ R.length = r /\ (∀ k (h : k < R.length), R[k].xs = rowOf xs c k) /\ w.heap.size <= o /\ (∀ x ∈ R, w.heap.size <= x.blk) /\ aa w' o 22 (R.map Hd.cU) /\ ∀ k (h : k < R.length), R[k].cap = c) /\ Below w.heap.size w w' := by
 subst hl;have HX := H5 h; clear h;have HS := H5 hs; clear hs;refine callsIn_of_wp_marks Tryz.func42 rfl trivial ?_ rfl;simp only [Tryz.ntmps42, List.size_toArray, List.length_cons, List.length_nil, Nat.reduceAdd, Nat.reduceSub, Array.replicate_succ, Array.replicate_zero, List.push_toArray, List.append_toArray, List.nil_append, List.cons_append];refine wpIn_wide.2 ?_;have hb0 : Below w.heap.size w (w.alloc (.cells #[.int .i64 (r : Int), .int .i64 (c : Int), .slice ao xs.length cap] 24)) := (Below.refl _ _).alloc (Nat.le_refl _) _;have hr0 := aa.new w #[.int .i64 (r : Int), .int .i64 (c : Int), .slice ao xs.length cap] 24;have HB0 := H5 hb0; clear hb0;have HR0 := H5 hr0; clear hr0;go_wp2_with (at_make; refine zA rfl _ _ rfl 0 r rfl rfl rfl rfl (Nat.zero_le _) (by omega) ?_; intro o w1 hm1; have hr1 := (HR0.out.below hm1.below HR0.out.lt).alloc (.cells #[.slice (some ⟨o, 0, none⟩) 0 r] 70); have c0 := hr1.cell 0; have c1 := hr1.cell 1; have c2 := hr1.cell 2; have hm := H5 hm1; clear hm1 hr1; simp only [List.getElem?_cons_zero, List.getElem?_cons_succ] at c0 c1 c2)
 have hr2 := hm.out.row.alloc (.cells #[.slice (some ⟨o, 0, none⟩) 0 r] 70);have hr3 := aa.new w1 #[.slice (some ⟨o, 0, none⟩) 0 r] 70;have hb2 : Below w.heap.size w (w1.alloc (.cells #[.slice (some ⟨o, 0, none⟩) 0 r] 70)) := (HB0.out.trans (hm.out.below.mono HB0.out.size)).alloc (by have := HB0.out.size; have := hm.out.below.size; omega) _;have hg1 : w.heap.size < w1.heap.size := Nat.lt_of_lt_of_le HR0.out.lt hm.out.below.size;have ho1 : w.heap.size < o /\ o < w1.heap.size := by
  have h1 := hm.out.at_;have h2 := HR0.out.lt;have h3 := hm.out.size;omega
 generalize hw2 : w1.alloc (.cells #[.slice (some ⟨o, 0, none⟩) 0 r] 70) = w2 at *;have hs2 : w2.heap.size = w1.heap.size + 1 := by rw [<- hw2]; simp
 have HR2 := H5 hr2; clear hr2;have HR3 := H5 hr3; clear hr3;have HB2 := H5 hb2; clear hb2;clear hm hw2 HB0 HR0 c0 c1 c2;have hsnd : aX (r : Int) (c : Int) xs.length = true := by
  unfold aX cD;rw [HS.out];simp; omega
 refine (qx (r : Int) (c : Int) ao xs.length cap xs w2 (by omega) (by omega) (HX.out.below HB2.out) rfl hsnd (by rw [HS.out]; have := Nat.mul_le_mul hr hc; omega)).mono ?_;rintro e w3 ⟨⟨g, b, rfl, hg, hb, hRg, hRb⟩, hb3⟩;have hs3 := hb3.size;have HG := H5 hRg; clear hRg;have HRB := H5 hRb; clear hRb;have HR2' := H5 (HR2.out.below hb3 HR2.out.lt);have HR3' := H5 (HR3.out.below hb3 HR3.out.lt);have HB3 : Hid (Below w.heap.size w w3) := H5 (HB2.out.trans (hb3.mono HB2.out.size));clear hb3 HR2 HR3 HB2;go_wp2_with fail
 refine (wpIn_wide (n := 6)).1 ?_;have hne : w1.heap.size ≠ o := by omega
 have hI0 : wz w3 w3.heap.size w1.heap.size o r [] w3 := ⟨HR3'.out, by simpa [fu] using HR2'.out, fun z hz => by simp at hz, by simp, aO.refl _ _⟩;have HI0 := H5 hI0; clear hI0;refine ta (S := fun k => k = w1.heap.size \/ k = o) (N := r) (Sx := ux r c xs) (E := uF w3.heap.size) (I := wz w3 w3.heap.size w1.heap.size o r) (gf := 89) (lb := #[.pointer (some ⟨g, 0, none⟩)]) (encs := NR.enc) rfl (enters_of Tryz.func89 (by kernel_rfl) rfl) (fun _ => rfl) ?hE ?hIl ?hIb HI0.out
  (fun x => { tmps := #[.agg #[.int .i64 (r : Int), .int .i64 (c : Int), .slice ao xs.length cap], .pointer (some ⟨w.heap.size, 0, none⟩), .slice none 0 0, .pointer (some ⟨w1.heap.size, 0, none⟩), undef, .slice (some ⟨x.2.blk, 0, none⟩) x.2.xs.length x.2.cap, .pointer (some ⟨w.heap.size, 0, none⟩), .int .i64 (r : Int), .slice (some ⟨o, 0, none⟩) 0 r, .agg #[.int .i64 (r : Int), .int .i64 (c : Int), .slice ao xs.length cap], .func (.func 89) #[] #[.pointer (some ⟨g, 0, none⟩)], .int .i64 (x.1 : Int), .slice (some ⟨x.2.blk, 0, none⟩) x.2.xs.length x.2.cap, undef, undef, undef, undef, undef], defers := [] })
  ?hseq ?assign ?body ?done
 case hE =>
  intro s x W l o1 o2 h hl ho hn;exact ⟨j9 ho hn h.1, h.2⟩
 case hIl =>
  intro s W l o1 o2 h hl ho hn;exact ⟨fV ho hn h.box, fV ho hn h.row, fun z hz => ⟨j9 ho hn (h.nums z hz).1, (h.nums z hz).2⟩, h.nd, ⟨h.qn.os, h.qn.tape, h.qn.output, by have := h.qn.size; simpa using this, fun k hk hs => (World.putObj_heap_other (by omega)).trans (h.qn.block k hk hs)⟩⟩
 case hIb =>
  intro s A B h hb;exact ⟨h.box.below hb h.box.lt, h.row.below hb h.row.lt, fun z hz => ⟨(h.nums z hz).1.below hb, (h.nums z hz).2⟩, h.nd, h.qn.below hb⟩
 case hseq =>
  intro l J W hW hJ hY hJ0;refine (qT 5 g b r c xs w3 (fun k => k = w1.heap.size \/ k = o) ?_ HG.out (by omega) HRB.out (by omega) HS.out (by omega) (by omega) hL l J W hW hJ hY hJ0 (by omega));rintro q (rfl | rfl)
  . exact ⟨_, _, HR3'.out, aK.slice aK.nil⟩
  . exact ⟨_, _, HR2'.out, fun v hv n => by simp at hv; simp [hv.2]⟩
 case assign =>
  intro l x W K hK;simp only [NR.enc]
  gi_wp2
  exact hK
 case body =>
  rintro l pre x W hI hE hlen;have hoW := hI.row.lt;have hbW := hI.box.lt;have hlenR : (fu r pre).length = r := by simp [fu]; omega
  have hA : ∀ X : Obj, aa (W.alloc X) o 22 (fu r pre) := fun X => hI.row.alloc X;have hAb : ∀ X : Obj, aa (W.alloc X) w1.heap.size 70 [.slice (some ⟨o, 0, none⟩) pre.length r] := fun X => hI.box.alloc X;have c0 : W.cell? ⟨w1.heap.size, 0, none⟩ = some (.slice (some ⟨o, 0, none⟩) pre.length r) := hI.box.cell 0;have f0 : W.frozen? ⟨w1.heap.size, 0, none⟩ = false := hI.box.free 0;have HI := H5 hI; clear hI;have HE := H5 hE; clear hE
  gi_wp2_with (gi_at_builtin; refine oY rfl _ _ 70 rfl 22 (.slice none 0 0) 1 24 Tryz.underlying70 rL o 0 pre.length r ⟨W.heap.size, 0, none⟩ 1 1 [x.2.cU] rfl rfl rfl (cell_one_new _ _ _) (by simp [Value.oneCell', Hd.cU]) (by omega) (fun j hj => by simp at hj; subst hj; rw [(hA _).cell]; simp [hlenR, hlen]) (fun j hj => by simp at hj; subst hj; exact (hA _).free _) ?_; simp only [Nat.zero_add, Nat.mul_one, World.setCells]; have hrW := (hA (.cells #[x.2.cU] 22)).set pre.length x.2.cU; have hrB := (hAb (.cells #[x.2.cU] 22)).other (p := ⟨o, pre.length, none⟩) hne x.2.cU; skip)
  have hI := HI.out;have hE := HE.out;have hsw := hI.qn.size;have hrW' := hI.row.set pre.length x.2.cU;have hrB' := hI.box.other (p := ⟨o, pre.length, none⟩) hne x.2.cU;have hNo : aK (fu r pre) := fun v hv n => by
   simp only [fu, List.mem_append, List.mem_map, List.mem_replicate] at hv;rcases hv with ⟨z, _, rfl⟩ | ⟨_, rfl⟩ <;> simp [Hd.cU]
  obtain ⟨Wf, hWf⟩ : ∃ Wf, (W.setCell ⟨o, pre.length, none⟩ x.2.cU).setCell ⟨w1.heap.size, 0, none⟩ (.slice (some ⟨o, 0, none⟩) (pre.length + 1) r) = Wf := ⟨_, rfl⟩;rw [hWf];have hsf : Wf.heap.size = W.heap.size := by rw [<- hWf]; simp
  have hbl : Below Wf.heap.size Wf (Wf.alloc (.cells #[.slice (some ⟨x.2.blk, 0, none⟩) x.2.xs.length x.2.cap] 22)) := (Below.refl _ _).alloc (Nat.le_refl _) _;have hnum : ∀ y : NR, aL W y.2.blk y.2.xs -> aL Wf y.2.blk y.2.xs := by
   intro y hy;rw [<- hWf];exact (hy.kb hI.row (by decide) hNo pre.length x.2.cU).kb hrB' (by decide) (aK.slice aK.nil) 0 _
  refine ⟨?_, ?_, ?_⟩
  . rw [<- hWf]; exact ((KeepsOthers.setCell _ _ _).trans (KeepsOthers.setCell _ _ _)).trans (KeepsOthers.alloc _ _)
  . refine dP.trans (b := Wf) ?_ (dP.bb (hbl.mono (by omega)));rw [<- hWf];refine ⟨rfl, rfl, rfl, by simp, fun k hk hs => ?_⟩;exact (Below.heap_setCell _ _ _ _ (fun e => hs (.inl e))).trans (Below.heap_setCell _ _ _ _ (fun e => hs (.inr e)))
  . have hbx : aa Wf w1.heap.size 70 [.slice (some ⟨o, 0, none⟩) (pre.length + 1) r] := by
     rw [<- hWf]; exact hrB'.set 0 (.slice (some ⟨o, 0, none⟩) (pre.length + 1) r)
    have hrw : aa Wf o 22 (fu r (pre ++ [x])) := by
     have h1 := hrW'.other (p := ⟨w1.heap.size, 0, none⟩) (fun e => hne e.symm) (.slice (some ⟨o, 0, none⟩) (pre.length + 1) r);have e : (fu r pre).set pre.length x.2.cU = fu r (pre ++ [x]) := by
      unfold fu;obtain ⟨q, hq⟩ : ∃ q, r - pre.length = q + 1 := ⟨r - pre.length - 1, by omega⟩;have hq2 : r - (pre ++ [x]).length = q := by simp; omega
      rw [hq, hq2, List.replicate_succ, List.set_append_right _ _ (by simp)];simp
     rw [<- e, <- hWf]; exact h1
    refine ⟨?_, hrw.below hbl hrw.lt, ?_, ?_, ?_⟩
    . have := hbx.below hbl hbx.lt;simpa using this
    . intro z hz;rcases List.mem_append.1 hz with hz | hz
      . exact ⟨(hnum z (hI.nums z hz).1).below hbl, (hI.nums z hz).2⟩
      . simp only [List.mem_singleton] at hz; subst hz;exact ⟨(hnum z hE.1).below hbl, hE.2.1⟩
    . rw [List.map_append, List.nodup_append];refine ⟨hI.nd, by simp, fun u hu v hv => ?_⟩;simp only [List.map_cons, List.map_nil, List.mem_singleton] at hv;obtain ⟨y, hy, rfl⟩ := List.mem_map.1 hu;subst hv;exact hE.2.2 y hy
    . refine aO.below ?_ hbl;rw [<- hWf];exact (hI.qn.set (p := ⟨o, pre.length, none⟩) (.inr rfl) _).set (p := ⟨w1.heap.size, 0, none⟩) (.inl rfl) _
 case done =>
  rintro D zs W hD hS hI hK;have hl : zs.length = r := hS.1;have c0 : W.cell? ⟨w1.heap.size, 0, none⟩ = some (.slice (some ⟨o, 0, none⟩) zs.length r) := hI.box.cell 0;have HI := H5 hI; clear hI;simp only [Exit.inBlock];go_wp2;refine ⟨by simp, .inl ⟨_, _, rfl, run_takeDeferred hK, ?_⟩⟩;refine ⟨_, results_tmp rfl _ _ _, ?_⟩;have hI := HI.out;have hS2 := hS.2;have hrow : aa W o 22 (zs.map (fun z => z.2.cU)) := by
   have := hI.row;unfold fu at this;rw [hl, Nat.sub_self] at this;simpa using this
  refine ⟨⟨o, zs.map (fun z => z.2), ?_, ⟨?_, ?_, ?_⟩, by simp [hl], ?_, by omega, ?_, by rw [List.map_map]; exact fV hK rfl hrow, fun k hk => by rw [List.getElem_map, hS2 k (by simpa using hk)]⟩, ?_⟩
  . simp [hl]
  . rw [List.map_map]; exact (fV hK rfl hrow).pre
  . intro h hh;obtain ⟨z, hz, rfl⟩ := List.mem_map.1 hh;exact j9 hK rfl (hI.nums z hz).1
  . rw [List.map_map]; exact hI.nd
  . intro k hk;have hk' : k < zs.length := by simpa using hk
    have := hS2 k hk';rw [List.getElem_map, this]
  . intro x hx;obtain ⟨z, hz, rfl⟩ := List.mem_map.1 hx;have := (hI.nums z hz).2;have := HB3.out.size;omega
  . refine HB3.out.trans ?_;refine (hI.qn.nD (B := w.heap.size) ?_ HB3.out.size).trans ⟨rfl, rfl, rfl, by simp, fun k hk => World.putObj_heap_other (by have := HB3.out.size; omega)⟩;rintro k (rfl | rfl) <;> omega
theorem pJ (r c : Nat) (ao : Option Addr) (len cap : Nat) (xs : List Int) (w : World) (hr : r <= 64) (hc : c <= 64) (h : aT w 17592186044415 ao xs) (hL : ∀ x ∈ xs, ag x.natAbs <= 17592186044415) (hl : len = xs.length) (hs : xs.length = r * c) :
 CallsIn Fence.wide 6 Tryz.prog 42 #[.agg #[.int .i64 (r : Int), .int .i64 (c : Int), .slice ao len cap]] w fun e w' => (∃ o R, e = .returned (.slice (some ⟨o, 0, none⟩) R.length r) /\ ea w' o R /\ R.length = r /\ (∀ k (h : k < R.length), R[k].xs = rowOf xs c k) /\ w.heap.size <= o /\ (∀ x ∈ R, w.heap.size <= x.blk)) /\ Below w.heap.size w w' :=
 (zu r c ao len cap xs w hr hc h hL hl hs).mono (fun e w' ⟨⟨o, R, h1, h2, h3, h4, h5, h6, _⟩, hb⟩ => ⟨⟨o, R, h1, h2, h3, h4, h5, h6⟩, hb⟩)
theorem vt (o cap B c k : Nat) (R R' : List Hd) (w : World) (h : ea w o R) (hB : B <= 4000000000000) (hP : mg B c 0 R.length R k R') (hR : R.length <= 100000) (hc : c <= 1000000) :
 Calls Tryz.prog 41 #[.slice (some ⟨o, 0, none⟩) R.length cap] w fun e w' => e = .returned (.tuple #[.slice (some ⟨o, 0, none⟩) R'.length cap, .int .i64 (k : Int)]) /\ ea w' o R' /\ aO (fun q => q = o \/ ∃ r ∈ R, r.blk = q) w w' := by
 have HM := H5 h; clear h;have HP := H5 hP; clear hP;go_enter Tryz.func41, Tryz.ntmps41;go_wp2_with fail
 refine (New_c o cap R _ HM.out).mono ?_;rintro e w2 ⟨⟨lb, sb, g, rfl, hL, h1, h2, h3⟩, hb2⟩;have HL := H5 hL; clear hL;have HB2 := H5 hb2; clear hb2;go_wp2_with fail
 refine (we ⟨lb, o, sb, g, cap, R, none⟩ B c k R' _ HL.out hB HP.out hR hc (fun t h => by cases h)).mono ?_;rintro e w3 ⟨rfl, hL3, hC3⟩;have L3 := H5 hL3;have C3 : Hid (aO (fun q => q = o \/ ∃ r ∈ R, r.blk = q) w w3) := H5 ((aO.bb HB2.out).trans (hC3.mono (fun q _ e => by rcases e with e | ⟨t, ht, _⟩; exact e; cases ht)));have cb : w3.cell? ⟨lb, 0, none⟩ = some (.slice (some ⟨o, 0, none⟩) R'.length cap) := L3.out.lad.cell 0;clear hL3 hC3;go_wp2;refine bodyPost_ret (results_tmp2 (t := 2) (u := 3) (by kernel_rfl) _ _ _) rfl ?_;exact ⟨rfl, L3.out.dM, C3.out⟩
theorem rf {fn : Func} {p : Tmp} (h : fn.results = #[.cell p 24]) (tmps : Array Value) (w : World) (g : Nat) (a b c : Value) (hp : tmps.getD p undef = .pointer (some ⟨g, 0, none⟩)) (hr : aa w g 24 [a, b, c]) :
 (results fn tmps).run Tryz.prog w = .ok (.agg #[a, b, c]) w :=
 results_cell_row h tmps w g 24 #[a, b, c] (0, 0) _ hp hr Tryz.underlying24 rfl (by kernel_rfl)
structure mQ (w : World) (L o : Nat) (xss : List (List Int)) : Prop where
 lt : o < w.heap.size
 row : ∀ i (h : i < xss.length), ∃ ao cap, w.cell? ⟨o, i, none⟩ = some (.slice ao xss[i].length cap) /\ aT w L ao xss[i]
theorem mQ.below {w w' : World} {L o : Nat} {xss : List (List Int)} (h : mQ w L o xss) (hb : Below w.heap.size w w') : mQ w' L o xss :=
 ⟨Nat.lt_of_lt_of_le h.lt hb.size, fun i hi => by
  obtain ⟨ao, cap, h1, h2⟩ := h.row i hi;exact ⟨ao, cap, (hb.cell (p := ⟨o, i, none⟩) h.lt).trans h1, h2.below hb⟩⟩
structure nQ (w : World) (b m n c N : Nat) (cu : List Int) (W : World) : Prop where
 box : aa W m 24 [.int .i64 (n : Int), .int .i64 (c : Int), .slice (some ⟨b, 0, none⟩) cu.length N]
 row : aL W b (cu ++ List.replicate (N - cu.length) 0)
 res : aa W w.heap.size 24 [.int .i64 0, .int .i64 0, .slice none 0 0]
 bel : Below w.heap.size w W
theorem nQ.app {w : World} {b m n c N k : Nat} {cu : List Int} {W : World} (h : nQ w b m n c N cu W) (hb : w.heap.size < b /\ b < m) (hk : cu.length = k) (hkN : k + 1 <= N) {p : P4} {x : Int} (hx : aI W (av p) x) (W2 : World)
 (e : (W.alloc (.cells #[.bool p.1, .slice p.2.1 p.2.2.1 p.2.2.2] 37)).setCells b (k * 2) [.bool p.1, .slice p.2.1 p.2.2.1 p.2.2.2] = W2) :
 aa W2 m 24 [.int .i64 (n : Int), .int .i64 (c : Int), .slice (some ⟨b, 0, none⟩) k N] /\ nQ w b m n c N (cu ++ [x]) (W2.setCell ⟨m, 2, none⟩ (.slice (some ⟨b, 0, none⟩) (k + 1) N)) := by
 have hb1 : Below W.heap.size W (W.alloc (.cells #[.bool p.1, .slice p.2.1 p.2.2.1 p.2.2.2] 37)) := (Below.refl _ _).alloc (Nat.le_refl _) _;generalize W.alloc (.cells #[.bool p.1, .slice p.2.1 p.2.2.1 p.2.2.2] 37) = W1 at *;subst hk;have hx1 := hx.below hb1;have hr1 := h.row.below hb1;have hm1 := h.box.below hb1 h.box.lt;have hs1 := h.res.below hb1 h.res.lt;have hB1 := h.bel.trans (hb1.mono h.bel.size);have e2 : (W1.setCell ⟨b, cu.length * 2, none⟩ (.bool p.1)).setCell ⟨b, cu.length * 2 + 1, none⟩ (.slice p.2.1 p.2.2.1 p.2.2.2) = W2 := by rw [<- e]; rfl
 have hr2 : aL W2 b ((cu ++ List.replicate (N - cu.length) 0).set cu.length x) := by rw [<- e2]; exact hr1.set cu.length hx1
 have hne : m ≠ b := by omega
 have hm2 : aa W2 m 24 [.int .i64 (n : Int), .int .i64 (c : Int), .slice (some ⟨b, 0, none⟩) cu.length N] := by
  rw [<- e2]; exact (hm1.other (p := ⟨b, cu.length * 2, none⟩) hne _).other (p := ⟨b, cu.length * 2 + 1, none⟩) hne _
 have hs2 : aa W2 w.heap.size 24 [.int .i64 0, .int .i64 0, .slice none 0 0] := by
  rw [<- e2]; exact (hs1.other (p := ⟨b, cu.length * 2, none⟩) (by show w.heap.size ≠ b; omega) _).other (p := ⟨b, cu.length * 2 + 1, none⟩) (by show w.heap.size ≠ b; omega) _
 have hB2 : Below w.heap.size w W2 := by
  rw [<- e2]; exact (hB1.setCell (p := ⟨b, cu.length * 2, none⟩) (Nat.le_of_lt hb.1) _).setCell (p := ⟨b, cu.length * 2 + 1, none⟩) (Nat.le_of_lt hb.1) _
 refine ⟨hm2, ?_, ?_, ?_, ?_⟩
 . have := hm2.set 2 (.slice (some ⟨b, 0, none⟩) (cu.length + 1) N);simpa using this
 . have e3 : (cu ++ List.replicate (N - cu.length) 0).set cu.length x = (cu ++ [x]) ++ List.replicate (N - (cu ++ [x]).length) 0 := by
    obtain ⟨q, hq⟩ : ∃ q, N - cu.length = q + 1 := ⟨N - cu.length - 1, by omega⟩;have hq2 : N - (cu ++ [x]).length = q := by simp; omega
    rw [hq, hq2, List.replicate_succ, List.set_append_right _ _ (Nat.le_refl _)];simp
   rw [<- e3];exact hr2.kb hm2 (by decide) (aK.dM (n : Int) (c : Int) _ _ _) 2 _
 . exact hs2.other (p := ⟨m, 2, none⟩) (by show w.heap.size ≠ m; omega) _
 . exact hB2.setCell (p := ⟨m, 2, none⟩) (by show w.heap.size <= m; omega) _
theorem vH (w : World) (x y : Value) (t : TypeId) : ∀ j u, [x, y][j]? = some u -> (w.alloc (.cells #[x, y] t)).cell? ((⟨w.heap.size, 0, none⟩ : Addr).add j) = some u := by
 intro j u hj;have := (aa.new w #[x, y] t).cell j;have e : ((⟨w.heap.size, 0, none⟩ : Addr).add j) = ⟨w.heap.size, j, none⟩ := by unfold Addr.add; simp; omega
 rw [e, this]; exact hj
theorem nQ.spare {w : World} {b m n c N k : Nat} {cu : List Int} {W : World} (h : nQ w b m n c N cu W) (hk : cu.length = k) (hkN : k + 1 <= N) (X : Obj) (j : Nat) (hj : j < 2) : ((W.alloc X).cell? ⟨b, 0 + k * 2 + j, none⟩).isSome = true /\ (W.alloc X).frozen? ⟨b, 0 + k * 2 + j, none⟩ = false := by
 have hb1 : Below W.heap.size W (W.alloc X) := (Below.refl _ _).alloc (Nat.le_refl _) _;have hr1 := h.row.below hb1;refine ⟨?_, hr1.free _⟩;obtain ⟨q, h0, h1, _⟩ := hr1.get (i := k) (by simp [hk]; omega);have hj2 : j = 0 \/ j = 1 := by omega
 rcases hj2 with rfl | rfl
 . rw [Nat.zero_add, Nat.add_zero, h0]; rfl
 . rw [Nat.zero_add, h1]; rfl
theorem j4 {xss : List (List Int)} {c : Nat} (hc : ∀ x ∈ xss, x.length = c) : xss.flatten.length = xss.length * c := by
 induction xss with
 | nil => simp
 | cons x xs ih =>
  rw [List.flatten_cons, List.length_append, ih (fun y hy => hc y (List.mem_cons_of_mem _ hy)), hc x (List.mem_cons_self ..), List.length_cons, Nat.succ_mul]; omega
theorem lv {xss : List (List Int)} {c i : Nat} (hc : ∀ x ∈ xss, x.length = c) (hi : i <= xss.length) : (xss.take i).flatten.length = i * c := by
 rw [j4 (fun x hx => hc x (List.mem_of_mem_take hx)), List.length_take, Nat.min_eq_left hi]
theorem kI {xss : List (List Int)} {i : Nat} (hi : i < xss.length) : (xss.take (i + 1)).flatten = (xss.take i).flatten ++ xss[i] := by
 rw [List.take_succ_eq_append_getElem hi, List.flatten_append]; simp
theorem wS (o cap n c : Nat) (xss : List (List Int)) (w : World) (h : mQ w 17592186044415 o xss) (hn : xss.length = n) (hc : ∀ x ∈ xss, x.length = c) (hn1 : n <= 10000) (hc1 : c <= 10000) :
 Calls Tryz.prog 43 #[.slice (some ⟨o, 0, none⟩) n cap, .int .i64 (c : Int)] w fun e w' => (∃ b, e = .returned (.agg #[.int .i64 (n : Int), .int .i64 (c : Int), .slice (some ⟨b, 0, none⟩) (n * c) (n * c)]) /\ w.heap.size <= b /\ aL w' b xss.flatten) /\ Below w.heap.size w w' := by
 have hnc : n * c <= 100000000 := Nat.mul_le_mul hn1 hc1;have hw1 : wrap64 ((n : Int) * (c : Int)) = ((n * c : Nat) : Int) := by
  rw [<- Int.natCast_mul]; unfold wrap64; omega
 obtain ⟨N, hN⟩ : ∃ N, n * c = N := ⟨_, rfl⟩;rw [hN] at hw1 hnc |-;have HN := H5 hN; clear hN;have HX := H5 h; clear h;go_enter Tryz.func43, Tryz.ntmps43;go_wp2_with (at_make; refine uA rfl _ _ rfl 0 N rfl rfl rfl (by omega) (Nat.zero_le _) (by omega) ?_; intro b w1 hm1)
 have hI : nQ w b w1.heap.size n c N [] (w1.alloc (.cells #[.int .i64 (n : Int), .int .i64 (c : Int), .slice (some ⟨b, 0, none⟩) 0 N] 24)) := by
  have h0 := aa.new w #[.int .i64 0, .int .i64 0, .slice none 0 0] 24;have hb0 : Below w.heap.size w (w.alloc (.cells #[.int .i64 0, .int .i64 0, .slice none 0 0] 24)) := (Below.refl _ _).alloc (Nat.le_refl _) _;have hb1 : Below w1.heap.size w1 (w1.alloc (.cells #[.int .i64 (n : Int), .int .i64 (c : Int), .slice (some ⟨b, 0, none⟩) 0 N] 24)) := (Below.refl _ _).alloc (Nat.le_refl _) _;refine ⟨aa.new _ _ _, ?_, ?_, ?_⟩
  . simpa using (aL.n4 hm1.row).below hb1
  . exact (h0.below hm1.below h0.lt).alloc _
  . exact (hb0.trans (hm1.below.mono hb0.size)).trans (hb1.mono (Nat.le_trans hb0.size hm1.below.size))
 have hbl : w.heap.size < b /\ b < w1.heap.size := by
  have h1 := hm1.at_; have h2 := hm1.size; rw [World.size_alloc] at h1 h2; omega
 have HI := H5 hI; clear hI;clear hm1;generalize w1.alloc (.cells #[.int .i64 (n : Int), .int .i64 (c : Int), .slice (some ⟨b, 0, none⟩) 0 N] 24) = w2 at *;obtain ⟨m, hm⟩ : ∃ m, w1.heap.size = m := ⟨_, rfl⟩;rw [hm] at hbl HI |-;clear hm;have HC := H5 hc; clear hc;go_loopw [21] (fun i_ wr => ∃ (i : Nat), i <= n /\ i_ = .int .i64 (i : Int) /\ Hid (nQ w b m n c N (xss.take i).flatten wr)) (fun i_ _ => n - (intOf i_).toNat)
 case atStart => exact ⟨0, Nat.zero_le _, rfl, H5 (by simpa using HI.out)⟩
 case round =>
  obtain ⟨i, hi, rfl, hIr⟩ := hrel;by_cases hin : i < n
  . have hix : i < xss.length := by omega
    have hin1 : (i : Int) < (n : Int) := by omega
    obtain ⟨ra, rc, hroww, hls⟩ := HX.out.row i hix;have hrow0 := (hIr.out.bel.cell (p := ⟨o, i, none⟩) HX.out.lt).trans hroww;clear hroww;have hxl : xss[i].length = c := HC.out _ (List.getElem_mem hix);rw [hxl] at hrow0;have HXL := H5 hxl; clear hxl;have HLS := H5 hls; clear hls;have hmul : (i + 1) * c <= N := by rw [<- HN.out]; exact Nat.mul_le_mul_right _ hin
    have hmul2 : (i + 1) * c = i * c + c := Nat.succ_mul i c;have hfl : (xss.take i).flatten.length = i * c := lv HC.out (by omega);have HFL := H5 hfl; clear hfl;have HM := H5 (And.intro hmul hmul2); clear hmul hmul2;go_wp2;go_loopw [27] (fun j_ wq => ∃ (j : Nat), j <= c /\ j_ = .int .i64 (j : Int) /\ Hid (nQ w b m n c N ((xss.take i).flatten ++ xss[i].take j) wq)) (fun j_ _ => c - (intOf j_).toNat)
    case atStart => exact ⟨0, Nat.zero_le _, rfl, H5 (by simpa using hIr.out)⟩
    case round =>
     obtain ⟨j, hj, rfl, hIq⟩ := hrel;by_cases hjc : j < c
     . have hjc1 : (j : Int) < (c : Int) := by omega
       have hjx : j < xss[i].length := by rw [HXL.out]; exact hjc
       obtain ⟨k, hk⟩ : ∃ k, i * c + j = k := ⟨_, rfl⟩;have hkN : k + 1 <= N := by have := HM.out; omega
       obtain ⟨cu, hcu⟩ : ∃ cu, (xss.take i).flatten ++ xss[i].take j = cu := ⟨_, rfl⟩;rw [hcu] at hIq;have hcl : cu.length = k := by rw [<- hcu, List.length_append, HFL.out, List.length_take, Nat.min_eq_left (by omega)]; exact hk
       have hcu2 : (xss.take i).flatten ++ xss[i].take (j + 1) = cu ++ [xss[i][j]] := by
        rw [List.take_succ_eq_append_getElem hjx, <- List.append_assoc, hcu]
       obtain ⟨x, hx⟩ : ∃ x, xss[i][j] = x := ⟨_, rfl⟩;obtain ⟨ab, aoff, hra, hab, hcells⟩ := (HLS.out.below hIq.out.bel) (by omega);subst hra;obtain ⟨px, cx0, cx1, hnx⟩ := hcells j hjx;rw [hx] at hnx hcu2;have HCU := H5 hcu2; clear hcu2 hcu hcells hx;have HK := H5 hk; clear hk;have hb1 : Below wr.heap.size wr (wr.alloc (.cells #[.bool px.1, .slice px.2.1 px.2.2.1 px.2.2.2] 37)) := (Below.refl _ _).alloc (Nat.le_refl _) _;have Hnx := H5 (hnx.below hb1); clear hnx;have hIa : nQ w b m n c N cu (wr.alloc (.cells #[.bool px.1, .slice px.2.1 px.2.2.1 px.2.2.2] 37)) :=
        ⟨hIq.out.box.below hb1 hIq.out.box.lt, hIq.out.row.below hb1, hIq.out.res.below hb1 hIq.out.res.lt, hIq.out.bel.trans (hb1.mono hIq.out.bel.size)⟩
       have HIa := H5 hIa; clear hIa;have hxr := aa.new wr #[.bool px.1, .slice px.2.1 px.2.2.1 px.2.2.2] 37;have HXR := H5 hxr; clear hxr;have hsm : m < wr.heap.size := hIq.out.box.lt;clear hIq hb1;go_wp2;generalize wr.alloc (.cells #[.bool px.1, .slice px.2.1 px.2.2.1 px.2.2.2] 37) = w5 at *;obtain ⟨xb, hxb⟩ : ∃ xb, wr.heap.size = xb := ⟨_, rfl⟩;rw [hxb] at HXR hsm |-;have q0 : w5.cell? ⟨xb, 0, none⟩ = some (.bool px.1) := HXR.out.cell 0;have q1 : w5.cell? ⟨xb, 1, none⟩ = some (.slice px.2.1 px.2.2.1 px.2.2.2) := HXR.out.cell 1;have c2 : w5.cell? ⟨m, 2, none⟩ = some (.slice (some ⟨b, 0, none⟩) k N) := by have := HIa.out.box.cell 2; rw [hcl] at this; exact this
       clear cx0 cx1 hrow0;obtain ⟨i0, hi0, hz0, hsz0, hby0⟩ := info_parts jg;have hrl : (cu ++ List.replicate (N - cu.length) 0).length = N := by rw [List.length_append, List.length_replicate, hcl]; omega
       go_region_law (first
        | (refine step_append_room rfl (.tmp 32) (.tmp 35) 22 rfl 37 i0 2 Tryz.underlying22 hi0 hsz0 b 0 k N rfl ⟨w6.heap.size, 0, none⟩ 1 1 [.bool pz.1, .slice pz.2.1 pz.2.2.1 pz.2.2.2] rfl rfl (vH w6 _ _ _) (by simp [Value.oneCell']) (by omega) (fun j hj => HI6.out.spare hcl hkN _ j hj) ?_; obtain ⟨w7, hw7⟩ : ∃ w7, (w6.alloc (.cells #[.bool pz.1, .slice pz.2.1 pz.2.2.1 pz.2.2.2] 37)).setCells b (k * 2) [.bool pz.1, .slice pz.2.1 pz.2.2.1 pz.2.2.2] = w7 := ⟨_, rfl⟩; have hI7 := HI6.out.app hbl hcl hkN HZ6.out w7 hw7; simp only [Nat.zero_add]; rw [hw7]; have g2 := hI7.1.cell 2; have gf2 := hI7.1.free 2; simp only [List.getElem?_cons_zero, List.getElem?_cons_succ] at g2; have HI7 := H5 hI7; clear hI7 hw7)
        | (go_simp; go_at_call 58; refine (ik (av px) x _ (aj.below (w := w5) Hnx.out (Below.refl _ _).drew)).mono ?_; rintro e w6 ⟨⟨vz, rfl, hvz⟩, hb6⟩; obtain ⟨pz, rfl⟩ := aI.parts hvz.num; have HZ6 := H5 hvz.num; unfold av at *; have hI6 : nQ w b m n c N cu w6 := ⟨aa.below (w := w5.drew) HIa.out.box hb6 HIa.out.box.lt, aL.below (w := w5.drew) HIa.out.row hb6, aa.below (w := w5.drew) HIa.out.res hb6 HIa.out.res.lt, HIa.out.bel.drew.trans (hb6.mono HIa.out.bel.size)⟩; have HI6 := H5 hI6; clear hI6; have k2 := HI6.out.box.cell 2; rw [hcl] at k2; have k3 := (HI6.out.box.alloc (.cells #[.bool pz.1, .slice pz.2.1 pz.2.2.1 pz.2.2.2] 37)).cell 2; rw [hcl] at k3; simp only [List.getElem?_cons_zero, List.getElem?_cons_succ] at k2 k3; clear hb6 hvz))
       all_goals go_wp2
       all_goals refine ⟨⟨j + 1, by omega, by go_num, H5 ?_⟩, ?_⟩
       all_goals first
        | (rw [HCU.out]; exact HI7.out.2)
        | (simp [intOf]; omega)
     . obtain rfl : j = c := by omega
       go_wp2;go_roundw
       case rel =>
        refine ⟨i + 1, by omega, by go_num, H5 ?_⟩;rw [kI hix];have h9 := hIq.out;rw [List.take_of_length_le (l := xss[i]) (by rw [HXL.out]; exact Nat.le_refl _)] at h9;exact h9
       case measure => simp [intOf]; omega
  . obtain rfl : i = n := by omega
    have hce : (xss.take i).flatten = xss.flatten := by rw [List.take_of_length_le (by omega)]
    have HCE := H5 hce; clear hce;have hcl : (xss.take i).flatten.length = N := by rw [HCE.out, j4 HC.out, hn]; exact HN.out
    have c0 := hIr.out.box.cell 0;have c1 := hIr.out.box.cell 1;have c2 := hIr.out.box.cell 2;have d0 := hIr.out.res.cell 0;have d1 := hIr.out.res.cell 1;have d2 := hIr.out.res.cell 2;have f0 := hIr.out.res.free 0;have f1 := hIr.out.res.free 1;have f2 := hIr.out.res.free 2;rw [hcl] at c2;simp only [List.getElem?_cons_zero, List.getElem?_cons_succ] at c0 c1 c2 d0 d1 d2;clear hcl;go_wp2;have hrm := hIr.out.row;rw [HCE.out, j4 HC.out, hn, HN.out, Nat.sub_self] at hrm;simp only [List.replicate_zero, List.append_nil] at hrm;refine bodyPost_ret (rf (p := 4) (by kernel_rfl) _ _ w.heap.size _ _ _ rfl (hIr.out.res.AX (.int .i64 (i : Int)) (.int .i64 (c : Int)) (.slice (some ⟨b, 0, none⟩) N N))) rfl ?_;exact ⟨⟨b, rfl, by omega, hrm.th hIr.out.res (i : Int) (c : Int) _ _ _⟩, ((hIr.out.bel.setCell (p := ⟨w.heap.size, 0, none⟩) (Nat.le_refl _) _).setCell (p := ⟨w.heap.size, 1, none⟩) (Nat.le_refl _) _).setCell (p := ⟨w.heap.size, 2, none⟩) (Nat.le_refl _) _⟩
theorem mb {fn : Func} {p q : Tmp} (h : fn.results = #[.cell p 24, .tmp q]) (tmps : Array Value) (w : World) (g : Nat) (a b c : Value) (hp : tmps.getD p undef = .pointer (some ⟨g, 0, none⟩)) (hr : aa w g 24 [a, b, c]) :
 (results fn tmps).run Tryz.prog w = .ok (.tuple #[.agg #[a, b, c], tmps.getD q undef]) w := iT h tmps w g a b c hp hr
theorem aL.oU {w : World} {b : Nat} {xs : List Int} (h : aL w b xs) {L : Nat} (hL : ∀ x ∈ xs, ag x.natAbs <= L) : aT w L (some ⟨b, 0, none⟩) xs := by
 intro _;refine ⟨b, 0, rfl, h.lt, fun i hi => ?_⟩;obtain ⟨p, h0, h1, hn⟩ := h.get hi;exact ⟨p, by simpa using h0, by simpa using h1, hn.int (hL _ (List.getElem_mem hi))⟩
theorem ea.Bl {w : World} {o : Nat} {R : List Hd} (h : ea w o R) {L : Nat} (hL : ∀ r ∈ R, ∀ x ∈ r.xs, ag x.natAbs <= L) (k : Nat) (hk : k <= R.length) : mQ w L o ((R.take k).map Hd.xs) := by
 refine ⟨h.lt, fun i hi => ?_⟩;have hi' : i < R.length := by simp at hi; omega
 have hm : R[i] ∈ R := List.getElem_mem hi';refine ⟨some ⟨R[i].blk, 0, none⟩, R[i].cap, ?_, ?_⟩
 . rw [h.cU hi'];simp [Hd.cU]
 . have := (h.row _ hm).oU (hL _ hm);simpa using this
theorem uQ {R : List Hd} {D : Nat} (h : ∀ i b, (az R i b).natAbs < W ^ D) : ∀ r ∈ R, ∀ x ∈ r.xs, ag x.natAbs <= D := by
 intro r hr x hx;obtain ⟨i, hi, rfl⟩ := List.getElem_of_mem hr;obtain ⟨j, hj, rfl⟩ := List.getElem_of_mem hx;have := h i j;rw [c7 hi, jd _ _ hj] at this;exact aw this
abbrev hW (m : Nat) : Nat := gn 66 m
end Go.Proofs.YtjjlmfmoihooiaaGreat
namespace Go.Proofs.YtjjlmfmoihooiaaGreat
end Go.Proofs.YtjjlmfmoihooiaaGreat
namespace Go.Proofs.YtjjlmfmoihooiaaGreat
open Go.RowKit
end Go.Proofs.YtjjlmfmoihooiaaGreat
namespace Go.Proofs.YtjjlmfmoihooiaaGreat
def HF (r c : Nat) (E : Nat -> Nat -> Int) : Prop := ∃ k l, k <= r /\ dC k c E l /\ ∀ i, k <= i -> i < r -> ∀ b, E i b = 0
structure kY (c : Nat) (E : Nat -> Nat -> Int) (i j : Nat) : Prop where
 le : j <= c
 zero : ∀ b, b < j -> E i b = 0
 ne : j < c -> E i j ≠ 0
def FI (c : Nat) (E : Nat -> Nat -> Int) (i : Nat) (last : Int) : Prop :=
 ∃ k l, k <= i /\ dC k c E l /\ (∀ a, k <= a -> a < i -> ∀ b, b < c -> E a b = 0) /\ last = (if k < i then (c : Int) else if k = 0 then -1 else (l (k - 1) : Int))
theorem FI.start (c : Nat) (E : Nat -> Nat -> Int) : FI c E 0 (-1) :=
 ⟨0, fun _ => 0, Nat.le_refl _, ⟨⟨fun i k _ h => by omega, fun i h => by omega, fun i h => by omega, fun i h => by omega⟩, fun i k _ h => by omega⟩, fun a _ h => by omega, rfl⟩
theorem FI.fin {r c : Nat} {E : Nat -> Nat -> Int} {last : Int} (hE : ∀ i b, c <= b -> E i b = 0) (h : FI c E r last) : HF r c E := by
 obtain ⟨k, l, hk, hH, hz, _⟩ := h;exact ⟨k, l, hk, hH, fun i hi hr b => by
  by_cases hb : b < c
  . exact hz i hi hr b hb
  . exact hE i b (by omega)⟩
theorem FI.skip {c i : Nat} {E : Nat -> Nat -> Int} {last : Int} (h : FI c E i last) (hl : kY c E i c) : FI c E (i + 1) (c : Int) := by
 obtain ⟨k, l, hk, hH, hz, _⟩ := h;refine ⟨k, l, by omega, hH, fun a h1 h2 b hb => ?_, by rw [if_pos (by omega)]⟩;by_cases e : a = i
 . subst e; exact hl.zero b hb
 . exact hz a h1 (by omega) b hb
theorem FI.next {c i j : Nat} {E : Nat -> Nat -> Int} {last : Int} (h : FI c E i last) (hl : kY c E i j) (hj : j < c) (hlast : last < (j : Int)) (hp : 0 < E i j) (hr : ∀ a, a < i -> 0 <= E a j /\ E a j < E i j) : FI c E (i + 1) (j : Int) := by
 obtain ⟨k, l, hk, hH, hz, hla⟩ := h;have hki : k = i := by
  by_cases e : k < i
  . rw [if_pos e] at hla; omega
  . omega
 subst hki;rw [if_neg (by omega)] at hla;have hlo : ∀ a, a < k -> l a < j := fun a ha => by
  rw [if_neg (by omega)] at hla;rcases Nat.lt_or_eq_of_le (show a <= k - 1 by omega) with e | e
  . have := hH.inc a (k - 1) e (by omega); omega
  . subst e; omega
 have h2 : ∀ a, a < k -> (if a < k then l a else j) = l a := fun a ha => if_pos ha;have h3 : (if k < k then l k else j) = j := if_neg (by omega);refine ⟨k + 1, fun a => if a < k then l a else j, Nat.le_refl _, ⟨⟨fun a b hab hb => ?_, fun a ha => ?_, fun a ha b hb => ?_, fun a ha => ?_⟩, fun a b hab hb => ?_⟩, fun a h1 h2 => by omega, ?_⟩
 . show (if a < k then l a else j) < (if b < k then l b else j);rw [h2 a (by omega)];by_cases e : b < k
   . rw [h2 b e]; exact hH.inc a b hab e
   . obtain rfl : b = k := by omega
     rw [h3]; exact hlo a (by omega)
 . show (if a < k then l a else j) < c;by_cases e : a < k
   . rw [h2 a e]; exact hH.lt a e
   . obtain rfl : a = k := by omega
     rw [h3]; exact hj
 . have hb : b < (if a < k then l a else j) := hb;by_cases e : a < k
   . rw [h2 a e] at hb; exact hH.zero a e b hb
   . obtain rfl : a = k := by omega
     rw [h3] at hb; exact hl.zero b hb
 . show 0 < E a (if a < k then l a else j);by_cases e : a < k
   . rw [h2 a e]; exact hH.pos a e
   . obtain rfl : a = k := by omega
     rw [h3]; exact hp
 . show 0 <= E a (if b < k then l b else j) /\ E a (if b < k then l b else j) < E b (if b < k then l b else j);by_cases e : b < k
   . rw [h2 b e]; exact hH.red a b hab e
   . obtain rfl : b = k := by omega
     rw [h3]; exact hr a hab
 . rw [if_neg (by omega), if_neg (by omega)];show (j : Int) = ((if k + 1 - 1 < k then l (k + 1 - 1) else j : Nat) : Int);rw [if_neg (by omega)]
theorem HF.row {r c i j : Nat} {E : Nat -> Nat -> Int} {last : Int} (h : HF r c E) (hi : i < r) (hl : kY c E i j) (hj : j < c) (hF : FI c E i last) : last < (j : Int) /\ 0 < E i j /\ ∀ a, a < i -> 0 <= E a j /\ E a j < E i j := by
 obtain ⟨K, L, hK, hH, hz⟩ := h;obtain ⟨k, l, hk, hHk, hzk, hla⟩ := hF;have hiK : i < K := by
  by_cases e : i < K
  . exact e
  . exact absurd (hz i (by omega) hi j) (hl.ne hj)
 have hLj : ∀ {a q : Nat}, a < K -> (∀ b, b < q -> E a b = 0) -> E a q ≠ 0 -> L a = q := fun {a q} ha h0 hn => by
  rcases Nat.lt_trichotomy (L a) q with e | e | e
  . have := hH.pos a ha; have := h0 _ e; omega
  . exact e
  . exact absurd (hH.zero a ha q e) hn
 have hLi : L i = j := hLj hiK hl.zero (hl.ne hj);have hki : k = i := by
  by_cases e : k < i
  . exfalso;have h1 := hH.pos k (by omega);rw [hzk k (Nat.le_refl _) e (L k) (hH.lt k (by omega))] at h1;omega
  . omega
 subst hki;rw [if_neg (by omega)] at hla;refine ⟨?_, by rw [<- hLi]; exact hH.pos k hiK, fun a ha => by rw [<- hLi]; exact hH.red a k ha hiK⟩;by_cases e : k = 0
 . rw [if_pos e] at hla; omega
 . rw [if_neg e] at hla;have h1 : L (k - 1) = l (k - 1) := hLj (by omega) (hHk.zero (k - 1) (by omega)) (by have := hHk.pos (k - 1) (by omega); omega);have h2 := hH.inc (k - 1) k (by omega) hiK;omega
theorem HF.n4 {r c i : Nat} {E : Nat -> Nat -> Int} (h : HF r c E) (hi : i < r) (hl : ∀ b, E i b = 0) : ∀ a, i <= a -> a < r -> ∀ b, E a b = 0 := by
 obtain ⟨K, L, hK, hH, hz⟩ := h;have hiK : K <= i := by
  by_cases e : K <= i
  . exact e
  . have := hH.pos i (by omega); rw [hl] at this; omega
 exact fun a h1 h2 b => hz a (by omega) h2 b
theorem HF.congr {r c : Nat} {E F : Nat -> Nat -> Int} (h : HF r c E) (e : ∀ i, i < r -> ∀ b, F i b = E i b) : HF r c F := by
 obtain ⟨k, l, hk, hH, hz⟩ := h;exact ⟨k, l, hk, hH.congr (fun a ha b => e a (by omega) b), fun i hi hr b => (e i hr b).trans (hz i hi hr b)⟩
end Go.Proofs.YtjjlmfmoihooiaaGreat
namespace Go.Proofs.YtjjlmfmoihooiaaGreat
open Go.RowKit
theorem oy {R : List Hd} {c i : Nat} (hi : i < R.length) (hs : Sh c R) : kY c (az R) i (aM R i) := by
 have h := mZ hi hs;exact ⟨h.1, h.2.1, h.2.2⟩
theorem xQ (r c m : Nat) (ao : Option Addr) (len cap : Nat) (xs : List Int) (w : World) (hr : r <= 64) (hc : c <= 64) (h : aT w 17592186044415 ao xs) (hm : ∀ x ∈ xs, ag x.natAbs <= m) (hm1 : m <= 8796093022208) (hl : len = xs.length) (hs : xs.length = r * c) :
 Calls Tryz.prog 11 #[.agg #[.int .i64 (r : Int), .int .i64 (c : Int), .slice ao len cap]] w fun e w' => (∃ t, e = .returned (.tuple #[.bool t, .int .i64 0]) /\ (t = true ↔ HF r c (an xs r c))) /\ Below w.heap.size w w' := by
 subst hl;have hwl : ∀ x ∈ xs, ag x.natAbs <= 17592186044415 := fun x hx => Nat.le_trans (hm x hx) (by omega);have HXS := H5 h; clear h;have HWL := H5 hwl; clear hwl;have hsnd : aX (r : Int) (c : Int) xs.length = true := by
  unfold aX cD;rw [hs]; simp; omega
 have HS := H5 hs; clear hs;have HM := H5 hm; clear hm;have HCK := H5 (eH hsnd); clear hsnd;have r1 := aa.new w #[.int .i64 (r : Int), .int .i64 (c : Int), .slice ao xs.length cap] 24;have hb : Below w.heap.size w (w.alloc (.cells #[.int .i64 (r : Int), .int .i64 (c : Int), .slice ao xs.length cap] 24)) := (Below.refl _ _).alloc (Nat.le_refl _) _;go_enter Tryz.func11, Tryz.ntmps11;go_wp2_with fail
 generalize w.alloc (.cells #[.int .i64 (r : Int), .int .i64 (c : Int), .slice ao xs.length cap] 24) = w2 at *;refine (dX (r : Int) (c : Int) ao xs.length cap _ (by omega) (by omega)).mono ?_;rintro e w3 ⟨rfl, hb3⟩;rw [HCK.out];have R1 := H5 (r1.below hb3 r1.lt);have L3 := H5 ((HXS.out.below hb).below hb3);have B3 := H5 (hb.trans (hb3.mono hb.size));have e0 := R1.out.cell 0;have e1 := R1.out.cell 1;have e2 := R1.out.cell 2;have hs3 : w.heap.size < w3.heap.size := R1.out.lt;clear r1 hb hb3;go_wp2_with fail
 refine (callsIn_wide.1 (pJ r c ao xs.length cap xs w3 hr hc L3.out HWL.out rfl HS.out)).mono ?_;rintro e w4 ⟨⟨o, R, rfl, hM, hRl, hRx, hob, hRb⟩, hb4⟩;obtain ⟨hSh, hE⟩ := nv hRl HS.out hRx;have hbd : ∀ q ∈ R, ∀ x ∈ q.xs, ag x.natAbs <= m := fun q hq x hx => by
  obtain ⟨k, hk, rfl⟩ := List.getElem_of_mem hq;rw [hRx k hk] at hx;exact HM.out x (List.mem_of_mem_drop (List.mem_of_mem_take hx))
 have HH := H5 (And.intro hSh (And.intro hE hbd));have HMN := H5 hM; clear hM;have R14 := H5 (R1.out.below hb4 R1.out.lt);have B4 := H5 (B3.out.trans (hb4.mono B3.out.size));have HRl := H5 hRl;clear hb4 e0 e1 e2 hSh hE hRx hbd R1 L3 B3 hob hRb;rw [hRl];clear hRl;go_wp2;go_loopw [5, 21] (fun l_ i_ wr => ∃ (i : Nat) (last : Int), i <= r /\ i_ = .int .i64 (i : Int) /\ l_ = .int .i64 last /\ -1 <= last /\ last <= 64 /\ Hid (FI c (az R) i last) /\ Hid (Below w4.heap.size w4 wr)) (fun _ i_ _ => r - (intOf i_).toNat)
 case atStart => exact ⟨0, -1, Nat.zero_le _, rfl, rfl, by omega, by omega, H5 (FI.start c _), H5 (Below.refl _ _)⟩
 case round =>
  obtain ⟨i, last, hi, rfl, rfl, hla1, hla2, hF, hBl⟩ := hrel;by_cases hin : i < r
  . have hin1 : (i : Int) < (r : Int) := by omega
    have hiR : i < R.length := by rw [HRl.out]; exact hin
    have hM' := HMN.out.below hBl.out;have c0 := hM'.cU hiR;have hxl : R[i].xs.length = c := HH.out.1.get hiR;unfold Hd.cU at c0;have hlead := jm R[i].blk R[i].cap R[i].xs wr (hM'.row _ (List.getElem_mem hiR)) (fun x hx => Nat.le_trans (HH.out.2.2 _ (List.getElem_mem hiR) x hx) (by omega)) (by omega);have hle := eY hiR;rw [<- hle] at hlead;rw [hxl] at c0 hlead;have hIL := oy hiR HH.out.1;obtain ⟨j, hj⟩ : ∃ j, aM R i = j := ⟨_, rfl⟩;rw [hj] at hlead hIL;have HLead := H5 hlead; clear hlead;have HIL := H5 hIL;have hjc : j <= c := hIL.le;have g1 := (R14.out.below hBl.out R14.out.lt).cell 1;simp only [List.getElem?_cons_zero, List.getElem?_cons_succ] at g1;clear hIL hle hj;go_wp2_with fail
    refine HLead.out.mono ?_;rintro e w5 ⟨rfl, hb5⟩;have B5 := H5 (hBl.out.trans (hb5.mono hBl.out.size));have g1' := (R14.out.below B5.out R14.out.lt).cell 1;simp only [List.getElem?_cons_zero, List.getElem?_cons_succ] at g1';clear hb5 g1 c0 hBl;by_cases hjl : j = c
    . subst hjl;have hs2 := H5 (hF.out.skip HIL.out);have hjj : ((j : Int) == (j : Int)) = true := by simp
      go_wp2;go_roundw
      case rel => exact ⟨i + 1, (j : Int), by omega, by go_num, rfl, by omega, by omega, hs2, B5⟩
      case measure => simp [intOf]; omega
    . have hjn : ((j : Int) == (c : Int)) = false := by simp; omega
      have hjc2 : j < c := by omega
      obtain ⟨p, q0, q1, hn⟩ := ((HMN.out.below B5.out).row _ (List.getElem_mem hiR)).get (i := j) (by rw [hxl]; exact hjc2);have hjx : (j : Int) < (c : Int) := by omega
      have hent : az R i j = R[i].xs[j]'(by rw [hxl]; exact hjc2) := fU hiR (by rw [hxl]; exact hjc2);rw [<- hent] at hn;have hwx : ag (az R i j).natAbs <= m := by rw [hent]; exact HH.out.2.2 _ (List.getElem_mem hiR) _ (List.getElem_mem _)
      have HN := H5 (hn.int (L := 17592186044415) (by omega));have HENT := H5 hent;clear hn hent hwx;have hnot : ∀ t : Bool, t = false -> (∀ h : HF r c (az R), False) -> (t = true ↔ HF r c (an xs r c)) := fun t ht hno => by
       subst ht;exact Iff.intro (fun h => by cases h) (fun h => (hno (HF.congr h (fun a _ b => HH.out.2.1 a b))).elim)
      have HNo := H5 hnot; clear hnot;have hBf : Below w.heap.size w w5 := B4.out.trans (B5.out.mono B4.out.size);have HBf := H5 hBf; clear hBf;by_cases hjla : (j : Int) <= last
      . have hno := H5 (fun h : HF r c (az R) => by have := (h.row hin HIL.out hjc2 hF.out).1; omega : HF r c (az R) -> False);have t1 : decide ((j : Int) <= last) = true := by simpa using hjla
        go_wp2;go_ret2;exact ⟨⟨false, rfl, HNo.out _ rfl hno.out⟩, HBf.out⟩
      . have t1 : decide ((j : Int) <= last) = false := by simpa using hjla
        have hF' := H5 (And.intro hF.out (show last < (j : Int) by omega));have hs1 := bP (av p) (az R i j) w5 HN.out;obtain ⟨x, hx⟩ : ∃ x, az R i j = x := ⟨_, rfl⟩;rw [hx] at hs1;obtain ⟨zs, hzs⟩ : ∃ zs, aN x = zs := ⟨_, rfl⟩;rw [hzs] at hs1;have HS1 := H5 hs1; clear hs1;unfold av at *;clear hjla hF;by_cases hxn : x < 0
        . have t2 : decide (zs < 0) = true := by rw [<- hzs]; unfold aN; rw [if_pos hxn]; rfl
          have hno := H5 (fun h : HF r c (az R) => by have := (h.row hin HIL.out hjc2 hF'.out.1).2.1; omega : HF r c (az R) -> False);clear hx hzs hxn;go_wp2_with fail
          refine HS1.out.mono ?_;rintro e w6 ⟨rfl, hb6⟩;have HB6 := H5 (HBf.out.trans (hb6.mono HBf.out.size)); clear hb6;go_wp2;go_ret2;exact ⟨⟨false, rfl, HNo.out _ rfl hno.out⟩, HB6.out⟩
        . have t2 : decide (zs < 0) = false := by rw [<- hzs]; unfold aN; rw [if_neg hxn]; split <;> rfl
          have hxp : 0 < x := by have := HIL.out.ne hjc2; rw [hx] at this; omega
          have HX := H5 (And.intro hx hxp); clear hx hzs hxn hxp;go_wp2_with fail
          refine HS1.out.mono ?_;rintro e w6 ⟨rfl, hb6⟩;have B6 := H5 (B5.out.trans (hb6.mono B5.out.size)); clear hb6 q0 q1 g1' HS1;clear B5 HBf HN;go_wp2;go_loopw [49] (fun a_ wq => ∃ (a : Nat), a <= i /\ a_ = .int .i64 (a : Int) /\ Hid (∀ a', a' < a -> 0 <= az R a' j /\ az R a' j < x) /\ Hid (Below w4.heap.size w4 wq)) (fun a_ _ => i - (intOf a_).toNat)
          case atStart => exact ⟨0, Nat.zero_le _, rfl, H5 (fun a' h => by omega), B6⟩
          case round =>
           obtain ⟨a, ha, rfl, hag, hBl⟩ := hrel;by_cases hai : a < i
           . have hai1 : (a : Int) < (i : Int) := by omega
             have haR : a < R.length := by omega
             have hM' := HMN.out.below hBl.out;have c0 := hM'.cU haR;unfold Hd.cU at c0;have hal : R[a].xs.length = c := HH.out.1.get haR;rw [hal] at c0;obtain ⟨pa, qa0, qa1, hna⟩ := (hM'.row _ (List.getElem_mem haR)).get (i := j) (by rw [hal]; exact hjc2);obtain ⟨pi, qi0, qi1, hni⟩ := (hM'.row _ (List.getElem_mem hiR)).get (i := j) (by rw [hxl]; exact hjc2);have hea : az R a j = R[a].xs[j]'(by rw [hal]; exact hjc2) := fU haR (by rw [hal]; exact hjc2);rw [<- hea] at hna;rw [<- HENT.out, HX.out.1] at hni;have hwa : ag (az R a j).natAbs <= m := by rw [hea]; exact HH.out.2.2 _ (List.getElem_mem haR) _ (List.getElem_mem _)
             have hwi : ag x.natAbs <= m := by rw [<- HX.out.1, HENT.out]; exact HH.out.2.2 _ (List.getElem_mem hiR) _ (List.getElem_mem _)
             have hba : R[a].blk < wr.heap.size := (hM'.row _ (List.getElem_mem haR)).lt;have hbi : R[i].blk < wr.heap.size := (hM'.row _ (List.getElem_mem hiR)).lt;obtain ⟨y, hy⟩ : ∃ y, az R a j = y := ⟨_, rfl⟩;rw [hy] at hna hwa;have HY := H5 hy; clear hy hea;have HNa := H5 (hna.int (L := 17592186044415) (by omega));have HNi := H5 (hni.int (L := 17592186044415) (by omega));clear hna hni hwa hwi hM';obtain ⟨za, hza⟩ : ∃ za, aN y = za := ⟨_, rfl⟩;obtain ⟨zc, hzc⟩ : ∃ zc, kW y x = zc := ⟨_, rfl⟩;have hS : Hid (Calls Tryz.prog 16 #[.agg #[.bool pa.1, .slice pa.2.1 pa.2.2.1 pa.2.2.2]] wr.drew fun e w' => e = .returned (.int .i64 za) /\ Below wr.drew.heap.size wr.drew w') := H5 (by
              have := bP (av pa) y wr.drew (aj.below (w := wr) HNa.out (Below.refl _ _).drew); rw [hza] at this; exact this)
             have hC : Hid (∀ W : World, Below wr.heap.size wr W -> Calls Tryz.prog 17 #[.agg #[.bool pa.1, .slice pa.2.1 pa.2.2.1 pa.2.2.2], .agg #[.bool pi.1, .slice pi.2.1 pi.2.2.1 pi.2.2.2]] W fun e w' => e = .returned (.int .i64 zc) /\ Below W.heap.size W w') := H5 (fun W hW => by
              have := tC (av pa) (av pi) y x W (aj.below HNa.out hW) (aj.below HNi.out hW); rw [hzc] at this; exact this)
             unfold av at *;by_cases hyn : y < 0
             . have t3 : decide (za < 0) = true := by rw [<- hza]; unfold aN; rw [if_pos hyn]; rfl
               have hno := H5 (fun h : HF r c (az R) => by have := (h.row hin HIL.out hjc2 hF'.out.1).2.2 a hai; rw [HY.out] at this; omega : HF r c (az R) -> False);have T3 := H5 t3;clear hza hzc hyn hC qi0 qi1 t3;go_wp2;have t3 : decide (za < 0) = true := T3.out;refine wp_region_any (by kernel_rfl) ?_;try (change wpAny _ _ _ _ _ _ _ (World.drew _))
               refine wpAny_take (i := 0) (v := ?_) rfl (by kernel_rfl) (by kernel_rfl) (by kernel_rfl) (fun _ _ _ h => h) (Or.inl ⟨by kernel_rfl, ?_⟩) ?_;rotate_left
               . intro w; go_simp; try (with_reducible rfl)
               refine wpAny_take (i := 1) (v := ?_) rfl (by kernel_rfl) (by kernel_rfl) (by kernel_rfl) (fun _ _ _ h => h) (Or.inl ⟨by kernel_rfl, ?_⟩) ?_;rotate_left
               . intro w; go_simp; try (with_reducible rfl)
               refine wpAny_take (i := 2) (v := ?_) rfl (by kernel_rfl) (by kernel_rfl) (by kernel_rfl) (fun _ _ _ h => h) (Or.inl ⟨by kernel_rfl, ?_⟩) ?_;rotate_left
               . intro w; go_simp; try (with_reducible rfl)
               refine wpAny_ready (rs := [3]) (by kernel_rfl) (by simp) ?_;refine AllReady.cons rfl (fun K hK => ?_) AllReady.nil;go_simp;refine hK _ _ ?_;clear hK K;refine wpAny_ready (rs := [4]) (by kernel_rfl) (by simp) ?_;refine AllReady.cons rfl (fun K hK => ?_) AllReady.nil;go_simp;go_wp2_with (first | (go_at_call 16; refine hS.out.mono ?_; rintro e w7 ⟨rfl, hb7⟩))
               refine wpAny_take (i := 5) (v := ?_) rfl (by kernel_rfl) (by kernel_rfl) (by kernel_rfl) (fun _ _ _ h => h) (Or.inl ⟨by kernel_rfl, ?_⟩) ?_;rotate_left
               . intro w; go_simp; try (with_reducible rfl)
               refine wpAny_take (i := 6) (v := ?_) rfl (by kernel_rfl) (by kernel_rfl) (by kernel_rfl) (fun _ _ _ h => h) (Or.inl ⟨by kernel_rfl, ?_⟩) ?_;rotate_left
               . intro w; go_simp; try (with_reducible rfl)
               refine wpAny_take (i := 7) (v := undef) rfl (by kernel_rfl) (by kernel_rfl) (by kernel_rfl) (fun _ _ _ h => h) (Or.inr ⟨by kernel_rfl, rfl⟩) ?_;refine wpAny_take (i := 8) (v := undef) rfl (by kernel_rfl) (by kernel_rfl) (by kernel_rfl) (fun _ _ _ h => h) (Or.inr ⟨by kernel_rfl, rfl⟩) ?_;refine wpAny_take (i := 9) (v := undef) rfl (by kernel_rfl) (by kernel_rfl) (by kernel_rfl) (fun _ _ _ h => h) (Or.inr ⟨by kernel_rfl, rfl⟩) ?_;refine wpAny_take (i := 10) (v := undef) rfl (by kernel_rfl) (by kernel_rfl) (by kernel_rfl) (fun _ _ _ h => h) (Or.inr ⟨by kernel_rfl, rfl⟩) ?_;refine wpAny_take (i := 11) (v := undef) rfl (by kernel_rfl) (by kernel_rfl) (by kernel_rfl) (fun _ _ _ h => h) (Or.inr ⟨by kernel_rfl, rfl⟩) ?_;refine wpAny_take (i := 12) (v := undef) rfl (by kernel_rfl) (by kernel_rfl) (by kernel_rfl) (fun _ _ _ h => h) (Or.inr ⟨by kernel_rfl, rfl⟩) ?_;refine wpAny_take (i := 13) (v := undef) rfl (by kernel_rfl) (by kernel_rfl) (by kernel_rfl) (fun _ _ _ h => h) (Or.inr ⟨by kernel_rfl, rfl⟩) ?_;refine wpAny_take (i := 14) (v := undef) rfl (by kernel_rfl) (by kernel_rfl) (by kernel_rfl) (fun _ _ _ h => h) (Or.inr ⟨by kernel_rfl, rfl⟩) ?_;refine wpAny_take (i := 15) (v := undef) rfl (by kernel_rfl) (by kernel_rfl) (by kernel_rfl) (fun _ _ _ h => h) (Or.inr ⟨by kernel_rfl, rfl⟩) ?_;refine wpAny_take (i := 16) (v := undef) rfl (by kernel_rfl) (by kernel_rfl) (by kernel_rfl) (fun _ _ _ h => h) (Or.inr ⟨by kernel_rfl, rfl⟩) ?_;refine wpAny_take (i := 17) (v := ?_) rfl (by kernel_rfl) (by kernel_rfl) (by kernel_rfl) (fun _ _ _ h => h) (Or.inl ⟨by kernel_rfl, ?_⟩) ?_;rotate_left
               . intro w; go_simp; try (with_reducible rfl)
               refine wpAny_done (by kernel_rfl) ?_ _;have HB7 : Hid (Below w.heap.size w w7) := H5 (B4.out.trans ((hBl.out.drew.trans (hb7.mono hBl.out.size)).mono B4.out.size));clear hb7 hS hBl;go_simp;go_wp2;go_ret2;exact ⟨⟨false, rfl, HNo.out _ rfl hno.out⟩, HB7.out⟩
             . have t3 : decide (za < 0) = false := by rw [<- hza]; unfold aN; rw [if_neg hyn]; split <;> rfl
               obtain ⟨t, ht⟩ : ∃ t, decide (0 <= zc) = t := ⟨_, rfl⟩;have hty : t = false -> y < x := fun e => by
                subst e;rw [decide_eq_false_iff_not, <- hzc] at ht;unfold kW at ht;by_cases h : y < x
                . exact h
                . rw [if_neg h] at ht; split at ht <;> omega
               have hty2 : t = true -> ¬ y < x := fun e h => by
                subst e;rw [decide_eq_true_iff, <- hzc] at ht;unfold kW at ht;rw [if_pos h] at ht;omega
               have HTY := H5 (And.intro hty (And.intro hty2 hyn));have T3 := H5 t3;clear hza hzc hyn hty hty2 t3;go_wp2;have t3 : decide (za < 0) = false := T3.out;refine wp_region_any (by kernel_rfl) ?_;try (change wpAny _ _ _ _ _ _ _ (World.drew _))
               refine wpAny_take (i := 0) (v := ?_) rfl (by kernel_rfl) (by kernel_rfl) (by kernel_rfl) (fun _ _ _ h => h) (Or.inl ⟨by kernel_rfl, ?_⟩) ?_;rotate_left
               . intro w; go_simp; try (with_reducible rfl)
               refine wpAny_take (i := 1) (v := ?_) rfl (by kernel_rfl) (by kernel_rfl) (by kernel_rfl) (fun _ _ _ h => h) (Or.inl ⟨by kernel_rfl, ?_⟩) ?_;rotate_left
               . intro w; go_simp; try (with_reducible rfl)
               refine wpAny_take (i := 2) (v := ?_) rfl (by kernel_rfl) (by kernel_rfl) (by kernel_rfl) (fun _ _ _ h => h) (Or.inl ⟨by kernel_rfl, ?_⟩) ?_;rotate_left
               . intro w; go_simp; try (with_reducible rfl)
               refine wpAny_ready (rs := [3]) (by kernel_rfl) (by simp) ?_;refine AllReady.cons rfl (fun K hK => ?_) AllReady.nil;go_simp;refine hK _ _ ?_;clear hK K;refine wpAny_ready (rs := [4]) (by kernel_rfl) (by simp) ?_;refine AllReady.cons rfl (fun K hK => ?_) AllReady.nil;go_simp;go_wp2_with (first | (go_at_call 16; refine hS.out.mono ?_; rintro e w7 ⟨rfl, hb7⟩; have k0 := (hb7.cell (p := ⟨R[a].blk, j * 2, none⟩) hba).trans qa0; have k1 := (hb7.cell (p := ⟨R[a].blk, j * 2 + 1, none⟩) hba).trans qa1; have k2 := (hb7.cell (p := ⟨R[i].blk, j * 2, none⟩) hbi).trans qi0; have k3 := (hb7.cell (p := ⟨R[i].blk, j * 2 + 1, none⟩) hbi).trans qi1))
               refine wpAny_take (i := 5) (v := ?_) rfl (by kernel_rfl) (by kernel_rfl) (by kernel_rfl) (fun _ _ _ h => h) (Or.inl ⟨by kernel_rfl, ?_⟩) ?_;rotate_left
               . intro w; go_simp; try (with_reducible rfl)
               refine wpAny_take (i := 6) (v := ?_) rfl (by kernel_rfl) (by kernel_rfl) (by kernel_rfl) (fun _ _ _ h => h) (Or.inl ⟨by kernel_rfl, ?_⟩) ?_;rotate_left
               . intro w; go_simp; try (with_reducible rfl)
               refine wpAny_take (i := 7) (v := ?_) rfl (by kernel_rfl) (by kernel_rfl) (by kernel_rfl) (fun _ _ _ h => h) (Or.inl ⟨by kernel_rfl, ?_⟩) ?_;rotate_left
               . intro w; go_simp; try (with_reducible rfl)
               refine wpAny_take (i := 8) (v := ?_) rfl (by kernel_rfl) (by kernel_rfl) (by kernel_rfl) (fun _ _ _ h => h) (Or.inl ⟨by kernel_rfl, ?_⟩) ?_;rotate_left
               . intro w; go_simp; try (with_reducible rfl)
               refine wpAny_take (i := 9) (v := ?_) rfl (by kernel_rfl) (by kernel_rfl) (by kernel_rfl) (fun _ _ _ h => h) (Or.inl ⟨by kernel_rfl, ?_⟩) ?_;rotate_left
               . intro w; go_simp; try (with_reducible rfl)
               refine wpAny_take (i := 11) (v := ?_) rfl (by kernel_rfl) (by kernel_rfl) (by kernel_rfl) (fun _ _ _ h => h) (Or.inl ⟨by kernel_rfl, ?_⟩) ?_;rotate_left
               . intro w; go_simp; try (with_reducible rfl)
               refine wpAny_take (i := 12) (v := ?_) rfl (by kernel_rfl) (by kernel_rfl) (by kernel_rfl) (fun _ _ _ h => h) (Or.inl ⟨by kernel_rfl, ?_⟩) ?_;rotate_left
               . intro w; go_simp; try (with_reducible rfl)
               refine wpAny_take (i := 13) (v := ?_) rfl (by kernel_rfl) (by kernel_rfl) (by kernel_rfl) (fun _ _ _ h => h) (Or.inl ⟨by kernel_rfl, ?_⟩) ?_;rotate_left
               . intro w; go_simp; try (with_reducible rfl)
               refine wpAny_ready (rs := [10, 14]) (by kernel_rfl) (by simp) ?_;refine AllReady.cons rfl (fun K hK => ?_) (AllReady.cons rfl (fun K hK => ?_) AllReady.nil)
               . go_simp;refine hK _ _ ?_;clear hK K;refine wpAny_ready (rs := [14]) (by kernel_rfl) (by simp) ?_;refine AllReady.cons rfl (fun K hK => ?_) AllReady.nil;go_simp;refine hK _ _ ?_;clear hK K;refine wpAny_ready (rs := [15]) (by kernel_rfl) (by simp) ?_;refine AllReady.cons rfl (fun K hK => ?_) AllReady.nil;go_simp;go_wp2_with (first | (go_at_call 17; refine (hC.out _ ((Below.refl _ wr).drew.trans hb7)).mono ?_; rintro e w8 ⟨rfl, hb8⟩))
                 refine wpAny_take (i := 16) (v := ?_) rfl (by kernel_rfl) (by kernel_rfl) (by kernel_rfl) (fun _ _ _ h => h) (Or.inl ⟨by kernel_rfl, ?_⟩) ?_;rotate_left
                 . intro w; go_simp; try (with_reducible rfl)
                 refine wpAny_take (i := 17) (v := ?_) rfl (by kernel_rfl) (by kernel_rfl) (by kernel_rfl) (fun _ _ _ h => h) (Or.inl ⟨by kernel_rfl, ?_⟩) ?_;rotate_left
                 . intro w; go_simp; try (with_reducible rfl)
                 refine wpAny_done (by kernel_rfl) ?_ _;have HB8 : Hid (Below w4.heap.size w4 w8) := H5 ((hBl.out.drew.trans (hb7.mono hBl.out.size)).trans (hb8.mono (Nat.le_trans hBl.out.size hb7.size)));clear hb7 hb8 hS hC hBl k0 k1 k2 k3 qa0 qa1 qi0 qi1 c0;clear ht;go_simp;cases t
                 . go_wp2;go_roundw
                   case rel => exact ⟨a + 1, by omega, by go_num, H5 (fun a' h => by
                    by_cases e : a' = a
                    . subst e; rw [HY.out]; exact ⟨by have := HTY.out.2.2; omega, HTY.out.1 rfl⟩
                    . exact hag.out a' (by omega)), HB8⟩
                   case measure => simp [intOf]; omega
                 . have hno := H5 (fun h : HF r c (az R) => by have := (h.row hin HIL.out hjc2 hF'.out.1).2.2 a hai; rw [HY.out, HX.out.1] at this; have h8 := HTY.out.2.1 rfl; omega : HF r c (az R) -> False);have HB9 : Hid (Below w.heap.size w w8) := H5 (B4.out.trans (HB8.out.mono B4.out.size));go_wp2;go_ret2;first | exact ⟨⟨false, rfl, HNo.out _ rfl hno.out⟩, HB9.out⟩ | exact ⟨.inl ⟨rfl, fun h => by have h8 := (HNo.out _ rfl hno.out).2 h; cases h8⟩, HB9.out⟩
               . go_simp;refine hK _ _ ?_;clear hK K;refine wpAny_ready (rs := [10]) (by kernel_rfl) (by simp) ?_;refine AllReady.cons rfl (fun K hK => ?_) AllReady.nil;go_simp;refine hK _ _ ?_;clear hK K;refine wpAny_ready (rs := [15]) (by kernel_rfl) (by simp) ?_;refine AllReady.cons rfl (fun K hK => ?_) AllReady.nil;go_simp;go_wp2_with (first | (go_at_call 17; refine (hC.out _ ((Below.refl _ wr).drew.trans hb7)).mono ?_; rintro e w8 ⟨rfl, hb8⟩))
                 refine wpAny_take (i := 16) (v := ?_) rfl (by kernel_rfl) (by kernel_rfl) (by kernel_rfl) (fun _ _ _ h => h) (Or.inl ⟨by kernel_rfl, ?_⟩) ?_;rotate_left
                 . intro w; go_simp; try (with_reducible rfl)
                 refine wpAny_take (i := 17) (v := ?_) rfl (by kernel_rfl) (by kernel_rfl) (by kernel_rfl) (fun _ _ _ h => h) (Or.inl ⟨by kernel_rfl, ?_⟩) ?_;rotate_left
                 . intro w; go_simp; try (with_reducible rfl)
                 refine wpAny_done (by kernel_rfl) ?_ _;have HB8 : Hid (Below w4.heap.size w4 w8) := H5 ((hBl.out.drew.trans (hb7.mono hBl.out.size)).trans (hb8.mono (Nat.le_trans hBl.out.size hb7.size)));clear hb7 hb8 hS hC hBl k0 k1 k2 k3 qa0 qa1 qi0 qi1 c0;clear ht;go_simp;cases t
                 . go_wp2;go_roundw
                   case rel => exact ⟨a + 1, by omega, by go_num, H5 (fun a' h => by
                    by_cases e : a' = a
                    . subst e; rw [HY.out]; exact ⟨by have := HTY.out.2.2; omega, HTY.out.1 rfl⟩
                    . exact hag.out a' (by omega)), HB8⟩
                   case measure => simp [intOf]; omega
                 . have hno := H5 (fun h : HF r c (az R) => by have := (h.row hin HIL.out hjc2 hF'.out.1).2.2 a hai; rw [HY.out, HX.out.1] at this; have h8 := HTY.out.2.1 rfl; omega : HF r c (az R) -> False);have HB9 : Hid (Below w.heap.size w w8) := H5 (B4.out.trans (HB8.out.mono B4.out.size));go_wp2;go_ret2;first | exact ⟨⟨false, rfl, HNo.out _ rfl hno.out⟩, HB9.out⟩ | exact ⟨.inl ⟨rfl, fun h => by have h8 := (HNo.out _ rfl hno.out).2 h; cases h8⟩, HB9.out⟩
           . obtain rfl : a = i := by omega
             have hnx := H5 (hF'.out.1.next HIL.out hjc2 hF'.out.2 (by rw [HX.out.1]; exact HX.out.2) (fun a' h => by rw [HX.out.1]; exact hag.out a' h));go_wp2;go_roundw
             case rel => exact ⟨a + 1, (j : Int), by omega, by go_num, rfl, by omega, by omega, hnx, hBl⟩
             case measure => simp [intOf]; omega
  . obtain rfl : i = r := by omega
    have hfin : HF i c (az R) := hF.out.fin (fun a b hb => HH.out.1.wide a hb);have HFN := H5 hfin; clear hfin;go_wp2;go_ret2;refine ⟨⟨true, rfl, fun _ => HFN.out.congr (fun a _ b => (HH.out.2.1 a b).symm), fun _ => rfl⟩, B4.out.trans (hBl.out.mono B4.out.size)⟩
theorem nX {w w' : World} {base : Nat} {e : TypeId} {size : Nat} {v : Value} {n : Nat} {xs : List Value} (h : w.ownsRow base e size v n xs) (hb : Below w.heap.size w w') : w'.ownsRow base e size v n xs := by
 refine ⟨h.1, ?_⟩;rcases h.2 with hn | ⟨g, cap, cur, hv, hg, hc, rest⟩
 . exact .inl hn
 . refine .inr ⟨g, cap, cur, hv, hg, ?_, rest⟩;have hlt : g < w.heap.size := by
    by_cases e : g < w.heap.size
    . exact e
    . rw [Array.getElem?_eq_none (by omega)] at hc; cases hc
   rw [hb.block g hlt]; exact hc
structure PV (c : Nat) (E : Nat -> Nat -> Int) (i : Nat) (ls : List Nat) : Prop where
 len : ls.length = i
 herm : dC i c E (fun a => ls.getD a 0)
def xj (ls : List Nat) : Int := if ls.length = 0 then -1 else (ls.getD (ls.length - 1) 0 : Int)
theorem PV.start (c : Nat) (E : Nat -> Nat -> Int) : PV c E 0 [] :=
 ⟨rfl, ⟨⟨fun i k _ h => by omega, fun i h => by omega, fun i h => by omega, fun i h => by omega⟩, fun i k _ h => by omega⟩⟩
theorem PV.fi {c : Nat} {E : Nat -> Nat -> Int} {i : Nat} {ls : List Nat} (h : PV c E i ls) : FI c E i (xj ls) := by
 refine ⟨i, fun a => ls.getD a 0, Nat.le_refl _, h.herm, fun a h1 h2 => by omega, ?_⟩;rw [if_neg (by omega)];unfold xj;rw [h.len]
theorem Ech.xX {n c : Nat} {E : Nat -> Nat -> Int} {l : Nat -> Nat} (h : Ech n c E l) {a q : Nat} (ha : a < n) (h0 : ∀ b, b < q -> E a b = 0) (hn : E a q ≠ 0) : l a = q := by
 rcases Nat.lt_trichotomy (l a) q with e | e | e
 . have := h.pos a ha; have := h0 _ e; omega
 . exact e
 . exact absurd (h.zero a ha q e) hn
theorem dC.AT {n c : Nat} {E : Nat -> Nat -> Int} {l l' : Nat -> Nat} (h : dC n c E l) (e : ∀ a, a < n -> l' a = l a) : dC n c E l' := by
 refine ⟨⟨fun i k hik hk => ?_, fun i hi => ?_, fun i hi j hj => ?_, fun i hi => ?_⟩, fun i k hik hk => ?_⟩
 . rw [e i (by omega), e k hk]; exact h.inc i k hik hk
 . rw [e i hi]; exact h.lt i hi
 . rw [e i hi] at hj; exact h.zero i hi j hj
 . rw [e i hi]; exact h.pos i hi
 . rw [e k hk]; exact h.red i k hik hk
theorem PV.next {c : Nat} {E : Nat -> Nat -> Int} {i j : Nat} {ls : List Nat} (h : PV c E i ls) (hl : kY c E i j) (hj : j < c) (hlast : xj ls < (j : Int)) (hp : 0 < E i j) (hr : ∀ a, a < i -> 0 <= E a j /\ E a j < E i j) : PV c E (i + 1) (ls ++ [j]) := by
 obtain ⟨k, l, hk, hH, hz, hla⟩ := h.fi.next hl hj hlast hp hr;have hki : k = i + 1 := by
  by_cases e : k < i + 1
  . rw [if_pos e] at hla; omega
  . omega
 subst hki;refine ⟨by simp [h.len], hH.AT fun a ha => ?_⟩;by_cases e : a < i
 . have e1 : (ls ++ [j]).getD a 0 = ls.getD a 0 := by
    rw [List.getD_eq_getElem?_getD, List.getD_eq_getElem?_getD, List.getElem?_append_left (by rw [h.len]; exact e)]
   show (ls ++ [j]).getD a 0 = l a;rw [e1];exact (hH.xX ha (h.herm.zero a e) (by have := h.herm.pos a e; omega)).symm
 . obtain rfl : a = i := by omega
   have e1 : (ls ++ [j]).getD a 0 = j := by
    rw [List.getD_eq_getElem?_getD, List.getElem?_append_right (by rw [h.len]; exact Nat.le_refl _), h.len]; simp
   show (ls ++ [j]).getD a 0 = l a;rw [e1];exact (hH.xX ha hl.zero (by omega)).symm
def uP (r c : Nat) (E : Nat -> Nat -> Int) (ls : List Nat) : Prop := ∃ i, i <= r /\ PV c E i ls /\ ∀ a, i <= a -> a < r -> ∀ b, E a b = 0
theorem vN : (Tryz.prog.info? 3).map (fun i => (i.zero, i.size, i.bytes)) = some (some (.int .i64 0), 1, 8) := by kernel_rfl
def od (ls : List Nat) : List Value := ls.map fun (a : Nat) => Value.int .i64 (a : Int)
theorem vM {w : World} {base : Nat} {e : TypeId} {v : Value} {ls : List Nat} (h : w.ownsRow base e 1 v ls.length (od ls)) :
 (v = .slice none 0 0 /\ ls = []) \/ ∃ g cap, v = .slice (some ⟨g, 0, none⟩) ls.length cap /\ 0 < ls.length + 1 /\ g < w.heap.size /\ ∀ k (hk : k < ls.length), w.cell? ⟨g, k, none⟩ = some (.int .i64 (ls.getD k 0 : Nat)) := by
 rcases h.2 with ⟨hn, h0⟩ | ⟨g, cap, cur, hv, hg, hc, h1, h2, h3, h4⟩
 . exact .inl ⟨hn, List.eq_nil_of_length_eq_zero h0⟩
 . refine .inr ⟨g, cap, hv, by omega, ?_, fun k hk => ?_⟩
   . by_cases e : g < w.heap.size
     . exact e
     . rw [Array.getElem?_eq_none (by omega)] at hc; cases hc
   . have e1 : cur[k]? = some (Value.int .i64 (ls.getD k 0 : Nat)) := by
      rw [<- Array.getElem?_toList];have e2 : (cur.toList.take (ls.length * 1))[k]? = cur.toList[k]? := List.getElem?_take_of_lt (by omega);rw [<- e2, h4];unfold od;rw [List.getElem?_map, List.getD_eq_getElem?_getD, List.getElem?_eq_getElem hk];rfl
     simp [World.cell?, hc, e1]
theorem wj {w : World} {base : Nat} {e : TypeId} {size n : Nat} {v : Value} {xs : List Value} (h : w.ownsRow base e size v n xs) : ∀ k, v.ownBlock = some k -> base <= k := by
 intro k hk;rcases h.2 with ⟨rfl, _⟩ | ⟨g, cap, cur, rfl, hg, _⟩
 . cases hk
 . have : g = k := by simpa [Value.ownBlock] using hk
   omega
theorem xu {w : World} {base : Nat} {e : TypeId} {v : Value} {ls : List Nat} (h : w.ownsRow base e 1 v ls.length (od ls)) :
 ∃ ao cap, v = .slice ao ls.length cap /\ (0 < ls.length -> ∃ g, ao = some ⟨g, 0, none⟩ /\ g < w.heap.size /\ ∀ k (hk : k < ls.length), w.cell? ⟨g, k, none⟩ = some (.int .i64 (ls.getD k 0 : Nat))) := by
 rcases vM h with ⟨rfl, rfl⟩ | ⟨g, cap, rfl, _, hg, hc⟩
 . exact ⟨none, 0, rfl, fun h => by simp at h⟩
 . exact ⟨_, cap, rfl, fun _ => ⟨g, rfl, hg, hc⟩⟩
theorem aT.up {w : World} {L L' : Nat} {ao : Option Addr} {xs : List Int} (h : aT w L ao xs) (hL : L <= L') : aT w L' ao xs := fun hl => by
 obtain ⟨b, o, e, hlt, hc⟩ := h hl;exact ⟨b, o, e, hlt, fun i hi => by obtain ⟨p, h0, h1, hn⟩ := hc i hi; exact ⟨p, h0, h1, hn.mono hL⟩⟩
def vR (c : Nat) (E : Nat -> Nat -> Int) (i : Nat) (ls : List Nat) : Prop := ∃ i0, i0 <= i /\ PV c E i0 ls /\ ∀ a, i0 <= a -> a < i -> ∀ b, E a b = 0
theorem vR.start (c : Nat) (E : Nat -> Nat -> Int) : vR c E 0 [] := ⟨0, Nat.le_refl _, PV.start c E, fun a h1 h2 => by omega⟩
theorem vR.zero {c : Nat} {E : Nat -> Nat -> Int} {i : Nat} {ls : List Nat} (h : vR c E i ls) (hz : ∀ b, E i b = 0) : vR c E (i + 1) ls := by
 obtain ⟨i0, h0, hp, h1⟩ := h;refine ⟨i0, by omega, hp, fun a ha hb => ?_⟩;by_cases e : a = i
 . subst e; exact hz
 . exact h1 a ha (by omega)
theorem vR.next {r c : Nat} {E : Nat -> Nat -> Int} {i j : Nat} {ls : List Nat} (h : vR c E i ls) (hF : HF r c E) (hi : i < r) (hl : kY c E i j) (hj : j < c) : vR c E (i + 1) (ls ++ [j]) := by
 obtain ⟨i0, h0, hp, h1⟩ := h;obtain rfl : i0 = i := by
  by_cases e : i0 < i
  . exact absurd (hF.n4 (by omega : i0 < r) (h1 i0 (Nat.le_refl _) e) i (by omega) hi j) (hl.ne hj)
  . omega
 obtain ⟨a1, a2, a3⟩ := hF.row hi hl hj hp.fi;exact ⟨i0 + 1, Nat.le_refl _, hp.next hl hj a1 a2 a3, fun a ha hb => by omega⟩
theorem vR.len {c : Nat} {E : Nat -> Nat -> Int} {i : Nat} {ls : List Nat} (h : vR c E i ls) : ls.length <= i := by
 obtain ⟨i0, h0, hp, _⟩ := h;rw [hp.len]; exact h0
theorem AW (r c m : Nat) (ao : Option Addr) (len cap : Nat) (xs : List Int) (w : World) (hr : r <= 64) (hc : c <= 64) (h : aT w 17592186044415 ao xs) (hm : ∀ x ∈ xs, ag x.natAbs <= m) (hm1 : m <= 8796093022208) (hl : len = xs.length) (hs : xs.length = r * c) (hF : HF r c (an xs r c)) :
 Calls Tryz.prog 20 #[.agg #[.int .i64 (r : Int), .int .i64 (c : Int), .slice ao len cap]] w fun e w' => (∃ v ls, e = .returned (.tuple #[v, .int .i64 0]) /\ uP r c (an xs r c) ls /\ w'.ownsRow w.heap.size 3 1 v ls.length (od ls) ) /\ Below w.heap.size w w' := by
 subst hl;have hwl : ∀ x ∈ xs, ag x.natAbs <= 17592186044415 := fun x hx => Nat.le_trans (hm x hx) (by omega);have HI := H5 (fun w2 (h2 : aT w2 17592186044415 ao xs) => xQ r c m ao xs.length cap xs w2 hr hc h2 hm hm1 rfl hs);have HWL := H5 hwl; clear hwl;have HS := H5 hs; clear hs;have HM := H5 hm; clear hm;have HF0 := H5 hF; clear hF;have r1 := aa.new w #[.int .i64 (r : Int), .int .i64 (c : Int), .slice ao xs.length cap] 24;have hb : Below w.heap.size w (w.alloc (.cells #[.int .i64 (r : Int), .int .i64 (c : Int), .slice ao xs.length cap] 24)) := (Below.refl _ _).alloc (Nat.le_refl _) _;have HXS := H5 (h.below hb); clear h;obtain ⟨i0, hi0, hz0, hz1, hz2⟩ := info_parts vN;go_enter Tryz.func20, Tryz.ntmps20;go_wp2_with fail
 generalize w.alloc (.cells #[.int .i64 (r : Int), .int .i64 (c : Int), .slice ao xs.length cap] 24) = w2 at *;refine (HI.out w2 HXS.out).mono ?_;rintro e w3 ⟨⟨t, rfl, ht⟩, hb3⟩;obtain rfl : t = true := ht.2 HF0.out;clear ht;have R1 := H5 (r1.below hb3 r1.lt);have L3 := H5 (HXS.out.below hb3);have B3 := H5 (hb.trans (hb3.mono hb.size));have e0 := R1.out.cell 0;have e1 := R1.out.cell 1;have e2 := R1.out.cell 2;have hs3 : w.heap.size < w3.heap.size := R1.out.lt;clear r1 hb hb3 HI;go_wp2_with fail
 refine (callsIn_wide.1 (pJ r c ao xs.length cap xs w3 hr hc L3.out HWL.out rfl HS.out)).mono ?_;rintro e w4 ⟨⟨o, R, rfl, hM, hRl, hRx, hob, hRb⟩, hb4⟩;obtain ⟨hSh, hE⟩ := nv hRl HS.out hRx;have hbd : ∀ q ∈ R, ∀ x ∈ q.xs, ag x.natAbs <= m := fun q hq x hx => by
  obtain ⟨k, hk, rfl⟩ := List.getElem_of_mem hq;rw [hRx k hk] at hx;exact HM.out x (List.mem_of_mem_drop (List.mem_of_mem_take hx))
 have hHF : HF r c (az R) := HF0.out.congr (fun a _ b => hE a b);have HH := H5 (And.intro hSh (And.intro hE (And.intro hbd hHF)));have HMN := H5 hM; clear hM;have R14 := H5 (R1.out.below hb4 R1.out.lt);have B4 := H5 (B3.out.trans (hb4.mono B3.out.size));have HRl := H5 hRl;have hs4 : w.heap.size < w4.heap.size := R14.out.lt;clear hb4 e0 e1 e2 hSh hE hRx hbd R1 L3 B3 hob hRb hHF;rw [hRl];clear hRl;go_wp2;go_loopw [6, 23] (fun v i_ wr => ∃ (i : Nat) (ls : List Nat), i <= r /\ i_ = .int .i64 (i : Int) /\ Hid (vR c (az R) i ls) /\ Hid (wr.ownsRow w4.heap.size 3 1 v ls.length (od ls)) /\ Hid (Below w4.heap.size w4 wr)) (fun _ i_ _ => r - (intOf i_).toNat)
 case atStart => exact ⟨0, [], Nat.zero_le _, rfl, H5 (vR.start c _), H5 (World.ownsRow_nil _ _ _ _), H5 (Below.refl _ _)⟩
 case round =>
  obtain ⟨i, ls, hi, rfl, hPV, hOwn, hBl⟩ := hrel;by_cases hin : i < r
  . have hin1 : (i : Int) < (r : Int) := by omega
    have hiR : i < R.length := by rw [HRl.out]; exact hin
    have hM' := HMN.out.below hBl.out;have c0 := hM'.cU hiR;have hxl : R[i].xs.length = c := HH.out.1.get hiR;unfold Hd.cU at c0;have hlead := jm R[i].blk R[i].cap R[i].xs wr (hM'.row _ (List.getElem_mem hiR)) (fun x hx => Nat.le_trans (HH.out.2.2.1 _ (List.getElem_mem hiR) x hx) (by omega)) (by omega);have hle := eY hiR;rw [<- hle] at hlead;rw [hxl] at c0 hlead;have hIL := oy hiR HH.out.1;obtain ⟨j, hj⟩ : ∃ j, aM R i = j := ⟨_, rfl⟩;rw [hj] at hlead hIL;have HLead := H5 hlead; clear hlead;have HIL := H5 hIL;have hjc : j <= c := hIL.le;have g1 := (R14.out.below hBl.out R14.out.lt).cell 1;simp only [List.getElem?_cons_zero, List.getElem?_cons_succ] at g1;clear hIL hle hj hxl;go_wp2_with fail
    refine HLead.out.mono ?_;rintro e w5 ⟨rfl, hb5⟩;have B5 := H5 (hBl.out.trans (hb5.mono hBl.out.size));have g1' := (R14.out.below B5.out R14.out.lt).cell 1;simp only [List.getElem?_cons_zero, List.getElem?_cons_succ] at g1';have Own5 := H5 (nX hOwn.out hb5);have hs5 := B5.out.size;clear hb5 g1 c0 hBl hOwn;by_cases hjl : j = c
    . subst hjl;have hs2 := H5 (hPV.out.zero (fun b => by
       by_cases e : b < j
       . exact HIL.out.zero b e
       . exact HH.out.1.wide i (by omega)))
      have hjj : decide ((j : Int) < (j : Int)) = false := by simp
      have hjj2 : decide (j < j) = false := by simp
      go_wp2;go_roundw
      case rel => exact ⟨i + 1, ls, by omega, by go_num, hs2, Own5, B5⟩
      case measure => simp [intOf]; omega
    . have hjn : (j : Int) < (c : Int) := by omega
      have hs2 := H5 (hPV.out.next HH.out.2.2.2 hin HIL.out (by omega));have hll := hPV.out.len;go_wp2_with (at_builtin; refine wpList_append_own _ rfl _ _ 34 rfl w4.heap.size 3 i0 (.int .i64 0) 1 8 Tryz.underlying34 hi0 hz0 hz1 hz2 rfl (by decide) _ _ _ rfl (Own5.out.alloc _) ⟨w5.heap.size, 0, none⟩ 1 1 [.int .i64 (j : Int)] rfl rfl (cell_one_new _ _ _) (by simp [Value.oneCell']) (by unfold maxLen; omega) (by omega) (by simp; omega) ?_; intro v' w11 hown' hgrow' hnil')
      have hb12 := H5 (Below.grown (B5.out.alloc B5.out.size _) hgrow' (B5.out.alloc B5.out.size _).size (fun k hk => wj Own5.out k hk));have hown'' := H5 hown';clear hown' hgrow' hnil';go_roundw
      case rel => exact ⟨i + 1, ls ++ [j], by omega, by go_num, hs2, H5 (by have h9 := hown''.out; simpa [od] using h9), hb12⟩
      case measure => simp [intOf]; omega
  . obtain rfl : i = r := by omega
    have HP := H5 (show uP i c (an xs i c) ls from by
     obtain ⟨k, hk, hp, hz⟩ := hPV.out;exact ⟨k, hk, ⟨hp.len, hp.herm.congr (fun a ha b => (HH.out.2.1 a b).symm)⟩, fun a h1 h2 b => by rw [<- HH.out.2.1]; exact hz a h1 h2 b⟩)
    go_wp2;go_ret2;exact ⟨⟨_, ls, rfl, HP.out, World.ownsRow.mono hOwn.out (by omega)⟩, B4.out.trans (hBl.out.mono B4.out.size)⟩
end Go.Proofs.YtjjlmfmoihooiaaGreat
namespace Go.Proofs.YtjjlmfmoihooiaaGreat
end Go.Proofs.YtjjlmfmoihooiaaGreat
namespace Go.Proofs.YtjjlmfmoihooiaaGreat
open Go.RowKit
theorem uP.len {r c : Nat} {E : Nat -> Nat -> Int} {ls : List Nat} (h : uP r c E ls) : ls.length <= r := by
 obtain ⟨i, hi, hp, _⟩ := h;rw [hp.len]; exact hi
theorem uP.pS {r c : Nat} {E : Nat -> Nat -> Int} {ls : List Nat} (h : uP r c E ls) : dC ls.length c E (fun a => ls.getD a 0) := by
 obtain ⟨i, hi, hp, _⟩ := h;rw [hp.len]; exact hp.herm
end Go.Proofs.YtjjlmfmoihooiaaGreat
namespace Go.Proofs.YtjjlmfmoihooiaaGreat
theorem uP.zero {r c : Nat} {E : Nat -> Nat -> Int} {ls : List Nat} (h : uP r c E ls) : ∀ a, ls.length <= a -> a < r -> ∀ b, E a b = 0 := by
 obtain ⟨i, hi, hp, hz⟩ := h;rw [hp.len]; exact hz
theorem dC.Bp {r c k n : Nat} {E : Nat -> Nat -> Int} {l l' : Nat -> Nat} (h : dC k c E l) (h' : dC n c E l') (hk : k <= r) (hn : n <= r) (z : ∀ a, k <= a -> a < r -> ∀ b, E a b = 0) (z' : ∀ a, n <= a -> a < r -> ∀ b, E a b = 0) : k = n := by
 rcases Nat.lt_trichotomy k n with e | e | e
 . have := h'.pos k e; rw [z k (Nat.le_refl _) (by omega)] at this; omega
 . exact e
 . have := h.pos n e; rw [z' n (Nat.le_refl _) (by omega)] at this; omega
theorem Ech.le {n c : Nat} {E : Nat -> Nat -> Int} {l : Nat -> Nat} (h : Ech n c E l) : n <= c := by
 have hk : ∀ k, k < n -> k <= l k := by
  intro k;induction k with
  | zero => intro _; exact Nat.zero_le _
  | succ k ih =>
   intro hk;have h1 := ih (by omega);have h2 := h.inc k (k + 1) (by omega) hk;omega
 by_cases e : n = 0
 . omega
 . have h1 := hk (n - 1) (by omega);have h2 := h.lt (n - 1) (by omega);omega
structure fp (c n : Nat) (E : Nat -> Nat -> Int) (hs : List Int) (k : Nat) : Prop where
 len : hs.length = k * c
 herm : ∃ l, dC k c (an hs k c) l
 sp : bD n E k (an hs k c)
theorem fp.le {c n k : Nat} {E : Nat -> Nat -> Int} {hs : List Int} (h : fp c n E hs k) : k <= c := by
 obtain ⟨l, hl⟩ := h.herm;exact hl.toEch.le
theorem fp.hf {c n k : Nat} {E : Nat -> Nat -> Int} {hs : List Int} (h : fp c n E hs k) : HF k c (an hs k c) := by
 obtain ⟨l, hl⟩ := h.herm;exact ⟨k, l, Nat.le_refl _, hl, fun i h1 h2 => by omega⟩
theorem fp.pvs {c n k : Nat} {E : Nat -> Nat -> Int} {hs : List Int} {ls : List Nat} (h : fp c n E hs k) (hp : uP k c (an hs k c) ls) : ls.length = k := by
 obtain ⟨l, hl⟩ := h.herm;exact (dC.Bp hl hp.pS (Nat.le_refl _) hp.len (fun a h1 h2 => by omega) hp.zero).symm
theorem fp.to {c n m k : Nat} {E F : Nat -> Nat -> Int} {hs : List Int} (h : fp c n E hs k) (e : bD m F n E) : fp c m F hs k := ⟨h.len, h.herm, e.trans h.sp⟩
theorem xH {R : List Hd} {k i : Nat} (hi : i < k) (j : Nat) : az (R.take k) i j = az R i j := by
 by_cases h : i < R.length
 . rw [c7 (R := R) h, c7 (R := R.take k) (by simp; omega)]; simp
 . rw [eG (R := R) (by omega), eG (R := R.take k) (by simp; omega)]
theorem x3 {R R' : List Hd} {c D k : Nat} (h : uB c D R k R') : fp c R.length (az R) ((R'.take k).map Hd.xs).flatten k /\ ∀ x ∈ ((R'.take k).map Hd.xs).flatten, x.natAbs < W ^ D := by
 obtain ⟨l, hH⟩ := h.herm;have hl : (R'.take k).length = k := by rw [List.length_take, h.len]; exact Nat.min_eq_left h.kl
 have hm := vp (r := k) hl (fun q hq => h.sh q (List.mem_of_mem_take hq));have he : ∀ i, i < k -> ∀ j, an ((R'.take k).map Hd.xs).flatten k c i j = az R' i j := fun i hi j => (hm.2 i j).trans (xH hi j);exact ⟨⟨hm.1, ⟨l, hH.congr (fun a ha b => he a ha b)⟩, h.sp.trans (bD.of_eq (fun i hi j => (he i hi j).symm))⟩, tv hm.1 (fun i j hi _ => by rw [he i hi]; exact h.bd i j)⟩
theorem tL {c m n : Nat} {E : Nat -> Nat -> Int} (hn : n <= 66) (hE : ∀ i b, i < n -> (E i b).natAbs < W ^ m) (hz : ∀ i b, c <= b -> E i b = 0) : ∃ hs k, fp c n E hs k /\ ∀ x ∈ hs, x.natAbs < W ^ hW m := by
 obtain ⟨R, hR⟩ : ∃ R, R = (List.range n).map (fun i => Hd.mk 0 0 ((List.range c).map (E i))) := ⟨_, rfl⟩;have hl : R.length = n := by rw [hR]; simp
 have hx : ∀ i (hi : i < R.length), R[i].xs = (List.range c).map (E i) := fun i hi => by subst hR; simp
 have hsh : Sh c R := fun q hq => by
  obtain ⟨i, hi, rfl⟩ := List.getElem_of_mem hq;rw [hx i hi]; simp
 have he : ∀ i, i < n -> ∀ b, az R i b = E i b := fun i hi b => by
  by_cases hb : b < c
  . rw [c7 (by omega), hx i (by omega)]; simp [hb]
  . rw [hsh.wide i (by omega), hz i b (by omega)]
 have hb : ∀ i b, (az R i b).natAbs < W ^ m := fun i b => by
  by_cases hi : i < n
  . rw [he i hi]; exact hE i b hi
  . rw [eG (by omega)]; exact Nat.pow_pos (by decide)
 obtain ⟨k, R', _, hOk⟩ := oA (N := 66) (B := rC 66 m) hsh hb (by omega) (by omega) (Nat.le_refl _);have hB := x3 hOk;refine ⟨_, k, hB.1.to ?_, hB.2⟩;rw [hl];exact bD.of_eq (fun i hi j => (he i hi j).symm)
end Go.Proofs.YtjjlmfmoihooiaaGreat
namespace Go.Proofs.YtjjlmfmoihooiaaGreat
open Go.RowKit
section
variable {P : Program} {Q : Exit -> Act -> World -> Prop} {ds : List Deferred} {S0 : Nat -> Prop} {w0 : World} {n : Nat} {ls : List (Nat × Value)} {es : List En} {c : Code}
theorem dY {es' : List En} (k : fg ds P n S0 w0 c Q ls es') (h : Pk es es' := by repeat (first | exact Pk.n | refine Pk.c (by repeat (first | exact Rm.z | apply Rm.s)) ?_)) : fg ds P n S0 w0 c Q ls es := fun a w ha hw => k a w ha (hw.pick h)
end
section
variable {P : Program} {ops : Array Oper} {Q : Exit -> Act -> World -> Prop} {ds : List Deferred} {S0 : Nat -> Prop} {w0 : World} {E0 : List En} {hd : List (List Nat)} {n j s : Nat} {l : List Nat} {G E : List En} {ls : List (Nat × Value)} {op : Op} {ty : TypeId} {pos : String} {af : Array Edge} {v v' : Value}
theorem dE (hv : v' = v) (k : dv ds ⟨P, ops, Q, S0, w0, E0, []⟩ n l G E ((s, v) :: ls))
 (ho : ops[j]? = some ⟨some s, op, ty, pos, af, none⟩ := by rfl) (hk : (bI op && dL ls op && Nat.blt s n) = true := by kernel_rfl)
 (hr : ∀ w, (oV op = true -> Fr S0 w0 w E0) -> (execOp (cT ls) ⟨some s, op, ty, pos, af, none⟩).run P w = .ok (.value v') w := by intro w H; (first | (have c := (H rfl).c; try simp only [tF, cl, List.cons_append, List.nil_append] at c) | skip); clear H; go_simp <;> with_reducible rfl) : dv ds ⟨P, ops, Q, S0, w0, E0, []⟩ n (j :: l) G E ls :=
 dW (v := v) k ho hk (by rw [<- hv]; exact hr)
theorem dB (b : Bool) (k : dv ds ⟨P, ops, Q, S0, w0, E0, []⟩ n l G E ((s, .bool b) :: ls))
 (ho : ops[j]? = some ⟨some s, op, ty, pos, af, none⟩ := by rfl) (hk : (bI op && dL ls op && Nat.blt s n) = true := by kernel_rfl)
 (hr : ∀ w, (oV op = true -> Fr S0 w0 w E0) -> (execOp (cT ls) ⟨some s, op, ty, pos, af, none⟩).run P w = .ok (.value v') w := by intro w H; (first | (have c := (H rfl).c; try simp only [tF, cl, List.cons_append, List.nil_append] at c) | skip); clear H; go_simp <;> with_reducible rfl)
 (hv : v' = .bool b := by first | rfl | (simp [*]; done) | (simp; omega)) : dv ds ⟨P, ops, Q, S0, w0, E0, []⟩ n (j :: l) G E ls :=
 dE hv k ho hk hr
theorem ln (b : Bool) {sg g : Nat} {want : Bool} (k : dv ds ⟨P, ops, Q, S0, w0, E0, []⟩ n l G E ((s, .bool b) :: ls))
 (ho : ops[j]? = some ⟨some s, op, ty, pos, af, some (g, want)⟩ := by rfl) (hk : (bI op && dL ls op && Nat.blt s n) = true := by kernel_rfl)
 (hg : (ops[g]?).bind (·.dst) = some sg := by rfl) (hi : eI ls (.tmp sg) = true := by kernel_rfl) (hb : cT ls (.tmp sg) = .bool want := by (simp only [bY, Nat.reduceEqDiff, ↓reduceIte]) <;> first | rfl | simp [*])
 (hr : ∀ w, (oV op = true -> Fr S0 w0 w E0) -> (execOp (cT ls) ⟨some s, op, ty, pos, af, some (g, want)⟩).run P w = .ok (.value v') w := by intro w H; (first | (have c := (H rfl).c; try simp only [tF, cl, List.cons_append, List.nil_append] at c) | skip); clear H; go_simp <;> with_reducible rfl)
 (hv : v' = .bool b := by first | rfl | (simp [*]; done) | (simp; omega)) : dv ds ⟨P, ops, Q, S0, w0, E0, []⟩ n (j :: l) G E ls :=
 dG k ho hk hg hi hb (by rw [<- hv]; exact hr)
end
theorem Fr.apart {S0 : Nat -> Prop} {w0 w : World} {es : List En} (h : Fr S0 w0 w es) {e e1 : En} (he : e ∈ es) (he1 : e1 ∈ es) (hw : e.wr = true) (hw1 : e1.wr = false) {b : Nat} (hb : e.S b) : ¬ e1.S b := fun hb1 => by
 obtain ⟨l1, l2, rfl⟩ := List.append_of_mem he1;have hp := List.pairwise_append.1 h.sep;rcases List.mem_append.1 he with h | h
 . exact (hp.2.2 e h _ (List.mem_cons_self ..)).1 hw b hb hb1
 . rcases List.mem_cons.1 h with rfl | h
   . rw [hw] at hw1; cases hw1
   . exact ((List.pairwise_cons.1 hp.2.1).1 e h).2 hw b hb hb1
def Rd (w w' : World) (L es : List En) : Prop := Below w.heap.size w w' /\ ∀ e ∈ es, e.F w' /\ e.wr = false /\ ∀ b, e.S b -> w.heap.size <= b \/ ∃ e1 ∈ L, e1.wr = false /\ e1.S b
theorem Rd.fr {S0 : Nat -> Prop} {w0 w w' : World} {L E : List En} : ∀ {es : List En}, Rd w w' L es -> Fr S0 w0 w E -> (∀ e ∈ L, e ∈ E) -> Fr S0 w0 w' (es ++ E)
 | [], h, hf, _ => hf.grow h.1
 | e :: es, h, hf, hL => by
  have h1 := Rd.fr (es := es) ⟨h.1, fun x hx => h.2 x (List.mem_cons_of_mem _ hx)⟩ hf hL;obtain ⟨h2, h3, h4⟩ := h.2 e (List.mem_cons_self ..);refine h1.cons h2 (fun e' he' => ⟨(fun hw => by rw [h3] at hw; cases hw), fun hw b hb hb' => ?_⟩) (fun hw => by rw [h3] at hw; cases hw);rcases List.mem_append.1 he' with he' | he'
  . rw [(h.2 e' (List.mem_cons_of_mem _ he')).2.1] at hw; cases hw
  . rcases h4 b hb' with h5 | ⟨e1, h5, h6, h7⟩
    . have := En.lt (hf.all e' he') b hb; omega
    . exact hf.apart he' (hL e1 h5) hw h6 hb h7
section
variable {P : Program} {ops : Array Oper} {Q : Exit -> Act -> World -> Prop} {ds : List Deferred} {S0 : Nat -> Prop} {w0 : World} {E0 : List En} {hd : List (List Nat)} {n j s sg g : Nat} {l : List Nat} {G E : List En} {ls : List (Nat × Value)} {op : Op} {ty : TypeId} {pos : String} {af : Array Edge} {f : FuncId} {args : Array Value} {want : Bool}
theorem cR {α : Type} {mk : α -> Value} {ens : α -> List En} (c : ∀ w, Fr S0 w0 w (G ++ E) -> Calls P f args w fun e w' => ∃ p, e = .returned (mk p) /\ Rd w w' (G ++ E) (ens p))
 (k : ∀ p, dv ds ⟨P, ops, Q, S0, w0, E0, hd⟩ n l (ens p ++ G) E ((s, mk p) :: ls))
 (ho : ops[j]? = some ⟨some s, op, ty, pos, af, none⟩ := by rfl) (hk : (!bI op && !cX op && dL ls op && Nat.blt s n) = true := by kernel_rfl)
 (hr : ∀ w, (execOp (cT ls) ⟨some s, op, ty, pos, af, none⟩).run P w = .ok (.enter f args) w := by intro w; (try simp only [av]); go_simp <;> with_reducible rfl) (hne : Nonempty α := by infer_instance)
 (hst : fs ops hd j [] = true := by kernel_rfl) : dv ds ⟨P, ops, Q, S0, w0, E0, hd⟩ n (j :: l) G E ls := fun a ha => by
 simp only [Bool.and_eq_true, Bool.not_eq_true'] at hk;refine ⟨_, ho, .inr (.inr ⟨hk.1.1.1, hk.1.1.2, α, mk, fun p => ens p ++ G, fun _ => E, [], hne, fun X w hX hw => ?_, hst, fun _ _ _ => rfl, fun p => k p _ (ha.put (Nat.le_of_ble_eq_true hk.2) _)⟩)⟩;refine yj rfl ?_;show mK P _ ((execOp a.eval _).run P w);rw [ha.exec hk.1.2, hr w];refine (c w (hw.sub (List.sublist_append_right ..))).mono ?_;rintro e w' ⟨p, rfl, hn⟩;refine ⟨_, rfl, p, rfl, (hn.fr hw (fun e he => List.mem_append_right _ he)).perm ?_⟩;rw [List.append_assoc];exact (List.perm_append_comm_assoc (ens p) X (G ++ E))
end
theorem dA {xs : List Int} {i : Nat} (h : i < xs.length) : gi xs i = xs[i] := by simp [gi, h]
theorem gZ {ps : List P4} {i : Nat} (h : i < ps.length) : gp ps i = ps[i] := by simp [gp, h]
theorem kj {xs : List Int} {i : Nat} (h : i < xs.length) : gi xs i ∈ xs := by rw [dA h]; exact List.getElem_mem h
theorem iM {xs : List Int} {i j : Nat} (h : i < xs.length) (x : Int) : gi (xs.set i x) j = if j = i then x else gi xs j := by
 unfold gi;rw [List.getD_eq_getElem?_getD, List.getElem?_set, List.getD_eq_getElem?_getD];by_cases e : i = j
 . subst e; simp [h]
 . have e2 : ¬ j = i := fun q => e q.symm;simp [e, e2]
theorem tj {ps : List P4} {i : Nat} (tl : List Value) (h : i < ps.length) : (rn ps tl)[i * 2]? = some (.bool (gp ps i).1) := by
 have := bw ps;rw [gZ h, rn, List.getElem?_append_left (by omega)]; exact jv ps i h
theorem tx {ps : List P4} {i : Nat} (tl : List Value) (h : i < ps.length) : (rn ps tl)[i * 2 + 1]? = some (.slice (gp ps i).2.1 (gp ps i).2.2.1 (gp ps i).2.2.2) := by
 have := bw ps;rw [gZ h, rn, List.getElem?_append_left (by omega)]; exact jy ps i h
theorem Bd {ps : List P4} {i : Nat} (tl : List Value) (h : i < ps.length) (p : P4) : ix (rn ps tl) (i * 2) [.bool p.1, .slice p.2.1 p.2.2.1 p.2.2.2] = rn (ps.set i p) tl := by
 have hl := bw ps;simp only [ix, rn];rw [List.set_append_left _ _ (by omega), List.set_append_left _ _ (by rw [List.length_set]; omega), nh]
theorem aK.rn {ps : List P4} {tl : List Value} (h : aK tl) : aK (rn ps tl) := fZ h
theorem bX.set {w : World} {ps : List P4} {xs : List Int} (h : bX w ps xs) (i : Nat) {p : P4} {x : Int} (hp : aI w (av p) x) : bX w (ps.set i p) (xs.set i x) := by
 refine ⟨by simp [h.1], fun j hj => ?_⟩;rw [List.length_set] at hj;have h1 := h.1;by_cases e : i = j
 . subst e;rw [gZ (by simpa using hj), dA (by simp; omega)];simpa using hp
 . have := h.2 j hj;rw [gZ hj, dA (by omega)] at this;rw [gZ (by simpa using hj), dA (by simp; omega)];simpa [e] using this
theorem bX.snoc {w : World} {ps : List P4} {xs : List Int} (h : bX w ps xs) {p : P4} {x : Int} (hp : aI w (av p) x) : bX w (ps ++ [p]) (xs ++ [x]) := by
 refine ⟨by simp [h.1], fun j hj => ?_⟩;have h1 := h.1;rw [gZ hj, dA (by simp at hj |-; omega)];by_cases e : j < ps.length
 . have := h.2 j e;rw [gZ e, dA (by omega)] at this;rw [List.getElem_append_left e, List.getElem_append_left (by omega)]; exact this
 . have e1 : j = ps.length := by simp at hj; omega
   subst e1;simpa [h1] using hp
theorem bX.nil (w : World) : bX w [] [] := ⟨rfl, fun i h => absurd h (by simp)⟩
theorem bX.n4 (w : World) (n : Nat) : bX w (List.replicate n p0) (List.replicate n 0) := ⟨by simp, fun i h => by
 have h : i < n := by simpa using h
 rw [gZ (by simpa using h), dA (by simpa using h)]; simp; exact aI.zero w⟩
theorem aL.mk' {w : World} {b : Nat} {ps : List P4} {tl : List Value} {xs : List Int} (h : aa w b 37 (rn ps tl)) (ht : aK tl) (hn : bX w ps xs) : aL w b xs :=
 ⟨ps, tl, ht, h, hn.1, fun i h1 h2 => by have := hn.2 i h1; rw [gZ h1, dA h2] at this; exact this⟩
theorem Fr.l {S0 : Nat -> Prop} {w0 w : World} {es : List En} (h : Fr S0 w0 w es) {L : Nat} {ao : Option Addr} {xs : List Int} (hx : aT w L ao xs) (hS : ∀ e ∈ es, e.wr = false) : Fr S0 w0 w (.ls L ao xs :: es) :=
 h.cons hx (fun e he => ⟨(fun q => nomatch q), fun q => by rw [hS e he] at q; cases q⟩) (fun q => nomatch q)
section
variable {P : Program} {Q : Exit -> Act -> World -> Prop} {ds : List Deferred} {S0 : Nat -> Prop} {w0 : World} {n : Nat} {ls : List (Nat × Value)} {es : List En} {c : Code}
theorem Fr.cellOf {w : World} {e : En} {a : Addr} {v : Value} (h : Fr S0 w0 w es) (hm : e ∈ es) (hwr : e.wr = false) (hS : e.S a.block) (hc : w.cell? a = some v) : Fr S0 w0 w (.cell a v :: es) :=
 h.cons (e := .cell a v) hc (fun e' he' => ⟨(fun q => nomatch q), fun q g hg hg' => by
  obtain rfl : g = a.block := hg';exact h.apart he' hm q hwr hg hS⟩) (fun q => nomatch q)
theorem tu {L : Nat} {xs : List Int} {b o : Nat} (i : Nat) (hm : En.ls L (some ⟨b, o, none⟩) xs ∈ es) (hi : i < xs.length) (k : ∀ p : P4, fg ds P n S0 w0 c Q ls (.cell ⟨b, o + i * 2, none⟩ (.bool p.1) :: .cell ⟨b, o + i * 2 + 1, none⟩ (.slice p.2.1 p.2.2.1 p.2.2.2) :: .at L (av p) (gi xs i) :: es)) : fg ds P n S0 w0 c Q ls es := fun a w ha hw => by
 have hA : aT w L (some ⟨b, o, none⟩) xs := hw.all _ hm;obtain ⟨b', o', e, hb, hc⟩ := hA (by omega);cases e;obtain ⟨p, h0, h1, hx⟩ := hc i hi;rw [<- dA hi] at hx;have hS : (En.ls L (some ⟨b, o, none⟩) xs).S b := ⟨by omega, o, rfl⟩;exact k p a w ha (((hw.pure (e := .at L (av p) (gi xs i)) hx (fun _ h => h)).cellOf (List.mem_cons_of_mem _ hm) rfl hS h1).cellOf (List.mem_cons_of_mem _ (List.mem_cons_of_mem _ hm)) rfl hS h0)
theorem nY {e : En} (he : ∀ w, Fr S0 w0 w es -> e.F w) (k : fg ds P n S0 w0 c Q ls (e :: es)) (hS : ∀ b, ¬ e.S b := by intro b h; exact h) : fg ds P n S0 w0 c Q ls es := fun a w ha hw => k a w ha (hw.pure (he w hw) hS)
end
section
variable {ops : Array Oper} {Q : Exit -> Act -> World -> Prop} {ds : List Deferred} {S0 : Nat -> Prop} {w0 : World} {E0 : List En} {hd : List (List Nat)} {n j s : Nat} {l : List Nat} {G E : List En} {ls : List (Nat × Value)} {op : Op} {ty : TypeId} {pos : String} {af : Array Edge}
theorem mN {sl sc : Operand} {a b : Int} {kl kc : IntKind} (x y : Nat) (hx : a = x) (hy : b = y) (hxy : x <= y) (hb : y <= 8796093022208) (k : ∀ g, dv ds ⟨Tryz.prog, ops, Q, S0, w0, E0, hd⟩ n l (.row g 37 (rn (List.replicate y p0) []) :: G) E ((s, .slice (some ⟨g, 0, none⟩) x y) :: ls))
 (ho : ops[j]? = some ⟨some s, .makeSlice 22 sl sc, ty, pos, af, none⟩ := by rfl) (hk : (dL ls (.makeSlice 22 sl sc) && Nat.blt s n) = true := by kernel_rfl)
 (h1 : cT ls sl = .int kl a := by (simp only [bY, Nat.reduceEqDiff, ↓reduceIte]) <;> rfl) (h2 : cT ls sc = .int kc b := by (simp only [bY, Nat.reduceEqDiff, ↓reduceIte]) <;> rfl) : dv ds ⟨Tryz.prog, ops, Q, S0, w0, E0, hd⟩ n (j :: l) G E ls := fun A hA => by
 simp only [Bool.and_eq_true] at hk;refine ⟨_, ho, .inr (.inl ⟨rfl, rfl, fun g => .slice (some ⟨g, 0, none⟩) x y, 37, rn (List.replicate y p0) [], ⟨rfl, fun w => ?_⟩, fun g => k g _ (hA.put (Nat.le_of_ble_eq_true hk.2) _)⟩)⟩;rw [hA.exec (o := ⟨some s, .makeSlice 22 sl sc, ty, pos, af, none⟩) hk.1];obtain ⟨i, hi, hz, hs, hbt⟩ := info_parts jg;subst hx hy;have hr := run_make (P := Tryz.prog) w 22 37 i (.agg #[.bool false, .slice none 0 0]) Tryz.underlying22 hi hz kl kc x y (by omega) (by omega) (by rw [hbt]; omega) (by omega);simp only [Int.toNat_natCast] at hr;have e : madeCells (Value.agg #[.bool false, .slice none 0 0]).cells (y * i.size) = (rn (List.replicate y p0) []).toArray := by
  have := ob y;rw [hs, rn, List.append_nil, <- this]
 simp [execOp, h1, h2, hr, Result.andThen, e]
theorem sN {b i : Nat} {ps ps' : List P4} {tl : List Value} {ad x : Operand} {sty : TypeId} {E' : List En} (q : Nat) (p : P4) (hq : q < ps.length) (ht : aK tl) (hs : ps.set q p = ps')
 (k' : dv ds ⟨Tryz.prog, ops, Q, S0, w0, E0, hd⟩ n l G E' ls)
 (ho : ops[j]? = some ⟨none, .store sty ad x, ty, pos, af, none⟩ := by rfl) (hk : dL ls (.store sty ad x) = true := by kernel_rfl)
 (ha : cT ls ad = .pointer (some ⟨b, q * 2, none⟩) := by (simp only [bY, Nat.reduceEqDiff, ↓reduceIte]) <;> rfl)
 (hv : cT ls x = .agg #[.bool p.1, .slice p.2.1 p.2.2.1 p.2.2.2] := by (simp only [bY, Nat.reduceEqDiff, ↓reduceIte, av]) <;> rfl)
 (hE : Up (.row b 37 (rn ps tl)) (.row b 37 (rn ps' tl)) i E E' := by repeat first | exact .z | apply Up.s)
 (hr : ∀ w u v, w.cell? ⟨b, q * 2, none⟩ = some u -> w.cell? ⟨b, q * 2 + 1, none⟩ = some v -> w.frozen? ⟨b, q * 2, none⟩ = false -> w.frozen? ⟨b, q * 2 + 1, none⟩ = false -> (execOp (cT ls) ⟨none, .store sty ad x, ty, pos, af, none⟩).run Tryz.prog w = .ok .skip (qh w b (q * 2) [.bool p.1, .slice p.2.1 p.2.2.1 p.2.2.2]) := by intro w u v c0 c1 f0 f1; (try simp only [av]); go_simp <;> rfl)
 (hst : fs ops hd j [i] = true := by kernel_rfl) : dv ds ⟨Tryz.prog, ops, Q, S0, w0, E0, hd⟩ n (j :: l) G E ls := fun a hA => by
 subst hs;refine ⟨_, ho, .inr (.inr ⟨rfl, rfl, Unit, fun _ => undef, fun _ => G, fun _ => E', [i], ⟨()⟩, fun X w hX hw => ?_, hst, fun _ r hr => hE.other (by simpa using hr), fun _ => k' _ (hA.AL _)⟩)⟩;obtain ⟨m, h1, h2⟩ := hE.right' X G;have hrow : aa w b 37 (rn ps tl) := (hw.perm h1).all _ (List.mem_cons_self ..);refine yj rfl ?_;show mK _ _ ((execOp a.eval _).run _ w);rw [hA.exec (o := ⟨none, .store sty ad x, ty, pos, af, none⟩) hk, hr w _ _ ((hrow.cell _).trans (tj tl hq)) ((hrow.cell _).trans (tx tl hq)) (hrow.free _) (hrow.free _)];exact ⟨(), rfl, hw.st (t := 37) _ _ (.inl ⟨aK.rn ht, by decide⟩) h1 (by rw [Bd tl hq]; exact h2)⟩
end
theorem Fr.conv {S0 : Nat -> Prop} {w0 w : World} {es : List En} {e e' : En} (h : Fr S0 w0 w (e :: es)) (h1 : e.F w -> e'.F w) (h2 : ∀ b, e'.S b -> e.S b) (h3 : e'.wr = true -> e.wr = true) : Fr S0 w0 w (e' :: es) := by
 have hp := List.pairwise_cons.1 h.sep;exact h.tl.cons (h1 h.m0) (fun x hx => ⟨fun q b hb => (hp.1 x hx).1 (h3 q) b (h2 b hb), fun q b hb hb' => (hp.1 x hx).2 q b hb (h2 b hb')⟩) (fun q b hb => h.own e (List.mem_cons_self ..) (h3 q) b (h2 b hb))
theorem Fr.lst0 {S0 : Nat -> Prop} {w0 w : World} {es : List En} (h : Fr S0 w0 w es) : Fr S0 w0 w (.ly none 0 0 [] :: es) := h.pure (e := .ly none 0 0 []) ⟨rfl, Nat.le_refl _, .inl ⟨rfl, rfl⟩⟩ (fun b ⟨o, e⟩ => nomatch e)
section
variable {P : Program} {Q : Exit -> Act -> World -> Prop} {ds : List Deferred} {S0 : Nat -> Prop} {w0 : World} {n : Nat} {ls : List (Nat × Value)} {es : List En} {c : Code}
theorem lst0W (k : fg ds P n S0 w0 c Q ls (.ly none 0 0 [] :: es)) : fg ds P n S0 w0 c Q ls es := fun a w ha hw => k a w ha hw.lst0
end
theorem yt {ps : List P4} {tl : List Value} {cap : Nat} (hl : (rn ps tl).length = cap * 2) (h : ps.length < cap) (p : P4) : ix (rn ps tl) (ps.length * 2) [.bool p.1, .slice p.2.1 p.2.2.1 p.2.2.2] = rn (ps ++ [p]) (tl.drop 2) := by
 have hf := bw ps;obtain ⟨a, b, t, rfl⟩ : ∃ a b t, tl = a :: b :: t := by
  rw [rn, List.length_append] at hl;match tl, hl with
  | [], h => simp at h; omega
  | [_], h => simp at h; omega
  | a :: b :: t, _ => exact ⟨a, b, t, rfl⟩
 simp only [ix, rn];rw [List.set_append_right _ _ (by omega), List.set_append_right _ _ (by omega), jn, show ps.length * 2 - (flat ps).length = 0 by omega, show ps.length * 2 + 1 - (flat ps).length = 1 by omega];simp [flat]
theorem aO.wT (T : Nat -> Prop) (w : World) (o : Obj) : aO T w (w.drew.alloc o) := aO.bb ⟨rfl, rfl, rfl, by simp, fun q hq => tA w _ hq⟩
theorem yy {w : World} {ty : TypeId} {ao : Option Addr} {k cap : Nat} {ps : List P4} (h : tw ao k cap ps w) (hb : k <= 100000000) {ad : Addr} {c : Nat} {p : P4} (h0 : w.cell? ad = some (.bool p.1)) (h1 : w.cell? (ad.add 1) = some (.slice p.2.1 p.2.2.1 p.2.2.2)) :
 ∃ ao' cap' w', (Builtin.append_ #[22, 22] ty #[.slice ao k cap, .slice (some ad) 1 c]).run Tryz.prog w = .ok (.slice ao' (k + 1) cap') w' /\ tw ao' (k + 1) cap' (ps ++ [p]) w' /\ aO (fun g => ∃ o, ao = some ⟨g, o, none⟩) w w' /\ ∀ g, (∃ o, ao' = some ⟨g, o, none⟩) -> (∃ o, ao = some ⟨g, o, none⟩) \/ w.heap.size <= g := by
 obtain ⟨i, hi, hz, hsz, hby⟩ := info_parts jg;have hn : ∀ j u, [Value.bool p.1, .slice p.2.1 p.2.2.1 p.2.2.2][j]? = some u -> w.cell? (ad.add j) = some u := fun j u hj => by
  match j, hj with
  | 0, hj => cases hj; simpa [Addr.add] using h0
  | 1, hj => cases hj; exact h1
 have hsrc : Src Tryz.prog i.size 22 (.slice (some ad) 1 c) 1 [Value.bool p.1, .slice p.2.1 p.2.2.1 p.2.2.2] w := Src.ofSlice w Tryz.underlying22 ad 1 c _ (by rw [hsz]; rfl) hn (by simp [Value.oneCell']);obtain ⟨hk, hkc, hrow⟩ := h;by_cases hroom : k < cap
 . obtain ⟨_, h⟩ | ⟨b, tl, rfl, ht, hr, hl⟩ := hrow
   . omega
   subst hk;have hex : ∀ j, j < cap * 2 -> (w.cell? ⟨b, j, none⟩).isSome = true := fun j hj => by rw [hr.cell, List.getElem?_eq_getElem (by omega)]; rfl
   refine ⟨_, _, _, run_append_room_src w 22 22 ty 37 i Tryz.underlying22 hi b 0 ps.length cap _ 1 _ hsrc (by omega) (fun j hj => hex _ ?_) (fun j _ => hr.free _), ?_, ?_, fun g hg => .inl hg⟩
   . rw [hsz]; simp at hj; omega
   . rw [hsz, Nat.zero_add];have h2 := hr.qh [.bool p.1, .slice p.2.1 p.2.2.1 p.2.2.2] (ps.length * 2);rw [yt hl hroom] at h2;refine ⟨by simp, by omega, .inr ⟨b, tl.drop 2, rfl, fun v hv => ht v (List.mem_of_mem_drop hv), h2, ?_⟩⟩;have hf := bw ps;rw [rn, List.length_append] at hl;rw [rn, List.length_append, bw]; simp; omega
   . rw [hsz, Nat.zero_add];exact (aO.qh [.bool p.1, .slice p.2.1 p.2.2.1 p.2.2.2] (ps.length * 2) (aO.refl (· = b) w)).mono (fun g _ e => by obtain rfl : g = b := e; exact ⟨0, rfl⟩)
 . obtain rfl : k = cap := by omega
   have hf := bw ps;have hold : (Builtin.firstCells i.size k (.slice ao k k)).run Tryz.prog w.drew = .ok (flat ps).toArray w.drew := by
    obtain ⟨rfl, h⟩ | ⟨b, tl, rfl, ht, hr, hl⟩ := hrow
    . obtain rfl : ps = [] := List.eq_nil_of_length_eq_zero (by omega);exact run_firstCells_none w.drew i.size k k k
    . refine run_firstCells_some w.drew i.size k _ k k (flat ps) (by rw [hsz]; omega) fun j v hj => ?_;have e : w.drew.cell? ((⟨b, 0, none⟩ : Addr).add j) = w.cell? ⟨b, j, none⟩ := by simp only [Addr.add]; by_cases hj0 : j = 0 <;> simp [hj0]
      rw [e, hr.cell, rn, List.getElem?_append_left (List.getElem?_eq_some_iff.1 hj).1]; exact hj
   refine ⟨_, _, _, run_append_grow_src w 22 22 ty 37 i (.agg #[.bool false, .slice none 0 0]) Tryz.underlying22 hi hz ao k k (flat ps) hold _ 1 _ hsrc (by omega) (by omega) (growslice_fits (by omega) (by rw [hby]; omega)), ⟨by simp [hk], grownCap_ge .., .inr ⟨_, (Builtin.zeroCells (Value.agg #[.bool false, .slice none 0 0]).cells (grownCap w (k + 1) k 37 - (k + 1))).toList, rfl, vc _, ?_, ?_⟩⟩, aO.wT _ w _, fun g ⟨o, e⟩ => by cases e; exact .inr (Nat.le_refl _)⟩
   . have hnew := aa.new w.drew ((flat ps ++ [Value.bool p.1, .slice p.2.1 p.2.2.1 p.2.2.2]).toArray ++ Builtin.zeroCells (Value.agg #[.bool false, .slice none 0 0]).cells (grownCap w (k + 1) k 37 - (k + 1))) 37;rw [rn, jn];simpa [flat] using hnew
   . have hge := grownCap_ge w (k + 1) k 37;have hz2 : (Builtin.zeroCells (Value.agg #[.bool false, .slice none 0 0]).cells (grownCap w (k + 1) k 37 - (k + 1))).toList.length = (grownCap w (k + 1) k 37 - (k + 1)) * 2 := by rw [Array.length_toList, size_zeroCells]; rfl
     rw [rn, List.length_append, bw, List.length_append, hz2]; simp; omega
section
variable {ops : Array Oper} {Q : Exit -> Act -> World -> Prop} {ds : List Deferred} {S0 : Nat -> Prop} {w0 : World} {E0 : List En} {hd : List (List Nat)} {n j s : Nat} {l : List Nat} {G E : List En} {ls : List (Nat × Value)} {op : Op} {ty : TypeId} {pos : String} {af : Array Edge}
theorem Bw {i k cap g : Nat} {ao : Option Addr} {ps : List P4} {t : TypeId} {c : Nat} (p : P4) {sa xa : Operand} {E' : Option Addr × Nat -> List En} (hb : k <= 100000000)
 (hm : En.row g t [.bool p.1, .slice p.2.1 p.2.2.1 p.2.2.2] ∈ G ++ E)
 (k' : ∀ q, dv ds ⟨Tryz.prog, ops, Q, S0, w0, E0, hd⟩ n l G (E' q) ((s, .slice q.1 (k + 1) q.2) :: ls))
 (ho : ops[j]? = some ⟨some s, .call { callee := Callee.builtin Builtin.append, args := #[sa, xa], argTypes := #[22, 22] }, ty, pos, af, none⟩ := by rfl) (hk : (dL ls (.call { callee := Callee.builtin Builtin.append, args := #[sa, xa], argTypes := #[22, 22] }) && Nat.blt s n) = true := by kernel_rfl)
 (ha : cT ls sa = .slice ao k cap := by (simp only [bY, Nat.reduceEqDiff, ↓reduceIte]) <;> rfl)
 (hv : cT ls xa = .slice (some ⟨g, 0, none⟩) 1 c := by (simp only [bY, Nat.reduceEqDiff, ↓reduceIte, av]) <;> rfl)
 (hE : ∀ q, Up (.ly ao k cap ps) (.ly q.1 (k + 1) q.2 (ps ++ [p])) i E (E' q) := by intro q; repeat first | exact .z | apply Up.s)
 (hst : fs ops hd j [i] = true := by kernel_rfl) : dv ds ⟨Tryz.prog, ops, Q, S0, w0, E0, hd⟩ n (j :: l) G E ls := fun a hA => by
 simp only [Bool.and_eq_true] at hk;refine ⟨_, ho, .inr (.inr ⟨rfl, rfl, Option Addr × Nat, fun q => .slice q.1 (k + 1) q.2, fun _ => G, E', [i], ⟨(none, 0)⟩, fun X w hX hw => ?_, hst, fun q r hr => (hE q).other (by simpa using hr), fun q => k' q _ (hA.put (Nat.le_of_ble_eq_true hk.2) _)⟩)⟩;have hrow : aa w g t [.bool p.1, .slice p.2.1 p.2.2.1 p.2.2.2] := hw.all _ (List.mem_append_right _ hm);have hl : tw ao k cap ps w := by
  obtain ⟨m, h1, h2⟩ := (hE (none, 0)).right' X G;exact (hw.perm h1).all _ (List.mem_cons_self ..)
 obtain ⟨ao', cap', w', hrun, h1', hc, hS⟩ := yy (ty := ty) hl hb (ad := ⟨g, 0, none⟩) (c := c) (hrow.cell 0) (hrow.cell 1);obtain ⟨m, h1, h2⟩ := (hE (ao', cap')).right' X G;refine yj rfl ?_;show mK _ _ ((execOp a.eval _).run _ w);rw [hA.exec (o := ⟨some s, .call { callee := Callee.builtin Builtin.append, args := #[sa, xa], argTypes := #[22, 22] }, ty, pos, af, none⟩) hk.1];have e : (execOp (cT ls) ⟨some s, .call { callee := Callee.builtin Builtin.append, args := #[sa, xa], argTypes := #[22, 22] }, ty, pos, af, none⟩).run Tryz.prog w = .ok (.value (.slice ao' (k + 1) cap')) w' := by
  simp [execOp, resolve, invoke, builtin, ha, hv, hrun, Result.andThen]
 rw [e];refine ⟨(ao', cap'), rfl, Fr.perm ((hw.perm h1).bU (e := .ly ao k cap ps) (e' := .ly ao' (k + 1) cap' (ps ++ [p])) rfl hc (fun x hx _ => ?_) (fun _ h => h) h1' hS) h2.symm⟩;rintro b ⟨o, rfl⟩;obtain ⟨_, _, ⟨h, _⟩ | ⟨b', tl, h, ht, hr, _⟩⟩ := hl
 . cases h
 . cases h; exact ⟨_, _, hr, aK.rn ht, by decide⟩
end
section
variable {P : Program} {ops : Array Oper} {Q : Exit -> Act -> World -> Prop} {ds : List Deferred} {S0 : Nat -> Prop} {w0 : World} {E0 : List En} {hd : List (List Nat)} {n j s : Nat} {l : List Nat} {G E : List En} {ls : List (Nat × Value)} {op : Op} {ty : TypeId} {pos : String} {af : Array Edge} {f : FuncId} {args : Array Value}
end
section
variable {P : Program} {Q : Exit -> Act -> World -> Prop} {ds : List Deferred} {S0 : Nat -> Prop} {w0 : World} {n : Nat} {ls : List (Nat × Value)} {es : List En} {c : Code}
end
section
variable {P : Program} {ops : Array Oper} {Q : Exit -> Act -> World -> Prop} {ds : List Deferred} {S0 : Nat -> Prop} {w0 : World} {E0 : List En} {hd : List (List Nat)} {n j s : Nat} {l : List Nat} {G E : List En} {ls : List (Nat × Value)} {op : Op} {ty : TypeId} {pos : String} {af : Array Edge} {f : FuncId} {args : Array Value}
theorem bW {t : TypeId} {cs : List Value} {m : Nat} (k : ∀ g, dv ds ⟨P, ops, Q, S0, w0, E0, hd⟩ n l (.row g t cs :: G) E ((s, .slice (some ⟨g, 0, none⟩) m m) :: ls))
 (ho : ops[j]? = some ⟨some s, op, ty, pos, af, none⟩ := by rfl) (hk : (!bI op && cX op && dL ls op && Nat.blt s n) = true := by kernel_rfl)
 (hr : ∀ w, (execOp (cT ls) ⟨some s, op, ty, pos, af, none⟩).run P w = .ok (.value (.slice (some ⟨w.heap.size, 0, none⟩) m m)) (w.alloc (.cells cs.toArray t (0, 0))) := by intro w; (try simp only [av]); go_simp <;> with_reducible rfl) : dv ds ⟨P, ops, Q, S0, w0, E0, hd⟩ n (j :: l) G E ls := fun a ha => by
 simp only [Bool.and_eq_true, Bool.not_eq_true'] at hk;refine ⟨_, ho, .inr (.inl ⟨hk.1.1.1, hk.1.1.2, fun g => .slice (some ⟨g, 0, none⟩) m m, t, cs, ⟨rfl, fun w => ?_⟩, fun g => k g _ (ha.put (Nat.le_of_ble_eq_true hk.2) _)⟩)⟩;rw [ha.exec hk.1.2];exact hr w
end
theorem aT.pos {w : World} {L : Nat} {ao : Option Addr} {xs : List Int} (h : aT w L ao xs) {i : Nat} (hi : i < xs.length) : ∃ b o, ao = some ⟨b, o, none⟩ := by
 obtain ⟨b, o, e, _⟩ := h (by omega);exact ⟨b, o, e⟩
theorem oR {w : World} {ao : Option Addr} {k cap : Nat} {ps : List P4} {xs : List Int} (h : tw ao k cap ps w) (hn : bX w ps xs) : oz w ao xs := fun hl => by
 obtain ⟨h1, _, ⟨_, h2⟩ | ⟨b, tl, rfl, ht, hr, _⟩⟩ := h
 . have := hn.1; omega
 . exact (aL.mk' hr ht hn).lsN hl
theorem vD {ls : List (Nat × Value)} {w : World} {t b : Nat} {x y z : Value} (h : aa w b 24 [x, y, z]) (h1 : eI ls (.tmp t) = true := by kernel_rfl) (h2 : cT ls (.tmp t) = .pointer (some ⟨b, 0, none⟩) := by (simp only [bY, Nat.reduceEqDiff, ↓reduceIte]) <;> rfl) : eP Tryz.prog ls w (.cell t 24) (.agg #[x, y, z]) :=
 ⟨h1, _, h2, run_loadVar_row w b 24 24 #[x, y, z] (0, 0) _ h Tryz.underlying24 rfl (by kernel_rfl)⟩
section
variable {P : Program} {ops : Array Oper} {Q : Exit -> Act -> World -> Prop} {ds : List Deferred} {S0 : Nat -> Prop} {w0 : World} {E0 : List En} {hd : List (List Nat)} {n j s sg g : Nat} {l : List Nat} {G E : List En} {ls : List (Nat × Value)} {op : Op} {ty : TypeId} {pos : String} {af : Array Edge} {f : FuncId} {args : Array Value} {v : Value} {want : Bool}
theorem cGg {α : Type} {mk : α -> Value} {ens : α -> List En} (c : ∀ w, Fr S0 w0 w (G ++ E) -> Calls P f args w fun e w' => ∃ p, e = .returned (mk p) /\ Nw w w' (ens p))
 (k : ∀ p, dv ds ⟨P, ops, Q, S0, w0, E0, hd⟩ n l (ens p ++ G) E ((s, mk p) :: ls))
 (ho : ops[j]? = some ⟨some s, op, ty, pos, af, some (g, want)⟩ := by rfl) (hk : (!bI op && !cX op && dL ls op && Nat.blt s n) = true := by kernel_rfl)
 (hg : (ops[g]?).bind (·.dst) = some sg := by rfl) (hi : eI ls (.tmp sg) = true := by kernel_rfl) (hb : cT ls (.tmp sg) = .bool want := by (simp only [bY, Nat.reduceEqDiff, ↓reduceIte]) <;> first | rfl | simp [*])
 (hr : ∀ w, (execOp (cT ls) ⟨some s, op, ty, pos, af, some (g, want)⟩).run P w = .ok (.enter f args) w := by intro w; (try simp only [av]); go_simp <;> with_reducible rfl) (hne : Nonempty α := by infer_instance)
 (hst : fs ops hd j [] = true := by kernel_rfl) : dv ds ⟨P, ops, Q, S0, w0, E0, hd⟩ n (j :: l) G E ls := fun a ha => by
 simp only [Bool.and_eq_true, Bool.not_eq_true'] at hk;refine ⟨_, ho, .inr (.inr ⟨hk.1.1.1, hk.1.1.2, α, mk, fun p => ens p ++ G, fun _ => E, [], hne, fun X w hX hw => ?_, hst, fun _ _ _ => rfl, fun p => k p _ (ha.put (Nat.le_of_ble_eq_true hk.2) _)⟩)⟩;rw [if_pos (by rw [jB ha hg hi hb]; simp)];show mK P _ ((execOp a.eval _).run P w);rw [ha.exec hk.1.2, hr w];refine (c w (hw.sub (List.sublist_append_right ..))).mono ?_;rintro e w' ⟨p, rfl, hn⟩;refine ⟨_, rfl, p, rfl, (hn.fr hw).perm ?_⟩;rw [List.append_assoc];exact (List.perm_append_comm_assoc (ens p) X (G ++ E))
theorem wQ (c : ∀ w, Fr S0 w0 w (G ++ E) -> Calls P f args w fun e w' => e = .returned v /\ Below w.heap.size w w')
 (k : dv ds ⟨P, ops, Q, S0, w0, E0, hd⟩ n l G E ((s, v) :: ls))
 (ho : ops[j]? = some ⟨some s, op, ty, pos, af, some (g, want)⟩ := by rfl) (hk : (!bI op && !cX op && dL ls op && Nat.blt s n) = true := by kernel_rfl)
 (hg : (ops[g]?).bind (·.dst) = some sg := by rfl) (hi : eI ls (.tmp sg) = true := by kernel_rfl) (hb : cT ls (.tmp sg) = .bool want := by (simp only [bY, Nat.reduceEqDiff, ↓reduceIte]) <;> first | rfl | simp [*])
 (hr : ∀ w, (execOp (cT ls) ⟨some s, op, ty, pos, af, some (g, want)⟩).run P w = .ok (.enter f args) w := by intro w; (try simp only [av]); go_simp <;> with_reducible rfl)
 (hst : fs ops hd j [] = true := by kernel_rfl) : dv ds ⟨P, ops, Q, S0, w0, E0, hd⟩ n (j :: l) G E ls := by
 refine cGg (α := Unit) (mk := fun _ => v) (ens := fun _ => []) (fun w hw => (c w hw).mono ?_) (fun _ => k) ho hk hg hi hb hr ⟨()⟩ hst;rintro e w' ⟨rfl, hb⟩;exact ⟨(), rfl, hb, fun e he => (List.not_mem_nil he).elim, .nil⟩
theorem uC (k : dv ds ⟨P, ops, Q, S0, w0, E0, hd⟩ n l G E ((s, undef) :: ls))
 (ho : ops[j]? = some ⟨some s, op, ty, pos, af, some (g, want)⟩ := by rfl) (hk : (!bI op && !cX op && Nat.blt s n) = true := by kernel_rfl)
 (hg : (ops[g]?).bind (·.dst) = some sg := by rfl) (hi : eI ls (.tmp sg) = true := by kernel_rfl) (hb : cT ls (.tmp sg) = .bool (!want) := by (simp only [bY, Nat.reduceEqDiff, ↓reduceIte]) <;> first | rfl | simp [*])
 (hst : fs ops hd j [] = true := by kernel_rfl) : dv ds ⟨P, ops, Q, S0, w0, E0, hd⟩ n (j :: l) G E ls := fun a ha => by
 simp only [Bool.and_eq_true, Bool.not_eq_true'] at hk;refine ⟨_, ho, .inr (.inr ⟨hk.1.1, hk.1.2, Unit, fun _ => undef, fun _ => G, fun _ => E, [], ⟨()⟩, fun X w hX hw => ?_, hst, fun _ _ _ => rfl, fun _ => k _ (ha.put (Nat.le_of_ble_eq_true hk.2) _)⟩)⟩;rw [if_neg (by rw [jB ha hg hi hb]; simp)];exact ⟨(), rfl, hw⟩
end
theorem cNo' {P : Program} {f : FuncId} {args : Array Value} {w : World} {B : Nat} {x : Int} (h : Calls P f args w fun e w' => (∃ v, e = .returned v /\ ai w' w.heap.size v x) /\ Below w.heap.size w w') (hB : B <= w.heap.size) : Calls P f args w fun e w' => ∃ p : P4, e = .returned (av p) /\ Nw w w' [.own B (av p) x] := h.mono fun e w' ⟨⟨v, he, hv⟩, hb⟩ => by
 subst he;obtain ⟨b, ao, l', k', rfl⟩ := ai.parts hv;exact ⟨(b, ao, l', k'), rfl, hb, fun e he => by
  rcases List.mem_singleton.1 he with rfl;exact ⟨ai.mono hv hB, fun _ h => h.elim⟩, List.pairwise_singleton ..⟩
section
variable {ops : Array Oper} {Q : Exit -> Act -> World -> Prop} {ds : List Deferred} {S0 : Nat -> Prop} {w0 : World} {E0 : List En} {hd : List (List Nat)} {n j s : Nat} {l : List Nat} {G E : List En} {ls : List (Nat × Value)} {ty : TypeId} {pos : String} {af : Array Edge}
end
theorem dI {a : Nat} (h : a < 9223372036854775807) : Value.int .i64 (IntKind.i64.wrap ((a : Int) + 1)) = .int .i64 ((a + 1 : Nat) : Int) := by
 rw [wrap_small] <;> first | rfl | omega
theorem Bu {a b : Nat} (h : a + b < 9223372036854775807) : Value.int .i64 (IntKind.i64.wrap ((a : Int) + b)) = .int .i64 ((a + b : Nat) : Int) := by
 rw [wrap_small] <;> first | rfl | omega
theorem qW {a b : Nat} (h : a * b < 9223372036854775808) : Value.int .i64 (IntKind.i64.wrap ((a : Int) * b)) = .int .i64 ((a * b : Nat) : Int) := by
 rw [<- Int.natCast_mul, wrap_small] <;> first | rfl | omega
section
variable {P : Program} {Q : Exit -> Act -> World -> Prop} {ds : List Deferred} {S0 : Nat -> Prop} {w0 : World} {n : Nat} {ls : List (Nat × Value)} {es : List En} {c : Code}
end
theorem wO {n : Nat} (h0 : 0 < n) (h : n < W) : fz n = [n] := by
 have e := gR (Ok.one h);have hv : ae [n] = n := by simp [ae]
 have hw : ag n = 1 := by
  have e1 : ag n ≠ 0 := fun e => by have := da.1 e; omega
  have e2 : ag n <= 1 := aw (by simpa using h);omega
 have ht := bJ (Ok.one h);rw [hv, hw] at ht;rw [hv, <- ht] at e;simpa using e
theorem iy {n : Nat} (h0 : 0 < n) (h : n < W) : ag n = 1 := by
 have e1 : ag n ≠ 0 := fun e => by have := da.1 e; omega
 have e2 : ag n <= 1 := aw (by simpa using h);omega
theorem yS {r c i j : Nat} (hi : i < r) (hj : j < c) : i * c + j < r * c := by
 have h1 : (i + 1) * c <= r * c := Nat.mul_le_mul_right _ hi;have h2 : (i + 1) * c = i * c + c := Nat.succ_mul i c;omega
section
variable {P : Program} {ops : Array Oper} {Q : Exit -> Act -> World -> Prop} {ds : List Deferred} {S0 : Nat -> Prop} {w0 : World} {E0 : List En} {n j s sg g : Nat} {l : List Nat} {G E : List En} {ls : List (Nat × Value)} {op : Op} {ty : TypeId} {pos : String} {af : Array Edge} {v v' : Value} {want : Bool}
theorem dGE (hv : v' = v) (k : dv ds ⟨P, ops, Q, S0, w0, E0, []⟩ n l G E ((s, v) :: ls))
 (ho : ops[j]? = some ⟨some s, op, ty, pos, af, some (g, want)⟩ := by rfl) (hk : (bI op && dL ls op && Nat.blt s n) = true := by kernel_rfl)
 (hg : (ops[g]?).bind (·.dst) = some sg := by rfl) (hi : eI ls (.tmp sg) = true := by kernel_rfl) (hb : cT ls (.tmp sg) = .bool want := by (simp only [bY, Nat.reduceEqDiff, ↓reduceIte]) <;> first | rfl | simp [*])
 (hr : ∀ w, (oV op = true -> Fr S0 w0 w E0) -> (execOp (cT ls) ⟨some s, op, ty, pos, af, some (g, want)⟩).run P w = .ok (.value v') w := by intro w H; (first | (have c := (H rfl).c; try simp only [tF, cl, List.cons_append, List.nil_append] at c) | skip); clear H; go_simp <;> with_reducible rfl) : dv ds ⟨P, ops, Q, S0, w0, E0, []⟩ n (j :: l) G E ls :=
 dG k ho hk hg hi hb (by rw [<- hv]; exact hr)
end
theorem Fr.cl {S0 : Nat -> Prop} {w0 w : World} {es : List En} (h : Fr S0 w0 w es) {a : Addr} {v : Value} (hc : w.cell? a = some v) (hS : ∀ e ∈ es, e.wr = false) : Fr S0 w0 w (.cell a v :: es) :=
 h.cons (e := .cell a v) hc (fun e he => ⟨(fun q => nomatch q), fun q => by rw [hS e he] at q; cases q⟩) (fun q => nomatch q)
end Go.Proofs.YtjjlmfmoihooiaaGreat
namespace Go.Proofs.YtjjlmfmoihooiaaGreat
def bQ (c : Nat) (f : Nat -> Nat -> Int) (k : Nat) : List Int := (List.range k).map fun q => f (q / c) (q % c)
theorem dQ (c : Nat) (f : Nat -> Nat -> Int) (k : Nat) : (bQ c f k).length = k := by simp [bQ]
theorem oC {c i j : Nat} (f : Nat -> Nat -> Int) (hj : j < c) : bQ c f (i * c + j + 1) = bQ c f (i * c + j) ++ [f i j] := by
 have h1 : (i * c + j) / c = i := by rw [Nat.mul_comm, Nat.mul_add_div (by omega), Nat.div_eq_of_lt hj]; rfl
 have h2 : (i * c + j) % c = j := by rw [Nat.mul_comm, Nat.mul_add_mod, Nat.mod_eq_of_lt hj]
 unfold bQ;rw [List.range_succ, List.map_append];simp [h1, h2]
theorem vJ {r c i j : Nat} (f : Nat -> Nat -> Int) (hi : i < r) (hj : j < c) : (bQ c f (r * c)).getD (i * c + j) 0 = f i j := by
 have h1 : (i * c + j) / c = i := by rw [Nat.mul_comm, Nat.mul_add_div (by omega), Nat.div_eq_of_lt hj]; rfl
 have h2 : (i * c + j) % c = j := by rw [Nat.mul_comm, Nat.mul_add_mod, Nat.mod_eq_of_lt hj]
 have h3 : (i + 1) * c <= r * c := Nat.mul_le_mul_right _ hi;have h4 : (i + 1) * c = i * c + c := Nat.succ_mul i c;unfold bQ;rw [List.getD_eq_getElem?_getD, List.getElem?_map, List.getElem?_range (by omega)];simp [h1, h2]
end Go.Proofs.YtjjlmfmoihooiaaGreat
namespace Go.Proofs.YtjjlmfmoihooiaaGreat
open Go.RowKit
theorem A5 {P : Program} {Q : Exit -> Act -> World -> Prop} {ds : List Deferred} {S0 : Nat -> Prop} {w0 : World} {n b N : Nat} {ls : List (Nat × Value)} {es : List En} {c : Code} (k : fg ds P n S0 w0 c Q ls (.ly (some ⟨b, 0, none⟩) 0 N [] :: es)) : fg ds P n S0 w0 c Q ls (.row b 37 (rn (List.replicate N p0) []) :: es) := fun a w ha hw =>
 k a w ha (hw.conv (fun hr => ⟨rfl, Nat.zero_le _, .inr ⟨b, rn (List.replicate N p0) [], rfl, aK.rn aK.nil, hr, by show (rn (List.replicate N p0) []).length = _; rw [rn, List.append_nil, bw]; simp; omega⟩⟩) (fun g ⟨o, e⟩ => by cases e; rfl) (fun _ => rfl))
structure B1X where
 i : Nat
 K : Nat
 ao : Option Addr
 cap : Nat
 ps : List P4
structure B1I (r c : Nat) (z : B1X) : Prop where
 hi : z.i <= r
 hK : z.i * c = z.K
structure B2X where
 j : Nat
 K : Nat
 ao : Option Addr
 cap : Nat
 ps : List P4
structure B2I (c i : Nat) (z : B2X) : Prop where
 hj : z.j <= c
 hK : i * c + z.j = z.K
theorem xh (F : FuncId) (hF : ∀ (args : Array Value) (w : World), (callFunc F args).run Tryz.prog w = .ok (.enter F args) w) (r c g : Nat) (f : Nat -> Nat -> Int) (w : World) (hr : r <= 64) (hc : c <= 64)
 (hf : ∀ (i j : Nat) (w' : World), i < r -> j < c -> Below w.heap.size w w' -> Calls Tryz.prog F #[.int .i64 (i : Int), .int .i64 (j : Int), .pointer (some ⟨g, 0, none⟩)] w' fun e w'' => (∃ v, e = .returned v /\ ai w'' w'.heap.size v (f i j)) /\ Below w'.heap.size w' w'') :
 Calls Tryz.prog 56 #[.int .i64 (r : Int), .int .i64 (c : Int), .func (.func F) #[] #[.pointer (some ⟨g, 0, none⟩)]] w fun e w' => (∃ ao cap, e = .returned (.agg #[.int .i64 (r : Int), .int .i64 (c : Int), .slice ao (r * c) cap]) /\ oz w' ao (bQ c f (r * c)) /\ r * c <= cap /\ ∀ b o, ao = some ⟨b, o, none⟩ -> w.heap.size <= b) /\ Below w.heap.size w w' := by
 have hnc : r * c <= 4096 := Nat.mul_le_mul hr hc;have hms : r * c < 9223372036854775808 := by omega
 refine ct (S0 := fun _ => False) Tryz.func56 (Fr.nil _ w) ?_;refine ah ?_;refine rW [] ?_;refine aW fun g6 => ?_;refine eW ?_;refine ah ?_;refine rW [] ?_;(iterate 4 refine dW ?_);refine dE (qW (a := r) (b := c) hms) ?_;obtain ⟨N, hN⟩ : ∃ N, r * c = N := ⟨_, rfl⟩;rw [hN] at hnc |-;have HN : Hid (r * c = N) := H5 hN;clear hms hN;refine mN 0 N rfl rfl (Nat.zero_le _) (by omega) fun b => ?_;refine dW ?_;refine aW fun g7 => ?_;refine sG ?_;refine eW ?_;refine dY (es' := [.row b 37 (rn (List.replicate N p0) []), .row g7 24 [.int .i64 (r : Int), .int .i64 (c : Int), .slice (some ⟨b, 0, none⟩) 0 N], .row g6 24 [.int .i64 0, .int .i64 0, .slice none 0 0]]) ?_;refine A5 ?_;refine nY (e := .ns [] (bQ c f 0)) (fun w' _ => bX.nil w') ?_;refine dY (es' := [.row g7 24 [.int .i64 (r : Int), .int .i64 (c : Int), .slice (some ⟨b, 0, none⟩) 0 N], .row g6 24 [.int .i64 0, .int .i64 0, .slice none 0 0], .ly (some ⟨b, 0, none⟩) 0 N [], .ns [] (bQ c f 0)]) ?_;refine ah ?_;refine rW [] ?_;refine dW ?_;refine dW ?_;refine eW ?_;refine ah ?_;refine cF (X := B1X) (B1I r c) (fun z => r - z.i) (fun z => [(18, .int .i64 (z.i : Int)), (17, .int .i64 (r : Int)), (1, .int .i64 (c : Int)), (2, .func (.func F) #[] #[.pointer (some ⟨g, 0, none⟩)]), (7, .pointer (some ⟨g7, 0, none⟩)), (6, .pointer (some ⟨g6, 0, none⟩))])
  (fun z => [.row g7 24 [.int .i64 (r : Int), .int .i64 (c : Int), .slice z.ao z.K z.cap], .row g6 24 [.int .i64 0, .int .i64 0, .slice none 0 0], .ly z.ao z.K z.cap z.ps, .ns z.ps (bQ c f z.K)]) ⟨0, 0, some ⟨b, 0, none⟩, N, []⟩ ⟨Nat.zero_le _, Nat.zero_mul _⟩ fun z hz => ?_
 obtain ⟨i, K, ao, cap, ps⟩ := z;obtain ⟨hi, hK⟩ := hz
 replace hi : i <= r := hi
 replace hK : i * c = K := hK
 by_cases h : i < r
 . have h01 : (i : Int) < (r : Int) := by omega
   have HK : Hid (i * c + 0 = K) := H5 hK;clear hK;refine ah ?_;refine rW [] ?_;refine dB true ?_;refine eW ?_;refine ah ?_;refine fv ?_;refine ah ?_;refine rW [] ?_;refine dW ?_;refine dW ?_;refine eW ?_;refine ah ?_;refine rW [] ?_;refine dW ?_;refine dW ?_;refine eW ?_;refine ah ?_;refine cF (X := B2X) (B2I c i) (fun z => c - z.j) (fun z => [(22, .int .i64 (z.j : Int)), (21, .int .i64 (c : Int)), (8, .int .i64 (i : Int)), (18, .int .i64 (i : Int)), (17, .int .i64 (r : Int)), (1, .int .i64 (c : Int)), (2, .func (.func F) #[] #[.pointer (some ⟨g, 0, none⟩)]), (7, .pointer (some ⟨g7, 0, none⟩)), (6, .pointer (some ⟨g6, 0, none⟩))])
    (fun z => [.row g7 24 [.int .i64 (r : Int), .int .i64 (c : Int), .slice z.ao z.K z.cap], .row g6 24 [.int .i64 0, .int .i64 0, .slice none 0 0], .ly z.ao z.K z.cap z.ps, .ns z.ps (bQ c f z.K)]) ⟨0, K, ao, cap, ps⟩ ⟨Nat.zero_le _, HK.out⟩ fun z hz => ?_
   clear HK;obtain ⟨j, K, ao, cap, ps⟩ := z;obtain ⟨hj, hK⟩ := hz
   replace hj : j <= c := hj
   replace hK : i * c + j = K := hK
   by_cases h' : j < c
   . have h02 : (j : Int) < (c : Int) := by omega
     have hlt := yS h h';have ht := oC (i := i) f h';have hKN : K <= 100000000 := by have := HN.out; omega
     rw [hK] at ht;have HT : Hid (bQ c f (K + 1) = bQ c f K ++ [f i j] /\ i * c + j = K) := H5 ⟨ht, hK⟩;clear ht hK hlt;refine ah ?_;refine rW [] ?_;refine dB true ?_;refine eW ?_;refine ah ?_;refine fv ?_;refine ah ?_;refine rW [] ?_;refine dW ?_;refine dW ?_;refine eW ?_;refine ah ?_;refine rW [] ?_;(iterate 5 refine dW ?_);refine cN (fun w' H => hf i j w' h h' H.below) fun q => ?_;refine bW (m := 1) fun g31 => ?_;refine jR (e := .ns (ps ++ [q]) (bQ c f (K + 1))) (fun w' H => by rw [HT.out.1]; exact bX.snoc H.m5 H.m1.num) ?_;refine Bw (g := g31) (t := 37) (c := 1) (ao := ao) (k := K) (cap := cap) (ps := ps) q hKN (by simp) fun z => ?_;refine dW ?_;refine sW ?_;refine eW ?_;refine ah ?_;refine rW [] ?_;refine dE (dI (a := j) (by omega)) ?_;refine dW ?_;refine eW ?_;refine ah ?_;exact cd (⟨j + 1, K + 1, z.1, z.2, ps ++ [q]⟩ : B2X) ⟨⟨h', by show i * c + (j + 1) = K + 1; have := HT.out.2; omega⟩, by show c - (j + 1) < c - j; omega⟩
   . obtain rfl : j = c := by omega
     have HK : Hid ((i + 1) * j = K) := H5 (by rw [Nat.succ_mul]; exact hK);clear hK;refine ah ?_;refine rW [] ?_;refine dB false ?_;refine eW ?_;refine ah ?_;refine dR ?_;refine ah ?_;refine rW [] ?_;refine dE (dI (a := i) (by omega)) ?_;refine dW ?_;refine eW ?_;refine ah ?_;exact cd (⟨i + 1, K, ao, cap, ps⟩ : B1X) ⟨⟨h, HK.out⟩, by show r - (i + 1) < r - i; omega⟩
 . obtain rfl : i = r := by omega
   obtain rfl : K = N := by rw [<- hK]; exact HN.out
   clear hK;refine ah ?_;refine rW [] ?_;refine dB false ?_;refine eW ?_;refine ah ?_;refine dR ?_;refine ah ?_;refine rW [] ?_;refine dW ?_;refine sW ?_;refine eW ?_;refine ah ?_;refine fA fun w' H => ?_;exact ⟨_, vD H.m1, ⟨ao, cap, rfl, oR H.m2 H.m3, (show tw ao K cap ps w' from H.m2).2.1, fun b o e => (H.own (.ly ao K cap ps) (by simp) rfl b ⟨o, e⟩).elim (fun h => h.elim) id⟩, H.below⟩
theorem pj {A : Prop} {P : Program} {Q : Exit -> Act -> World -> Prop} {ds : List Deferred} {S0 : Nat -> Prop} {w0 : World} {n : Nat} {ls : List (Nat × Value)} {es : List En} {c : Code} (hm : En.pr A ∈ es) (k : A -> fg ds P n S0 w0 c Q ls es) : fg ds P n S0 w0 c Q ls es := fun a w ha hw => k (hw.all _ hm) a w ha hw
section
variable {P : Program} {ops : Array Oper} {Q : Exit -> Act -> World -> Prop} {ds : List Deferred} {S0 : Nat -> Prop} {w0 : World} {E0 : List En} {hd : List (List Nat)} {n j s : Nat} {l : List Nat} {G E : List En} {ls : List (Nat × Value)} {op : Op} {ty : TypeId} {pos : String} {af : Array Edge} {v : Value} {f : FuncId} {args : Array Value}
theorem fW (k : dv ds ⟨P, ops, Q, S0, w0, E0, hd⟩ n l G E ((s, v) :: ls))
 (ho : ops[j]? = some ⟨some s, op, ty, pos, af, none⟩ := by rfl) (hk : (!bI op && !cX op && dL ls op && Nat.blt s n) = true := by kernel_rfl)
 (hr : ∀ w, (execOp (cT ls) ⟨some s, op, ty, pos, af, none⟩).run P w = .ok (.value v) w := by intro w; (try simp only [av]); go_simp <;> with_reducible rfl)
 (hst : fs ops hd j [] = true := by kernel_rfl) : dv ds ⟨P, ops, Q, S0, w0, E0, hd⟩ n (j :: l) G E ls := fun a ha => by
 simp only [Bool.and_eq_true, Bool.not_eq_true'] at hk;refine ⟨_, ho, .inr (.inr ⟨hk.1.1.1, hk.1.1.2, Unit, fun _ => v, fun _ => G, fun _ => E, [], ⟨()⟩, fun X w hX hw => ?_, hst, fun _ _ _ => rfl, fun _ => k _ (ha.put (Nat.le_of_ble_eq_true hk.2) _)⟩)⟩;refine yj rfl ?_;show mK P _ ((execOp a.eval _).run P w);rw [ha.exec hk.1.2, hr w];exact ⟨(), rfl, hw⟩
theorem Ae {α : Type} {mk : α -> Value} {ao : α -> Option Addr} {xs : α -> List Int} {A : α -> Prop} (c : ∀ w, Fr S0 w0 w (G ++ E) -> Calls P f args w fun e w' => (∃ p, e = .returned (mk p) /\ oz w' (ao p) (xs p) /\ A p /\ ∀ b o, ao p = some ⟨b, o, none⟩ -> w.heap.size <= b) /\ Below w.heap.size w w')
 (k : ∀ p, dv ds ⟨P, ops, Q, S0, w0, E0, hd⟩ n l (.uu (ao p) (xs p) :: .pr (A p /\ ∀ b o, ao p = some ⟨b, o, none⟩ -> w0.heap.size <= b) :: G) E ((s, mk p) :: ls))
 (ho : ops[j]? = some ⟨some s, op, ty, pos, af, none⟩ := by rfl) (hk : (!bI op && !cX op && dL ls op && Nat.blt s n) = true := by kernel_rfl)
 (hr : ∀ w, (execOp (cT ls) ⟨some s, op, ty, pos, af, none⟩).run P w = .ok (.enter f args) w := by intro w; (try simp only [av]); go_simp <;> with_reducible rfl) (hne : Nonempty α := by infer_instance)
 (hst : fs ops hd j [] = true := by kernel_rfl) : dv ds ⟨P, ops, Q, S0, w0, E0, hd⟩ n (j :: l) G E ls := by
 refine cG (mk := mk) (ens := fun p => [.uu (ao p) (xs p), .pr (A p /\ ∀ b o, ao p = some ⟨b, o, none⟩ -> w0.heap.size <= b)]) (fun w hw => (c w hw).mono ?_) k ho hk hr hne hst;rintro e w' ⟨⟨p, rfl, hl, hA, hS⟩, hb⟩;exact ⟨p, rfl, hb, fun e he => by
  rcases List.mem_cons.1 he with rfl | he
  . exact ⟨hl, fun b ⟨_, o, e⟩ => hS b o e⟩
  . rcases List.mem_singleton.1 he with rfl;exact ⟨⟨hA, fun b o e => Nat.le_trans hw.size (hS b o e)⟩, fun _ h => h.elim⟩, List.pairwise_pair.2 ⟨(fun h => nomatch h), (fun h => nomatch h)⟩⟩
end
theorem kO (b : Nat) : ∀ (us : List Value) (k : Nat) (w : World), w.setCells b k us = qh w b k us
 | [], _, _ => rfl
 | _ :: us, k, _ => kO b us (k + 1) _
theorem lR : ∀ (us : List Value) (k : Nat) (cs : List Value), (ix cs k us).length = cs.length
 | [], _, _ => rfl
 | u :: us, k, cs => by rw [ix, lR us, List.length_set]
section
variable {ops : Array Oper} {Q : Exit -> Act -> World -> Prop} {ds : List Deferred} {S0 : Nat -> Prop} {w0 : World} {E0 : List En} {hd : List (List Nat)} {n j s : Nat} {l : List Nat} {G E : List En} {ls : List (Nat × Value)} {ty : TypeId} {pos : String} {af : Array Edge}
end
section
variable {ops : Array Oper} {Q : Exit -> Act -> World -> Prop} {ds : List Deferred} {S0 : Nat -> Prop} {w0 : World} {E0 : List En} {hd : List (List Nat)} {n j s : Nat} {l : List Nat} {G E : List En} {ls : List (Nat × Value)} {ty : TypeId} {pos : String} {af : Array Edge}
end
theorem vY (F : FuncId) (hF : ∀ (args : Array Value) (w : World), (callFunc F args).run Tryz.prog w = .ok (.enter F args) w) (lb : Array Value) (r c : Nat) (f : Nat -> Nat -> Int) (w : World) (hr : r <= 64) (hc : c <= 64)
 (hf : ∀ (i j : Nat) (w' : World), i < r -> j < c -> Below w.heap.size w w' -> Calls Tryz.prog F (#[.int .i64 (i : Int), .int .i64 (j : Int)] ++ lb) w' fun e w'' => (∃ v, e = .returned v /\ ai w'' w'.heap.size v (f i j)) /\ Below w'.heap.size w' w'') :
 Calls Tryz.prog 56 #[.int .i64 (r : Int), .int .i64 (c : Int), .func (.func F) #[] lb] w fun e w' => (∃ ao cap, e = .returned (.agg #[.int .i64 (r : Int), .int .i64 (c : Int), .slice ao (r * c) cap]) /\ oz w' ao (bQ c f (r * c)) /\ r * c <= cap /\ ∀ b o, ao = some ⟨b, o, none⟩ -> w.heap.size <= b) /\ Below w.heap.size w w' := by
 have hnc : r * c <= 4096 := Nat.mul_le_mul hr hc;have hms : r * c < 9223372036854775808 := by omega
 refine ct (S0 := fun _ => False) Tryz.func56 (Fr.nil _ w) ?_;refine ah ?_;refine rW [] ?_;refine aW fun g6 => ?_;refine eW ?_;refine ah ?_;refine rW [] ?_;(iterate 4 refine dW ?_);refine dE (qW (a := r) (b := c) hms) ?_;obtain ⟨N, hN⟩ : ∃ N, r * c = N := ⟨_, rfl⟩;rw [hN] at hnc |-;have HN : Hid (r * c = N) := H5 hN;clear hms hN;refine mN 0 N rfl rfl (Nat.zero_le _) (by omega) fun b => ?_;refine dW ?_;refine aW fun g7 => ?_;refine sG ?_;refine eW ?_;refine dY (es' := [.row b 37 (rn (List.replicate N p0) []), .row g7 24 [.int .i64 (r : Int), .int .i64 (c : Int), .slice (some ⟨b, 0, none⟩) 0 N], .row g6 24 [.int .i64 0, .int .i64 0, .slice none 0 0]]) ?_;refine A5 ?_;refine nY (e := .ns [] (bQ c f 0)) (fun w' _ => bX.nil w') ?_;refine dY (es' := [.row g7 24 [.int .i64 (r : Int), .int .i64 (c : Int), .slice (some ⟨b, 0, none⟩) 0 N], .row g6 24 [.int .i64 0, .int .i64 0, .slice none 0 0], .ly (some ⟨b, 0, none⟩) 0 N [], .ns [] (bQ c f 0)]) ?_;refine ah ?_;refine rW [] ?_;refine dW ?_;refine dW ?_;refine eW ?_;refine ah ?_;refine cF (X := B1X) (B1I r c) (fun z => r - z.i) (fun z => [(18, .int .i64 (z.i : Int)), (17, .int .i64 (r : Int)), (1, .int .i64 (c : Int)), (2, .func (.func F) #[] lb), (7, .pointer (some ⟨g7, 0, none⟩)), (6, .pointer (some ⟨g6, 0, none⟩))])
  (fun z => [.row g7 24 [.int .i64 (r : Int), .int .i64 (c : Int), .slice z.ao z.K z.cap], .row g6 24 [.int .i64 0, .int .i64 0, .slice none 0 0], .ly z.ao z.K z.cap z.ps, .ns z.ps (bQ c f z.K)]) ⟨0, 0, some ⟨b, 0, none⟩, N, []⟩ ⟨Nat.zero_le _, Nat.zero_mul _⟩ fun z hz => ?_
 obtain ⟨i, K, ao, cap, ps⟩ := z;obtain ⟨hi, hK⟩ := hz
 replace hi : i <= r := hi
 replace hK : i * c = K := hK
 by_cases h : i < r
 . have h01 : (i : Int) < (r : Int) := by omega
   have HK : Hid (i * c + 0 = K) := H5 hK;clear hK;refine ah ?_;refine rW [] ?_;refine dB true ?_;refine eW ?_;refine ah ?_;refine fv ?_;refine ah ?_;refine rW [] ?_;refine dW ?_;refine dW ?_;refine eW ?_;refine ah ?_;refine rW [] ?_;refine dW ?_;refine dW ?_;refine eW ?_;refine ah ?_;refine cF (X := B2X) (B2I c i) (fun z => c - z.j) (fun z => [(22, .int .i64 (z.j : Int)), (21, .int .i64 (c : Int)), (8, .int .i64 (i : Int)), (18, .int .i64 (i : Int)), (17, .int .i64 (r : Int)), (1, .int .i64 (c : Int)), (2, .func (.func F) #[] lb), (7, .pointer (some ⟨g7, 0, none⟩)), (6, .pointer (some ⟨g6, 0, none⟩))])
    (fun z => [.row g7 24 [.int .i64 (r : Int), .int .i64 (c : Int), .slice z.ao z.K z.cap], .row g6 24 [.int .i64 0, .int .i64 0, .slice none 0 0], .ly z.ao z.K z.cap z.ps, .ns z.ps (bQ c f z.K)]) ⟨0, K, ao, cap, ps⟩ ⟨Nat.zero_le _, HK.out⟩ fun z hz => ?_
   clear HK;obtain ⟨j, K, ao, cap, ps⟩ := z;obtain ⟨hj, hK⟩ := hz
   replace hj : j <= c := hj
   replace hK : i * c + j = K := hK
   by_cases h' : j < c
   . have h02 : (j : Int) < (c : Int) := by omega
     have hlt := yS h h';have ht := oC (i := i) f h';have hKN : K <= 100000000 := by have := HN.out; omega
     rw [hK] at ht;have HT : Hid (bQ c f (K + 1) = bQ c f K ++ [f i j] /\ i * c + j = K) := H5 ⟨ht, hK⟩;clear ht hK hlt;refine ah ?_;refine rW [] ?_;refine dB true ?_;refine eW ?_;refine ah ?_;refine fv ?_;refine ah ?_;refine rW [] ?_;refine dW ?_;refine dW ?_;refine eW ?_;refine ah ?_;refine rW [] ?_;(iterate 5 refine dW ?_);refine cN (fun w' H => hf i j w' h h' H.below) fun q => ?_;refine bW (m := 1) fun g31 => ?_;refine jR (e := .ns (ps ++ [q]) (bQ c f (K + 1))) (fun w' H => by rw [HT.out.1]; exact bX.snoc H.m5 H.m1.num) ?_;refine Bw (g := g31) (t := 37) (c := 1) (ao := ao) (k := K) (cap := cap) (ps := ps) q hKN (by simp) fun z => ?_;refine dW ?_;refine sW ?_;refine eW ?_;refine ah ?_;refine rW [] ?_;refine dE (dI (a := j) (by omega)) ?_;refine dW ?_;refine eW ?_;refine ah ?_;exact cd (⟨j + 1, K + 1, z.1, z.2, ps ++ [q]⟩ : B2X) ⟨⟨h', by show i * c + (j + 1) = K + 1; have := HT.out.2; omega⟩, by show c - (j + 1) < c - j; omega⟩
   . obtain rfl : j = c := by omega
     have HK : Hid ((i + 1) * j = K) := H5 (by rw [Nat.succ_mul]; exact hK);clear hK;refine ah ?_;refine rW [] ?_;refine dB false ?_;refine eW ?_;refine ah ?_;refine dR ?_;refine ah ?_;refine rW [] ?_;refine dE (dI (a := i) (by omega)) ?_;refine dW ?_;refine eW ?_;refine ah ?_;exact cd (⟨i + 1, K, ao, cap, ps⟩ : B1X) ⟨⟨h, HK.out⟩, by show r - (i + 1) < r - i; omega⟩
 . obtain rfl : i = r := by omega
   obtain rfl : K = N := by rw [<- hK]; exact HN.out
   clear hK;refine ah ?_;refine rW [] ?_;refine dB false ?_;refine eW ?_;refine ah ?_;refine dR ?_;refine ah ?_;refine rW [] ?_;refine dW ?_;refine sW ?_;refine eW ?_;refine ah ?_;refine fA fun w' H => ?_;exact ⟨_, vD H.m1, ⟨ao, cap, rfl, oR H.m2 H.m3, (show tw ao K cap ps w' from H.m2).2.1, fun b o e => (H.own (.ly ao K cap ps) (by simp) rfl b ⟨o, e⟩).elim (fun h => h.elim) id⟩, H.below⟩
abbrev vV (l : Nat) : Fence := Fence.wide.inRound l
theorem vf {P : Program} {f : FuncId} {args : Array Value} {w : World} {R : Ending -> World -> Prop} (l n : Nat) (h : Calls P f args w R) : CallsIn (vV l) n P f args w R := ((callsIn_wide (n := n)).2 h).inRound l
theorem x8 {P : Program} {row : String} {args : Array Value} {w : World} {R : Value -> World -> Prop} (l n : Nat) (h : Rows P row args w R) : RowsIn (vV l) n P row args w R := fun c cs _ => by
 obtain ⟨v, w', r, s⟩ := h c cs;exact ⟨v, w', r, stepsIn_wide.2 s⟩
def Ag (q : Act -> World -> Prop) : Exit -> Act -> World -> Prop
 | .normal, a, w => q a w
 | _, _, _ => False
theorem ug {q : Act -> World -> Prop} : ¬ LetsOut (Ag q) := fun ⟨_, _, h⟩ => h
def uM (ops : Array Oper) : Bool := ops.all fun o => match o.op with | .defer _ => false | _ => true
theorem zP {ops : Array Oper} (h : uM ops = true) {i : Nat} {o : Oper} (ho : ops[i]? = some o) : ∀ c, o.op ≠ .defer c := fun c e => by
 unfold uM at h;rw [Array.all_eq_true] at h;obtain ⟨hi, rfl⟩ := Array.getElem?_eq_some_iff.1 ho;have := h i hi;rw [e] at this;cases this
section
variable {P : Program} {ops : Array Oper} {q : Act -> World -> Prop} {Q' : Exit -> Act -> World -> Prop} {l n : Nat}
theorem tQ (hd : uM ops = true) {i : Nat} {K K' : Act -> World -> Prop} {a : Act} {w : World} (hK : ∀ a w, K a w -> K' a w) (h : wpOp P ops (Ag q) i K a w) : wpOpIn (vV l) n P ops Q' i K' a w := by
 unfold wpOp at h;unfold wpOpIn;cases ho : ops[i]? with
 | none => rw [ho] at h; exact hK _ _ h
 | some o =>
  rw [ho] at h;simp only at h |-;by_cases hw : Region.wanted o (yielded ops a.tmps) = true
  . rw [if_pos hw] at h |-;have h := h.resolve_right fun q => ug q.2;unfold Oper.wp at h;refine ⟨fun _ _ => trivial, ?_⟩;rw [Oper.semAt_eq _ _ _ (zP hd ho)];generalize (execOp a.eval o).run P w = r at *;cases r with
    | halt x w' => cases x <;> exact h.elim
    | ok nx w' =>
     cases nx with
     | value v => exact hK _ _ h
     | skip => exact hK _ _ h
     | defer d => exact hK _ _ h
     | enter f args =>
      refine ⟨fun h => by simp [vV, Fence.inRound, Fence.wide] at h, vf l (n - 1) (Calls.mono h fun e w'' he => ?_)⟩;cases e with
      | returned v => exact hK _ _ he
      | panicked c => exact he.elim
      | outgrown => exact (ug he).elim
     | row row args => exact ⟨fun h => by simp [vV, Fence.inRound, Fence.wide] at h, x8 l (n - 1) (Rows.mono h fun v w'' he => hK _ _ he)⟩
     | _ => exact h.elim
  . rw [if_neg hw] at h |-;exact ⟨fun _ _ => trivial, hK _ _ h⟩
theorem qq (hd : uM ops = true) (hq : ∀ a w, q a w -> Q' .normal a w) {md : Region.Mode} : ∀ (fuel : Nat) (ls : Array Bool) (a : Act) (w : World), wpAny P md ops (Ag q) fuel ls a w -> wpAnyIn (vV l) n P md ops Q' fuel ls a w
 | 0, _, _, _, h => ⟨h.1, hq _ _ h.2⟩
 | fuel + 1, ls, a, w, h => ⟨fun hr => hq _ _ (h.1 hr), fun i hi => tQ hd (fun a w k => qq hd hq fuel _ a w k) (h.2 i hi)⟩
theorem rz (hd : uM ops = true) (hq : ∀ a w, q a w -> Q' .normal a w) : ∀ (l' : List Nat) (a : Act) (w : World), wpOps P ops (Ag q) l' a w -> wpOpsIn (vV l) n P ops Q' l' a w
 | [], _, _, h => hq _ _ h
 | i :: l', a, w, h => by
  rw [wpOps_cons] at h;rw [wpOpsIn_cons];exact tQ hd (fun a w k => rz hd hq l' a w k) h
end
def CI (l N : Nat) (P : Program) (n : Nat) (S0 : Nat -> Prop) (w0 : World) (c : Code) (Q : Exit -> Act -> World -> Prop) (ls : List (Nat × Value)) (es : List En) : Prop := ∀ a w, Sl n ls a -> Fr S0 w0 w es -> c.wpIn (vV l) N P Q a w
section
variable {P : Program} {ops : Array Oper} {Q Qx : Exit -> Act -> World -> Prop} {S0 : Nat -> Prop} {w0 : World} {n l N : Nat} {ls : List (Nat × Value)} {es : List En}
theorem rI {id m : Nat} {d : Bool} (hd : List (List Nat)) (k : RWs ⟨P, ops, Ag (Q .normal), S0, w0, es, hd⟩ n (sH m 0) [] es ls) (hm : P.follows .mixedOrders = true := by kernel_rfl) (hn : ops.size = m := by rfl) (hok : (km ops m && uM ops) = true := by kernel_rfl) : CI l N P n S0 w0 (.region id ops d) Q ls es := fun a w ha hw => by
 simp only [Bool.and_eq_true] at hok;cases d with
 | true => exact wpIn_region_any hm (qq hok.2 (fun _ _ h => h) _ _ _ _ (rgA1 ⟨P, ops, Ag (Q .normal), S0, w0, es, hd⟩ hn hok.1 hw (k a ha)))
 | false => exact wpIn_region (rz hok.2 (fun _ _ h => h) _ _ _ (rgB1 ⟨P, ops, Ag (Q .normal), S0, w0, es, hd⟩ hn hok.1 hw (k a ha)))
theorem nrmI {D : List En} (k : QW n S0 w0 Q .normal ls D) : QW n S0 w0 (Ag (Q .normal)) .normal ls D := k
theorem seqI {x y : Code} (k : CI l N P n S0 w0 x (Exit.then (y.wpIn (vV l) N P Q) Q) ls es) : CI l N P n S0 w0 (.seq x y) Q ls es := fun a w ha hw => wpIn_seq (k a w ha hw)
theorem Bv {id : Nat} {c : Code} (k : CI l N P n S0 w0 c (Exit.inBlock id Q) ls es) : CI l N P n S0 w0 (.block id c) Q ls es := fun a w ha hw => wpIn_block (k a w ha hw)
theorem nextI {y : Code} (k : CI l N P n S0 w0 y Q ls es) : QW n S0 w0 (Exit.then (y.wpIn (vV l) N P Q) Qx) .normal ls es := k
theorem yl {Z R : Prop} (k : R) (h : R -> Z := by
 intro k;repeat (first | refine nrmI ?_ | refine seqI ?_ | refine skipI ?_ | refine nextI ?_ | refine Bv ?_ | refine exitI ?_ | refine A2 ?_ | refine inbN ?_ | refine inbE ?_ | refine inbX (by decide) ?_)
 exact k) : Z := h k
end
theorem v8 {w : World} {l : Nat} {o o' : Obj} (hl : w.heap[l]? = some o) (hn : o.isCells = false) {p : Addr} {v : Value} (h : w.cell? p = some v) : (w.putObj l o').cell? p = some v := by
 by_cases e : p.block = l
 . exfalso;unfold World.cell? at h;rw [e, hl] at h;cases o <;> simp_all [Obj.isCells]
 . exact (World.cell?_of_block (World.putObj_heap_other e)).trans h
theorem qN {w : World} {l : Nat} {o o' x : Obj} (hl : w.heap[l]? = some o) (hn : o.isCells = false) {b : Nat} (h : w.heap[b]? = some x) (hx : x.isCells = true) : (w.putObj l o').heap[b]? = some x := by
 by_cases e : b = l
 . subst e; rw [hl] at h; cases h; rw [hn] at hx; cases hx
 . rw [World.putObj_heap_other e]; exact h
theorem im {w : World} {l : Nat} {o o' : Obj} (hl : w.heap[l]? = some o) (hn : o.isCells = false) {b : Nat} {t : TypeId} {cs : List Value} (h : aa w b t cs) : aa (w.putObj l o') b t cs := qN hl hn h rfl
theorem xt {w : World} {l : Nat} {o o' : Obj} (hl : w.heap[l]? = some o) (hn : o.isCells = false) {ao : Option Addr} {ws : List Nat} (h : cI w ao ws) : cI (w.putObj l o') ao ws := by
 refine ⟨h.1, fun hp => ?_⟩;obtain ⟨b, q, e, hb, hc⟩ := h.2 hp;exact ⟨b, q, e, by rw [show (w.putObj l o').heap.size = w.heap.size by simp]; exact hb, fun i hi => v8 hl hn (hc i hi)⟩
theorem xf {w : World} {l : Nat} {o o' : Obj} (hl : w.heap[l]? = some o) (hn : o.isCells = false) {L : Nat} {v : Value} {x : Int} (h : aj w L v x) : aj (w.putObj l o') L v x := by
 obtain ⟨n, ao, len, cap, ws, e, hW, r⟩ := h;exact ⟨n, ao, len, cap, ws, e, xt hl hn hW, r⟩
theorem kq {w : World} {l : Nat} {o o' : Obj} (hl : w.heap[l]? = some o) (hn : o.isCells = false) {v : Value} {x : Int} (h : aI w v x) : aI (w.putObj l o') v x := ⟨xf hl hn h.1, h.2⟩
theorem vE {w : World} {l : Nat} {o o' : Obj} (hl : w.heap[l]? = some o) (hn : o.isCells = false) {b : Nat} {xs : List Int} (h : aL w b xs) : aL (w.putObj l o') b xs := by
 obtain ⟨ps, tl, nt, hr, hl', hN⟩ := h;exact ⟨ps, tl, nt, im hl hn hr, hl', fun i h1 h2 => kq hl hn (hN i h1 h2)⟩
def Pz (e : En) : Prop := ∀ (w : World) (l : Nat) (o o' : Obj), w.heap[l]? = some o -> o.isCells = false -> e.F w -> e.F (w.putObj l o')
theorem Pz.row {b : Nat} {t : TypeId} {cs : List Value} : Pz (.row b t cs) := fun _ _ _ _ hl hn h => im hl hn h
theorem Pz.own {B : Nat} {v : Value} {x : Int} : Pz (.own B v x) := fun w l o o' hl hn h => by
 obtain ⟨ao, cap, rfl, h1, h2, h3, h4⟩ := (h : ai w B v x);refine ⟨ao, cap, rfl, h1, h2, h3, h4.imp id ?_⟩;rintro ⟨g, c, cur, hv, hbb, hg, r⟩;exact ⟨g, c, cur, hv, hbb, qN hl hn hg rfl, r⟩
theorem Pz.ns {ps : List P4} {xs : List Int} : Pz (.ns ps xs) := fun _ _ _ _ hl hn h => ⟨h.1, fun i a => kq hl hn (h.2 i a)⟩
theorem Pz.ly {ao : Option Addr} {k cap : Nat} {ps : List P4} : Pz (.ly ao k cap ps) := fun w l o o' hl hn ⟨h1, h2, h⟩ => ⟨h1, h2, h.imp id fun ⟨b, tl, e, hn', hr, hl'⟩ => ⟨b, tl, e, hn', im hl hn hr, hl'⟩⟩
theorem Pz.lg {te : TypeId} {sz : Nat} {ao : Option Addr} {k cap : Nat} {cs : List Value} : Pz (.lg te sz ao k cap cs) := fun w l o o' hl hn ⟨h1, h2, h⟩ => ⟨h1, h2, h.imp id fun ⟨b, tl, e, hn', hr, hl'⟩ => ⟨b, tl, e, hn', im hl hn hr, hl'⟩⟩
theorem Pz.iY {x : Nat} {gs : List Nat} {E : List (List Int)} : Pz (.iY x gs E) := fun w l o o' hl hn h t ht hx => by
 obtain ⟨ps, tl, hn', hr, h1, h2⟩ := (h : yZ x gs E w) t ht hx;exact ⟨ps, tl, hn', im hl hn hr, h1, fun i a => kq hl hn (h2 i a)⟩
def Cz (e : En) : Prop := ∀ w : World, e.F w -> e.wr = true -> ∀ b, e.S b -> ∃ t cs, aa w b t cs /\ aK cs
theorem Cz.row {b : Nat} {t : TypeId} {cs : List Value} (hn : aK cs := by repeat (first | exact aK.nil | exact fT _ | apply aK.bool | apply aK.slice | apply aK.i64 | apply aK.ptr | apply aK.append | unfold cl)) : Cz (.row b t cs) := fun w h _ g e => by cases (e : g = b); exact ⟨_, _, h, hn⟩
theorem Cz.no {e : En} (h : e.wr = false) : Cz e := fun _ _ h' => by rw [h] at h'; cases h'
theorem Cz.ly {ao : Option Addr} {k cap : Nat} {ps : List P4} : Cz (.ly ao k cap ps) := fun w ⟨_, _, h⟩ _ g ⟨o, e⟩ => by
 rcases h with ⟨h, _⟩ | ⟨b, tl, h, hn, hr, _⟩
 . rw [e] at h; cases h
 . rw [e] at h; cases h; exact ⟨_, _, hr, aK.rn hn⟩
theorem Cz.lg {te : TypeId} {sz : Nat} {ao : Option Addr} {k cap : Nat} {cs : List Value} (hc : aK cs) : Cz (.lg te sz ao k cap cs) := fun w ⟨_, _, h⟩ _ g ⟨o, e⟩ => by
 rcases h with ⟨h, _⟩ | ⟨b, tl, h, hn, hr, _⟩
 . rw [e] at h; cases h
 . rw [e] at h; cases h; exact ⟨_, _, hr, hc.append hn⟩
theorem Cz.iY {x : Nat} {gs : List Nat} {E : List (List Int)} : Cz (.iY x gs E) := fun w h _ g ⟨t, ht, hx, e⟩ => by
 obtain ⟨ps, tl, hn, hr, _⟩ := (h : yZ x gs E w) t ht hx;rw [e]; exact ⟨_, _, hr, aK.rn hn⟩
def Rz (es : List En) : Prop := ∀ e ∈ es, Pz e /\ Cz e
theorem Rz.nil : Rz [] := fun _ h => (List.not_mem_nil h).elim
theorem Rz.cons {e : En} {es : List En} (h1 : Pz e) (h2 : Cz e) (h : Rz es) : Rz (e :: es) := fun x hx => (List.mem_cons.1 hx).elim (fun q => q ▸ ⟨h1, h2⟩) (h x)
theorem Fr.vG {S0 : Nat -> Prop} {w0 w : World} {es : List En} (h : Fr S0 w0 w es) (hz : Rz es) {l : Nat} {o : Obj} (o' : Obj) (hl : w.heap[l]? = some o) (hn : o.isCells = false) (h0 : w0.heap.size <= l) : Fr S0 w0 (w.putObj l o') es :=
 ⟨⟨h.bs.os, h.bs.tape, h.bs.output, by have := h.bs.size; simpa using this, fun k hk hs => (World.putObj_heap_other (by omega)).trans (h.bs.block k hk hs)⟩, fun e he => (hz e he).1 w l o o' hl hn (h.all e he), h.sep, h.own⟩
theorem Fr.comp {S0 S : Nat -> Prop} {w0 w W : World} {es es' : List En} (h : Fr S0 w0 w es) (h' : Fr S w W es') (hs : ∀ b, S b -> S0 b \/ w0.heap.size <= b) : Fr S0 w0 W es' :=
 ⟨⟨h'.bs.os.trans h.bs.os, h'.bs.tape.trans h.bs.tape, h'.bs.output.trans h.bs.output, Nat.le_trans h.size h'.size, fun k hk hn => (h'.bs.block k (Nat.lt_of_lt_of_le hk h.size) (fun q => (hs k q).elim hn (by omega))).trans (h.bs.block k hk hn)⟩, h'.all, h'.sep, fun e he hw b hb => (h'.own e he hw b hb).elim (hs b) (fun q => .inr (Nat.le_trans h.size q))⟩
def ss (es : List En) (b : Nat) : Prop := ∃ e ∈ es, e.wr = true /\ e.S b
theorem Fr.self {S0 : Nat -> Prop} {w0 w : World} {es : List En} (h : Fr S0 w0 w es) : Fr (ss es) w w es := ⟨aO.refl _ _, h.all, h.sep, fun e he hw b hb => .inl ⟨e, he, hw, hb⟩⟩
theorem Fr.ss {S0 : Nat -> Prop} {w0 w : World} {es : List En} (h : Fr S0 w0 w es) : ∀ b, Go.Proofs.YtjjlmfmoihooiaaGreat.ss es b -> S0 b \/ w0.heap.size <= b := fun b ⟨e, he, hw, hb⟩ => h.own e he hw b hb
theorem B8 {S : Nat -> Prop} {w w' : World} (h : aO S w w') (hS : ∀ b, S b -> ∃ o, w.heap[b]? = some o /\ o.isCells = true) : KeepsOthers w w' := ⟨h.size, fun k o hk hn => by
 have hlt := (Array.getElem?_eq_some_iff.1 hk).1;rw [h.block k hlt (fun q => by
  obtain ⟨x, hx, hc⟩ := hS k q;rw [hk] at hx; cases hx; rw [hn] at hc; cases hc)]
 exact hk⟩
theorem xm {S S' : Nat -> Prop} {w w' : World} {B : Nat} (h : aO S' w w') (hB : B <= w.heap.size) (hS : ∀ b, S' b -> b < B -> S b) : dP B S w w' := ⟨h.os, h.tape, h.output, h.size, fun k hk hn => h.block k (by omega) fun q => hn (hS k q hk)⟩
abbrev mkD (D : Nat) : Deferred := { target := .collected D, args := #[] }
abbrev En.vh (B D : Nat) : En := .fact false false (· = D) (fun w => w.heap[D]? = some (.deferred (some [])) /\ B <= D) (fun h b e => by cases e; exact (Array.getElem?_eq_some_iff.1 h.1).1)
 (fun {w w' T} h hc _ hs => ⟨(hc.block D (Array.getElem?_eq_some_iff.1 h.1).1 (hs D rfl)).trans h.1, h.2⟩)
theorem qC {α : Type} {P : Program} {n : Nat} {g : Operand} {ps : Array Tmp} {assign body : Code} {Q : Exit -> Act -> World -> Prop} {a : Act} {w : World}
 {gf : Nat} {lb : Array Value} (hg : a.eval g = .func (.func gf) #[] lb) (eg : ∀ args w, (callFunc gf args).run P w = .ok (.enter gf args) w)
 {encs : α -> Array Value} (hps : ∀ x, (encs x).size = ps.size) (S : Nat -> Prop) (N : Nat) (Sx : List α -> Prop)
 (E : List α -> α -> World -> Prop) (I : List α -> World -> Prop)
 (hE : ∀ s x W l o o', E s x W -> w.heap.size <= l -> W.heap[l]? = some o -> o.isCells = false -> E s x (W.putObj l o'))
 (hIl : ∀ s W l o o', I s W -> w.heap.size <= l -> W.heap[l]? = some o -> o.isCells = false -> I s (W.putObj l o'))
 (hIb : ∀ s A B, I s A -> Below A.heap.size A B -> I s B) (h0 : I [] w) (A1 : α -> Act -> Prop) (hEb : ∀ s x A B, E s x A -> Below A.heap.size A B -> E s x B)
 (hseq : ∀ (l : Nat) (J : List α -> World -> Prop) (W : World), Below w.heap.size w W -> (∀ s A B, J s A -> Below A.heap.size A B -> J s B) -> (∀ s A, J s A -> I s A) ->
  (∀ pre x W1, J pre W1 -> E pre x W1 -> pre.length < N -> YieldAt Fence.wide (n - 1 - 1) P l (encs x) W1 fun e W' => e = .returned (.bool true) /\ J (pre ++ [x]) W' /\ dP w.heap.size S W1 W') ->
  J [] W -> CallsIn Fence.wide (n - 1) P gf (#[.func (.yield l) #[] #[]] ++ lb) W fun e W' => (∃ v, e = .returned v) /\ ∃ xs, Sx xs /\ J xs W')
 (hassign : ∀ (l : Nat) (pre : List α) (x : α) (W : World) (K : Act -> World -> Prop), E pre x W -> (∀ a1 W1, A1 x a1 -> Below W.heap.size W W1 -> K a1 W1) ->
  assign.wpIn (Fence.wide.inRound l) (n - 1 - 1) P (Exit.then K (fun _ _ _ => False)) { tmps := (ps.zip (encs x)).foldl (fun t (p, v) => t.setIfInBounds p v) a.tmps, defers := [] } W)
 (hbody : ∀ (l : Nat) (pre : List α) (x : α) (W : World) (a1 : Act), A1 x a1 -> I pre W -> E pre x W -> pre.length < N -> body.wpIn (Fence.wide.inRound l) (n - 1 - 1) P (re w.heap.size S I (pre ++ [x]) W) a1 W)
 (hdone : ∀ (D : Nat) (xs : List α) (W : World), w.heap.size <= D -> Sx xs -> I xs W -> W.heap[D]? = some (.deferred (some [])) -> Q .normal { a with defers := { target := .collected D, args := #[] } :: a.defers } W) :
 (Code.rangeFunc g ps assign body).wpIn Fence.wide n P Q a w := by
 refine wpIn_rangeFunc ?_;intro fn hfn;obtain ⟨R, hR⟩ : ∃ R : LoopState -> Option Code -> Loop, R = fun st pe => { state := st, pending := pe, fn, tmps := a.tmps, params := ps, assign, body, defers := w.heap.size } := ⟨_, rfl⟩;have hz0 : (w.alloc (.deferred (some []))).heap.size = w.heap.size + 1 := by simp
 have hbA : Below w.heap.size w (w.alloc (.deferred (some []))) := (Below.refl _ _).alloc (Nat.le_refl _) _;have hbB : Below (w.heap.size + 1) (w.alloc (.deferred (some []))) ((w.alloc (.deferred (some []))).alloc (.loop (R .ready none))) := (Below.refl _ _).alloc (by simp) _;have hl0 : ((w.alloc (.deferred (some []))).alloc (.loop (R .ready none))).heap[w.heap.size + 1]? = some (.loop (R .ready none)) := by
  have := World.alloc_heap_new (w.alloc (.deferred (some []))) (.loop (R .ready none)); rwa [World.size_alloc] at this
 have hd0 : ((w.alloc (.deferred (some []))).alloc (.loop (R .ready none))).heap[w.heap.size]? = some (.deferred (some [])) :=
  (hbB.block _ (by omega)).trans (World.alloc_heap_new w _)
 have hen := run_enterLoop_outer (P := P) (w := w) fn a.tmps ps assign body;have hI1 : I [] ((w.alloc (.deferred (some []))).alloc (.loop (R .ready none))) := hIb _ _ _ (hIb _ _ _ h0 hbA) (by rw [hz0]; exact hbB);have hbw : Below w.heap.size w ((w.alloc (.deferred (some []))).alloc (.loop (R .ready none))) := hbA.trans (hbB.mono (by omega));rw [show ({ state := .ready, pending := none, fn, tmps := a.tmps, params := ps, assign, body, defers := w.heap.size } : Loop) = R .ready none by rw [hR]] at hen;generalize (w.alloc (.deferred (some []))).alloc (.loop (R .ready none)) = W0 at *;refine ⟨w.heap.size + 1, [{ target := .collected w.heap.size, args := #[] }], W0, { target := .fn (.func gf) lb, args := #[.func (.yield (w.heap.size + 1)) #[] #[]] }, W0, gf,
  #[.func (.yield (w.heap.size + 1)) #[] #[]] ++ lb, W0, hen, ?_, fun _ _ => trivial, by simp [invoke, go_sem, eg], fun h => absurd h (by decide), ?_⟩
 . simp only [resolve, hg];simp [go_sem]
 have hlp : ∀ st pe, (Obj.loop (R st pe)).isCells = false := fun _ _ => rfl;refine (hseq (w.heap.size + 1) (fun pre W => I pre W /\ W.heap[w.heap.size + 1]? = some (.loop (R .ready none)) /\ W.heap[w.heap.size]? = some (.deferred (some []))) W0 hbw ?_ (fun _ _ h => h.1) ?_ ⟨hI1, hl0, hd0⟩).mono ?_
 . rintro s A B ⟨h1, h2, h3⟩ hb;exact ⟨hIb _ _ _ h1 hb, (hb.block _ (Array.getElem?_eq_some_iff.1 h2).1).trans h2, (hb.block _ (Array.getElem?_eq_some_iff.1 h3).1).trans h3⟩
 . rintro pre x W ⟨hi, hl, hd⟩ hx hlen;have hlt : w.heap.size + 1 < W.heap.size := (Array.getElem?_eq_some_iff.1 hl).1;have hy := run_yield (P := P) (args := encs x) hl (by rw [hR]; exact hps x);have hle : w.heap.size <= w.heap.size + 1 := by omega
   rw [hR] at hy;refine ⟨fn, _, assign, body, hy, roundIn_of_wpIn hfn (hassign _ pre x W _ hx fun a1 W1 hA1 hB1 => ?_)⟩;have hl := (hB1.block _ (Array.getElem?_eq_some_iff.1 hl).1).trans hl;have hd := (hB1.block _ (Array.getElem?_eq_some_iff.1 hd).1).trans hd;have hi := hIb _ _ _ hi hB1;have hx := hEb _ _ _ _ hx hB1;have hlt : w.heap.size + 1 < W1.heap.size := (Array.getElem?_eq_some_iff.1 hl).1;have hbg := run_beginRound (P := P) hl (by rw [hR]);rw [hR] at hbg;refine ⟨_, hbg, ?_⟩;have hl2 : (W1.putObj (w.heap.size + 1) (.loop (R .busy none))).heap[w.heap.size + 1]? = some (.loop (R .busy none)) := World.putObj_heap_same hlt;have hd2 : (W1.putObj (w.heap.size + 1) (.loop (R .busy none))).heap[w.heap.size]? = some (.deferred (some [])) := (World.putObj_heap_other (by omega)).trans hd;have hk2 : dP w.heap.size S W (W1.putObj (w.heap.size + 1) (.loop (R .busy none))) := (dP.bb (hB1.mono (by omega))).trans (dP.putObj W1 _ hle);have hi2 := hIl pre W1 (w.heap.size + 1) _ (.loop (R .busy none)) hi hle hl rfl;have hx2 := hE pre x W1 (w.heap.size + 1) _ (.loop (R .busy none)) hx hle hl rfl;rw [show ({ state := .busy, pending := none, fn, tmps := a.tmps, params := ps, assign, body, defers := w.heap.size } : Loop) = R .busy none by rw [hR]];generalize W1.putObj (w.heap.size + 1) (.loop (R .busy none)) = W2 at *;refine wpIn_mono (hbody (w.heap.size + 1) pre x W2 a1 hA1 hi2 hx2 hlen) ?_;intro e a3 W3 hp;cases e with
   | normal =>
    obtain ⟨hk3, hkp3, hi3⟩ := hp;have hl3 := hk3.same _ _ hl2 rfl;have hd3 := hk3.same _ _ hd2 rfl;have hend := run_endRound (P := P) none hl3;rw [hR] at hend;refine ⟨_, _, hend, rfl, ⟨hIl _ _ _ _ _ hi3 hle hl3 rfl, ?_, ?_⟩, ?_⟩
    . rw [World.putObj_heap_same (Array.getElem?_eq_some_iff.1 hl3).1, hR]; rfl
    . exact (World.putObj_heap_other (by omega)).trans hd3
    . exact hk2.trans (hkp3.trans (dP.putObj _ _ hle))
   | ret => exact hp.elim
   | exit id => exact hp.elim
   | goto t => exact hp.elim
   | panic ch => exact hp.elim
   | outgrown => exact hp.elim
 . rintro e W2 ⟨⟨v, rfl⟩, xs, hS, hi, hl, hd⟩;have hle : w.heap.size <= w.heap.size + 1 := by omega
   have hend := run_endLoop (P := P) hl (by rw [hR]; simp);rw [hR] at hend;exact ⟨none, _, hend, hdone _ xs _ (Nat.le_refl _) hS (hIl _ _ _ _ _ hi hle hl rfl) ((World.putObj_heap_other (by omega)).trans hd)⟩
theorem vm {l N : Nat} {P : Program} {c : Code} {q : Act -> World -> Prop} {K : Act -> World -> Prop} {a : Act} {w : World} (h : c.wpIn (vV l) N P (Exit.then q (fun _ _ _ => False)) a w) (hk : ∀ a w, q a w -> K a w) : c.wpIn (vV l) N P (Exit.then K (fun _ _ _ => False)) a w :=
 wpIn_mono h fun e a w hq => by
  cases e with
  | normal => exact hk _ _ hq
  | _ => exact hq
def rdQ {X : Type} (I : X -> Prop) (S' : Nat -> Prop) (W : World) (ex : X -> List En) : Exit -> Act -> World -> Prop
 | .normal, _, w => ∃ y, I y /\ Fr S' W w (ex y)
 | _, _, _ => False
theorem rdE {X : Type} {I : X -> Prop} {S' : Nat -> Prop} {W : World} {ex : X -> List En} {n : Nat} {ls : List (Nat × Value)} {es : List En} (y : X) (h : I y) (he : ∀ w, Fr S' W w es -> Fr S' W w (ex y) := by intro w h; first | exact h | exact h.pick (by repeat (first | exact Pk.n | refine Pk.c (by repeat (first | exact Rm.z | apply Rm.s)) ?_))) : QW n S' W (rdQ I S' W ex) .normal ls es := fun a w _ hw => ⟨y, h, he w hw⟩
theorem asgE {n : Nat} {ls lw : List (Nat × Value)} {W : World} {es : List En} {Qx : Exit -> Act -> World -> Prop} (hs : ∀ a, Sl n ls a -> Sl n lw a := by intro a h; refine h.sub ?_; simp [eI, bY]) : QW n (fun _ => False) W (Exit.then (fun a1 w1 => Sl n lw a1 /\ Below W.heap.size W w1) Qx) .normal ls es := fun a w ha hw => ⟨hs a ha, hw.below⟩
theorem ud {X : Type} {n : Nat} {ls : List (Nat × Value)} {es : List En} {S0 : Nat -> Prop} {w0 : World} {Q : Exit -> Act -> World -> Prop} {gop : Operand} {p1 p2 : Nat} {assign body : Code} {gb b r c m : Nat} {ps : List P4} {tl : List Value} {xs : List Int}
 (I : Nat -> X -> Prop) (ex : X -> List En) (ex2 : Nat -> X -> List En) (x0 : X) (la : Nat -> Nat -> List (Nat × Value)) (hr : r <= 64) (hc : c <= 64) (hs : xs.length = r * c) (hm : xs.length = m) (hL : ∀ x ∈ xs, ag x.natAbs <= 17592186044415) (ht : aK tl) (h0 : I 0 x0)
 (asg : ∀ (l k g : Nat) (W : World), CI l 4 Tryz.prog n (fun _ => False) W assign (Exit.then (fun a1 w1 => Sl n (la k g) a1 /\ Below W.heap.size W w1) (fun _ _ _ => False)) ((p2, .slice (some ⟨g, 0, none⟩) c c) :: (p1, .int .i64 (k : Int)) :: ls) [])
 (round : ∀ (l k : Nat) (x : X) (g : Nat) (qs : List P4) (tk : List Value) (S' : Nat -> Prop) (W : World), I k x -> k < r -> aK tk -> CI l 4 Tryz.prog n S' W body (rdQ (I (k + 1)) S' W ex) (la k g) (.row g 37 (rn qs tk) :: .ns qs (rowOf xs c k) :: ex x))
 (k : ∀ D x, I r x -> nC [mkD D] n S0 w0 Q .normal ls (ex2 D x))
 (hz : ∀ x, Rz (ex x))
 (he : ∀ w, Fr S0 w0 w es -> Fr S0 w0 w (.row gb 24 [.int .i64 (r : Int), .int .i64 (c : Int), .slice (some ⟨b, 0, none⟩) m m] :: .row b 37 (rn ps tl) :: .ns ps xs :: ex x0) := by intro w h; first | exact h | exact h.pick (by repeat (first | exact Pk.n | refine Pk.c (by repeat (first | exact Rm.z | apply Rm.s)) ?_)))
 (hx2 : ∀ D x, ex x ++ [.vh w0.heap.size D] = ex2 D x := by intro D x; rfl)
 (hgi : eI ls gop = true := by kernel_rfl) (hg : cT ls gop = .func (.func 89) #[] #[.pointer (some ⟨gb, 0, none⟩)] := by (simp only [bY, Nat.reduceEqDiff, ↓reduceIte]) <;> rfl)
 (hp : (Nat.blt p1 n && Nat.blt p2 n && !(p1 == p2) && ls.all fun q => !(q.1 == p1) && !(q.1 == p2)) = true := by kernel_rfl) :
 CW Tryz.prog n S0 w0 (.rangeFunc gop #[p1, p2] assign body) Q ls es := fun a w ha hw => by
 subst hm;simp only [Bool.and_eq_true, Bool.not_eq_true', beq_eq_false_iff_ne] at hp;obtain ⟨⟨⟨hp1, hp2⟩, hp3⟩, hp4⟩ := hp;have hp1 := Nat.le_of_ble_eq_true hp1;have hp2 := Nat.le_of_ble_eq_true hp2;have H := he w hw;have Hx := H.tl.tl.tl;have hgR : aa w gb 24 [.int .i64 (r : Int), .int .i64 (c : Int), .slice (some ⟨b, 0, none⟩) xs.length xs.length] := H.m0;have hbR : aL w b xs := ⟨ps, tl, ht, H.m1, (H.m2 : bX w ps xs).1, fun i h1 h2 => by
  have := (H.m2 : bX w ps xs).2 i h1;rw [gZ h1, dA h2] at this; exact this⟩
 have hp := List.pairwise_cons.1 H.sep;have hq := List.pairwise_cons.1 hp.2;have hgS : ¬ ss (ex x0) gb := fun ⟨e, h1, h2, h3⟩ => (hp.1 e (List.mem_cons_of_mem _ (List.mem_cons_of_mem _ h1))).2 h2 gb h3 rfl;have hbS : ¬ ss (ex x0) b := fun ⟨e, h1, h2, h3⟩ => (hq.1 e (List.mem_cons_of_mem _ h1)).2 h2 b h3 rfl;refine (wpIn_wide (n := 6)).1 ?_;refine qC (S := ss (ex x0)) (N := r) (Sx := ux r c xs) (E := fun pre x W => uF w.heap.size pre x W /\ x = (pre.length, ⟨x.2.blk, c, rowOf xs c pre.length⟩) /\ pre.length < r /\ ∃ y, I pre.length y /\ Fr (ss (ex x0)) w W (ex y) /\ ∀ e ∈ ex y, ∀ b, e.S b -> b < x.2.blk)
  (I := fun pre W => ∃ y, I pre.length y /\ Fr (ss (ex x0)) w W (ex y)) (gf := 89) (lb := #[.pointer (some ⟨gb, 0, none⟩)]) (encs := NR.enc) ((ha.ev hgi).trans hg) (enters_of Tryz.func89 (by kernel_rfl) rfl) (fun _ => rfl) ?hE ?hIl ?hIb ⟨x0, h0, Hx.self⟩
  (fun x a1 => Sl n (la x.1 x.2.blk) a1) ?hEb ?hseq ?hassign ?hbody ?hdone
 case hE =>
  rintro s x W l o o' ⟨h1, h2, h3, y, h4, h5, h6⟩ hl ho hn;exact ⟨⟨vE ho hn h1.1, h1.2⟩, h2, h3, y, h4, h5.vG (hz y) o' ho hn hl, h6⟩
 case hIl =>
  rintro s W l o o' ⟨y, h4, h5⟩ hl ho hn;exact ⟨y, h4, h5.vG (hz y) o' ho hn hl⟩
 case hIb =>
  rintro s A B ⟨y, h4, h5⟩ hb;exact ⟨y, h4, h5.grow hb⟩
 case hEb =>
  rintro s x A B ⟨h1, h2, h3, y, h4, h5, h6⟩ hb;exact ⟨⟨h1.1.below hb, h1.2⟩, h2, h3, y, h4, h5.grow hb, h6⟩
 case hseq =>
  intro l J W hW hJ hJI hY hJ0;exact kM 5 gb b r c xs w _ (fun b ⟨e, h1, h2, h3⟩ => (hz x0 e h1).2 w (Hx.all e h1) h2 b h3) hgR hgS hbR hbS hs (by omega) (by omega) hL l J W hW hJ (fun pre x Wp W1 hj hB hle hx hxe hl => hY pre x W1 (hJ _ _ _ hj hB) ⟨hx, hxe, hl, by
   obtain ⟨y, hy, hf⟩ := hJI _ _ hj;exact ⟨y, hy, hf.grow hB, fun e he b hb => Nat.lt_of_lt_of_le (En.lt (hf.all e he) b hb) hle⟩⟩ hl) hJ0 (by omega)
 case hassign =>
  rintro l pre ⟨k', hd⟩ W K ⟨_, hxe, hlt, _⟩ hK;have e1 : hd = ⟨hd.blk, c, rowOf xs c pre.length⟩ := congrArg Prod.snd hxe;have hlen : hd.xs.length = c := by rw [e1]; exact bZ hs hlt
  have hcap : hd.cap = c := by rw [e1]
  refine vm (asg l k' hd.blk W _ W ⟨rfl, ?_, fun q hq' => ?_⟩ (Fr.nil _ W)) fun a1 w1 ⟨h1, h2⟩ => hK a1 w1 h1 h2
  . simp [NR.enc, ha.sz]
  . have hsz := ha.sz;simp only [NR.enc, hlen, hcap];have e9 : ∀ u v : Value, Array.foldl (fun t (x : Nat × Value) => t.setIfInBounds x.1 x.2) a.tmps (#[p1, p2].zip #[u, v]) = (a.tmps.setIfInBounds p1 u).setIfInBounds p2 v := fun u v => by simp
    rw [e9];rcases List.mem_cons.1 hq' with rfl | hq'
    . rw [bY.2.2.2, if_pos rfl];exact Array.getElem?_setIfInBounds_self_of_lt (by rw [Array.size_setIfInBounds, hsz]; exact hp2)
    . rcases List.mem_cons.1 hq' with rfl | hq'
      . rw [bY.2.2.2, if_neg hp3, bY.2.2.2, if_pos rfl, Array.getElem?_setIfInBounds_ne (fun e => hp3 e.symm)];exact Array.getElem?_setIfInBounds_self_of_lt (by rw [hsz]; exact hp1)
      . have h4 := List.all_eq_true.1 hp4 q hq';simp only [Bool.and_eq_true, Bool.not_eq_true', beq_eq_false_iff_ne] at h4;rw [bY.2.2.2, if_neg h4.2, bY.2.2.2, if_neg h4.1, Array.getElem?_setIfInBounds_ne (fun e => h4.2 e.symm), Array.getElem?_setIfInBounds_ne (fun e => h4.1 e.symm)];exact ha.vs q hq'
 case hbody =>
  rintro l pre ⟨k', hd⟩ W a1 hA1 _ ⟨hH, hxe, hlt, y, hy, hf, hbl⟩ _;have e0 : k' = pre.length := congrArg Prod.fst hxe;have e1 : hd = ⟨hd.blk, c, rowOf xs c pre.length⟩ := congrArg Prod.snd hxe;subst e0;obtain ⟨hrow, hge, _⟩ := hH
  replace hrow : aL W hd.blk hd.xs := hrow
  rw [show hd.xs = rowOf xs c pre.length by rw [e1]] at hrow
  replace hge : w.heap.size <= hd.blk := hge
  replace hbl : ∀ e ∈ ex y, ∀ b, e.S b -> b < hd.blk := hbl
  obtain ⟨qs, tk, nt, hr1, hl1, hN1⟩ := hrow;have f1 : Fr (ss (ex x0)) w W (.ns qs (rowOf xs c pre.length) :: ex y) := hf.pure ⟨hl1, fun i h => by rw [gZ h, dA (by rw [<- hl1]; exact h)]; exact hN1 i h (by rw [<- hl1]; exact h)⟩ (fun _ h => h);have f2 : Fr (ss (ex x0)) w W (.row hd.blk 37 (rn qs tk) :: .ns qs (rowOf xs c pre.length) :: ex y) := f1.cons hr1 (fun e' he' => by
   rcases List.mem_cons.1 he' with rfl | he'
   . exact ⟨fun _ _ _ h => h, fun _ _ h => h.elim⟩
   . exact ⟨fun _ b hb h => by cases (hb : b = hd.blk); exact Nat.lt_irrefl _ (hbl e' he' _ h), fun _ b h hb => by cases (hb : b = hd.blk); exact Nat.lt_irrefl _ (hbl e' he' _ h)⟩) (fun _ b hb => by cases (hb : b = hd.blk); exact .inr hge)
  refine wpIn_mono (round l pre.length y hd.blk qs tk _ W hy hlt nt a1 W hA1 f2.self) fun e a' W' hq => ?_;cases e with
  | normal =>
   obtain ⟨y', hy', hf'⟩ := hq;have hsw : ∀ b, ss (.row hd.blk 37 (rn qs tk) :: .ns qs (rowOf xs c pre.length) :: ex y) b -> b = hd.blk \/ ss (ex y) b := fun b ⟨e, he', h1, h2⟩ => by
    rcases List.mem_cons.1 he' with rfl | he'
    . exact .inl h2
    . rcases List.mem_cons.1 he' with rfl | he'
      . exact h2.elim
      . exact .inr ⟨e, he', h1, h2⟩
   refine ⟨B8 hf'.bs fun b hb => ?_, xm hf'.bs hf.size fun b hb hlt' => ?_, y', by rw [List.length_append]; exact hy', hf.comp hf' fun b hb => ?_⟩
   . rcases hsw b hb with rfl | ⟨e, he', h1, h2⟩
     . exact ⟨_, hr1, rfl⟩
     . obtain ⟨t, cs, hr2, _⟩ := (hz y e he').2 W (hf.all e he') h1 b h2;exact ⟨_, hr2, rfl⟩
   . rcases hsw b hb with rfl | h
     . omega
     . exact (hf.ss b h).resolve_right (by omega)
   . rcases hsw b hb with rfl | h
     . exact .inr hge
     . exact hf.ss b h
  | _ => exact hq.elim
 case hdone =>
  rintro D zs W hD hS ⟨y, hy, hf⟩ hK;have hl : zs.length = r := hS.1;rw [hl] at hy;refine k D y hy _ W ⟨by show mkD D :: a.defers = _; rw [ha.df], ha.sz, ha.vs⟩ ?_;rw [<- hx2];have f1 : Fr S0 w0 W (ex y) := Hx.comp hf Hx.ss;have f2 : Fr S0 w0 W (.vh w0.heap.size D :: ex y) := f1.cons ⟨hK, Nat.le_trans hw.size hD⟩ (fun e' he' => ⟨fun h => (nomatch h), fun h1 b h2 h3 => by
   cases (h3 : b = D);obtain ⟨t, cs, ho, _⟩ := (hz y e' he').2 W (f1.all e' he') h1 _ h2;unfold aa at ho;rw [hK] at ho; cases ho⟩) (fun h => (nomatch h))
  exact f2.perm (List.perm_append_singleton (.vh w0.heap.size D) (ex y)).symm
theorem A0 {P : Program} {S0 : Nat -> Prop} {es : List En} {ls : List (Nat × Value)} {f : FuncId} {fn : Func} {c : Code} {vs : List Value} {w : World} {R : Ending -> World -> Prop} (hf : P.funcs[f]? = some fn) (H : Fr S0 w w es) (k : CW P fn.ntmps S0 w c (bodyPostM Fence.wide 6 P fn R) ls es) (hb : fn.body = some c := by rfl) (hl : qQ 0 vs = ls := by (try simp only [qQ, Nat.reduceAdd, av]); rfl) (hn : Nat.ble vs.length fn.ntmps = true := by kernel_rfl) : Calls P f vs.toArray w R := by
 have hn := Nat.le_of_ble_eq_true hn;subst hl;refine callsIn_wide.1 (callsIn_of_wp_marks (n := 6) hf hb trivial (wpIn_wide.2 (k _ w ⟨rfl, by simp; omega, fun p hp => ?_⟩ H)) rfl);obtain ⟨_, h1, h2⟩ := nF vs 0 p hp;rw [h2];have hlt := (List.getElem?_eq_some_iff.1 h1).1;rw [Nat.sub_zero] at h1 hlt;simp only [Array.getElem?_append, List.size_toArray, hlt, if_true, List.getElem?_toArray];exact h1
section
variable {P : Program} {S0 : Nat -> Prop} {w0 : World} {n : Nat} {ls : List (Nat × Value)} {es : List En} {fn : Func} {R : Ending -> World -> Prop}
theorem eP.runM {a : Act} {w : World} {r : ResultVar} {v : Value} (h : ∀ t, eI ls (.tmp t) = true -> a.tmps[t]? = some (cT ls (.tmp t))) (hr : eP P ls w r v) : (∃ t, r = .tmp t /\ a.tmps[t]? = some v) \/ ∃ t ty ad, r = .cell t ty /\ a.tmps[t]? = some (.pointer (some ad)) /\ (loadVar ty ad).run P w = .ok v w := by
 cases r with
 | tmp t => exact .inl ⟨t, rfl, (h t hr.1).trans (by rw [hr.2])⟩
 | cell t ty =>
  obtain ⟨h1, ad, h2, h3⟩ := hr;exact .inr ⟨t, ty, ad, rfl, (h t h1).trans (by rw [h2]), h3⟩
theorem res1 {a : Act} {w : World} {r : ResultVar} {v : Value} (h : fn.results = #[r]) (hs : ∀ t, eI ls (.tmp t) = true -> a.tmps[t]? = some (cT ls (.tmp t))) (h1 : eP P ls w r v) : (results fn a.tmps).run P w = .ok v w := by
 rcases h1.runM hs with ⟨t, rfl, e⟩ | ⟨t, ty, ad, rfl, e, e'⟩ <;> simp [results, h, asAddr, *]
theorem res2 {a : Act} {w : World} {r r' : ResultVar} {v v' : Value} (h : fn.results = #[r, r']) (hs : ∀ t, eI ls (.tmp t) = true -> a.tmps[t]? = some (cT ls (.tmp t))) (h1 : eP P ls w r v) (h2 : eP P ls w r' v') : (results fn a.tmps).run P w = .ok (.tuple #[v, v']) w := by
 rcases h1.runM hs with ⟨t, rfl, e⟩ | ⟨t, ty, ad, rfl, e, e'⟩ <;> rcases h2.runM hs with ⟨t2, rfl, f⟩ | ⟨t2, ty2, ad2, rfl, f, f'⟩ <;> simp [results, h, asAddr, *]
theorem fin1M {D : Nat} {es' : List En} {r : ResultVar} (k : ∀ w, Fr S0 w0 w es' -> ∃ v, eP P ls w r v /\ R (.returned v) w) (hz : Rz es') (hD : En.vh w0.heap.size D ∈ es) (he : ∀ w, Fr S0 w0 w es -> Fr S0 w0 w es' := by intro w h; exact h.pick (by repeat (first | exact Pk.n | refine Pk.c (by repeat (first | exact Rm.z | apply Rm.s)) ?_))) (h : fn.results = #[r] := by rfl) : nC [mkD D] n S0 w0 (bodyPostM Fence.wide 6 P fn R) .ret ls es := fun a w ha hw => by
 obtain ⟨hK, hB⟩ := (hw.all _ hD : w.heap[D]? = some (.deferred (some [])) /\ w0.heap.size <= D);show LeavesInM Fence.wide 6 P fn a.tmps R a.defers .returning w;rw [ha.df];refine ⟨by simp, .inl ⟨_, _, rfl, run_takeDeferred hK, ?_⟩⟩;obtain ⟨v, h1, hR⟩ := k _ ((he w hw).vG hz _ hK rfl hB);exact ⟨v, res1 h (fun t => ha.tmp) h1, hR⟩
theorem fin2M {D : Nat} {es' : List En} {r r' : ResultVar} (k : ∀ w, Fr S0 w0 w es' -> ∃ v v', eP P ls w r v /\ eP P ls w r' v' /\ R (.returned (.tuple #[v, v'])) w) (hz : Rz es') (hD : En.vh w0.heap.size D ∈ es) (he : ∀ w, Fr S0 w0 w es -> Fr S0 w0 w es' := by intro w h; exact h.pick (by repeat (first | exact Pk.n | refine Pk.c (by repeat (first | exact Rm.z | apply Rm.s)) ?_))) (h : fn.results = #[r, r'] := by rfl) : nC [mkD D] n S0 w0 (bodyPostM Fence.wide 6 P fn R) .ret ls es := fun a w ha hw => by
 obtain ⟨hK, hB⟩ := (hw.all _ hD : w.heap[D]? = some (.deferred (some [])) /\ w0.heap.size <= D);show LeavesInM Fence.wide 6 P fn a.tmps R a.defers .returning w;rw [ha.df];refine ⟨by simp, .inl ⟨_, _, rfl, run_takeDeferred hK, ?_⟩⟩;obtain ⟨v, v', h1, h2, hR⟩ := k _ ((he w hw).vG hz _ hK rfl hB);exact ⟨_, res2 h (fun t => ha.tmp) h1 h2, hR⟩
end
theorem qM (r c n : Nat) (ao : Option Addr) (cap : Nat) (xs : List Int) (w : World) (hr : r <= 64) (hc : c <= 64) (h : aT w 17592186044415 ao xs) (hs : xs.length = r * c) (hn : xs.length = n) :
 Calls Tryz.prog 63 #[.agg #[.int .i64 (r : Int), .int .i64 (c : Int), .slice ao n cap]] w fun e w' => ∃ q : (Nat × Nat) × List P4 × List Value, e = .returned (.func (.func 89) #[] #[.pointer (some ⟨q.1.1, 0, none⟩)]) /\ Nw w w' [.row q.1.1 24 [.int .i64 (r : Int), .int .i64 (c : Int), .slice (some ⟨q.1.2, 0, none⟩) n n], .row q.1.2 37 (rn q.2.1 q.2.2), .ns q.2.1 xs, .pr (aK q.2.2)] := by
 subst hn;have hsnd : aX (r : Int) (c : Int) xs.length = true := by
  unfold aX cD;rw [hs];simp; omega
 refine (qx (r : Int) (c : Int) ao xs.length cap xs w (by omega) (by omega) h rfl hsnd (by rw [hs]; have := Nat.mul_le_mul hr hc; omega)).mono ?_;rintro e w3 ⟨⟨g, b, rfl, hg, hb, hRg, ps, tl, nt, hRb, hl, hN⟩, hb3⟩;refine ⟨((g, b), ps, tl), rfl, hb3, fun e he => ?_, ?_⟩
 . simp only [List.mem_cons, List.mem_nil_iff, or_false] at he;rcases he with rfl | rfl | rfl | rfl
   . exact ⟨hRg, fun q e => by cases (e : q = g); exact hg⟩
   . exact ⟨hRb, fun q e => by cases (e : q = b); exact hb⟩
   . exact ⟨⟨hl, fun i h => by rw [gZ h, dA (by rw [<- hl]; exact h)]; exact hN i h (by rw [<- hl]; exact h)⟩, fun _ h => h.elim⟩
   . exact ⟨nt, fun _ h => h.elim⟩
 . have hne : g ≠ b := aa.ne hRg hRb (by decide);refine List.pairwise_cons.2 ⟨fun e he => ?_, List.pairwise_cons.2 ⟨fun e he => ?_, List.pairwise_cons.2 ⟨fun e he => ?_, List.pairwise_singleton ..⟩⟩⟩
   . simp only [List.mem_cons, List.mem_nil_iff, or_false] at he;rcases he with rfl | rfl | rfl
     . exact ⟨fun _ q h1 h2 => hne (Eq.trans (Eq.symm h1) h2), fun _ q h1 h2 => hne (Eq.trans (Eq.symm h2) h1)⟩
     . exact ⟨fun _ _ _ h => h, fun _ _ h => h.elim⟩
     . exact ⟨fun _ _ _ h => h, fun _ _ h => h.elim⟩
   . simp only [List.mem_cons, List.mem_nil_iff, or_false] at he;rcases he with rfl | rfl
     . exact ⟨fun _ _ _ h => h, fun _ _ h => h.elim⟩
     . exact ⟨fun _ _ _ h => h, fun _ _ h => h.elim⟩
   . simp only [List.mem_cons, List.mem_nil_iff, or_false] at he;rcases he with rfl;exact ⟨fun _ _ _ h => h, fun _ _ h => h.elim⟩
theorem oB : ∀ (us cs tl : List Value), us.length <= tl.length -> ix (cs ++ tl) cs.length us = cs ++ us ++ tl.drop us.length
 | [], cs, tl, _ => by simp [ix]
 | u :: us, cs, tl, h => by
  obtain ⟨x, t, rfl⟩ : ∃ x t, tl = x :: t := by
   cases tl with
   | nil => simp at h
   | cons x t => exact ⟨x, t, rfl⟩
  have e : (cs ++ x :: t).set cs.length u = (cs ++ [u]) ++ t := by
   rw [List.set_append_right _ _ (Nat.le_refl _)]; simp
  have h2 := oB us (cs ++ [u]) t (by simpa using h);rw [ix, e, show cs.length + 1 = (cs ++ [u]).length by simp, h2];simp
theorem mj.nil (te : TypeId) (sz : Nat) (w : World) : mj te sz none 0 0 [] w := ⟨by simp, Nat.le_refl _, .inl ⟨rfl, rfl⟩⟩
section
variable {P : Program} {Q : Exit -> Act -> World -> Prop} {ds : List Deferred} {S0 : Nat -> Prop} {w0 : World} {n : Nat} {ls : List (Nat × Value)} {es : List En} {c : Code}
theorem yT {te : TypeId} {sz : Nat} (k : fg ds P n S0 w0 c Q ls (.lg te sz none 0 0 [] :: es)) : fg ds P n S0 w0 c Q ls es := fun a w ha hw => k a w ha (hw.pure (e := .lg te sz none 0 0 []) (mj.nil te sz w) (fun b ⟨o, e⟩ => nomatch e))
theorem ub {te : TypeId} {sz : Nat} {ao : Option Addr} {k cap : Nat} {cs : List Value} (hk : 0 < k) (h : ∀ b tl, ao = some ⟨b, 0, none⟩ -> aK tl -> (cs ++ tl).length = cap * sz -> fg ds P n S0 w0 c Q ls (.row b te (cs ++ tl) :: es)) : fg ds P n S0 w0 c Q ls (.lg te sz ao k cap cs :: es) := fun a w ha hw => by
 obtain ⟨h1, h2, ⟨_, h3⟩ | ⟨b, tl, rfl, ht, hr, hl⟩⟩ : mj te sz ao k cap cs w := hw.m0
 . omega
 . exact h b tl rfl ht hl a w ha (hw.conv (fun _ => hr) (fun g e => by obtain rfl : g = b := e; exact ⟨0, rfl⟩) (fun _ => rfl))
end
theorem xF {w : World} {t te ty : TypeId} {sz bytes : Nat} {z : Value} (ht : Tryz.prog.underlying t = some (.slice te)) (hinfo : (Tryz.prog.info? te).map (fun i => (i.zero, i.size, i.bytes)) = some (some z, sz, bytes)) (hzc : z.cells.size = sz) (hzn : ∀ n, aK (Builtin.zeroCells z.cells n).toList)
 {ao : Option Addr} {k cap m : Nat} {cs news : List Value} {x : Value} (h : mj te sz ao k cap cs w) (hb : (k + m) * bytes <= 140737488355328) (hb2 : k + m <= 100000000) (hs : Src Tryz.prog sz t x m news w) :
 ∃ ao' cap' w', (Builtin.append_ #[t, t] ty #[.slice ao k cap, x]).run Tryz.prog w = .ok (.slice ao' (k + m) cap') w' /\ mj te sz ao' (k + m) cap' (cs ++ news) w' /\ aO (fun g => ∃ o, ao = some ⟨g, o, none⟩) w w' /\ ∀ g, (∃ o, ao' = some ⟨g, o, none⟩) -> (∃ o, ao = some ⟨g, o, none⟩) \/ w.heap.size <= g := by
 obtain ⟨i, hi, hz, hsz, hby⟩ := info_parts hinfo;subst hsz hby;obtain ⟨hk, hkc, hrow⟩ := h;have hnl := hs.newsLen;by_cases h0 : m = 0
 . subst h0;have hn : news = [] := List.eq_nil_of_length_eq_zero (by simpa using hnl);subst hn;exact ⟨ao, cap, w, run_append_nothing w t t ty te i ht hi ao k cap hkc _ hs, by simpa using ⟨hk, hkc, hrow⟩, aO.refl _ _, fun g hg => .inl hg⟩
 . by_cases hroom : k + m <= cap
   . obtain ⟨_, h⟩ | ⟨b, tl, rfl, htl, hr, hl⟩ := hrow
     . omega
     have hmul : (k + m) * i.size <= cap * i.size := Nat.mul_le_mul_right _ hroom;rw [Nat.add_mul] at hmul;have hle : news.length <= tl.length := by rw [List.length_append] at hl; omega
     have hex : ∀ j, j < cap * i.size -> (w.cell? ⟨b, j, none⟩).isSome = true := fun j hj => by rw [hr.cell, List.getElem?_eq_getElem (by omega)]; rfl
     have hset : ix (cs ++ tl) (k * i.size) news = cs ++ news ++ tl.drop news.length := by rw [<- hk]; exact oB news cs tl hle
     have hsc : w.setCells b (0 + k * i.size) news = qh w b (k * i.size) news := by rw [Nat.zero_add, kO]
     refine ⟨_, _, _, run_append_room_src w t t ty te i ht hi b 0 k cap _ m _ hs hroom (fun j hj => hex _ (by omega)) (fun j _ => hr.free _), ?_, ?_, fun g hg => .inl hg⟩
     . rw [hsc];have h2 := hr.qh news (k * i.size);rw [hset] at h2;refine ⟨by rw [List.length_append, hk, hnl, Nat.add_mul], hroom, .inr ⟨b, tl.drop news.length, rfl, fun v hv => htl v (List.mem_of_mem_drop hv), h2, ?_⟩⟩;rw [<- hset, lR]; exact hl
     . rw [hsc];exact (aO.qh news (k * i.size) (aO.refl (· = b) w)).mono (fun g _ e => by obtain rfl : g = b := e; exact ⟨0, rfl⟩)
   . have hold : (Builtin.firstCells i.size k (.slice ao k cap)).run Tryz.prog w.drew = .ok cs.toArray w.drew := by
      obtain ⟨rfl, h⟩ | ⟨b, tl, rfl, htl, hr, hl⟩ := hrow
      . have : k = 0 := by omega
        subst this;have hc : cs = [] := List.eq_nil_of_length_eq_zero (by simpa using hk);subst hc;exact run_firstCells_none w.drew i.size 0 0 cap
      . refine run_firstCells_some w.drew i.size k _ k cap cs hk fun j v hj => ?_;have e : w.drew.cell? ((⟨b, 0, none⟩ : Addr).add j) = w.cell? ⟨b, j, none⟩ := by simp only [Addr.add]; by_cases hj0 : j = 0 <;> simp [hj0]
        rw [e, hr.cell, List.getElem?_append_left (List.getElem?_eq_some_iff.1 hj).1]; exact hj
     have hge := grownCap_ge w (k + m) cap te;refine ⟨_, _, _, run_append_grow_src w t t ty te i z ht hi hz ao k cap cs hold _ m _ hs (by omega) (by omega) (growslice_fits (by omega) hb), ⟨by rw [List.length_append, hk, hnl, Nat.add_mul], hge, .inr ⟨_, (Builtin.zeroCells z.cells (grownCap w (k + m) cap te - (k + m))).toList, rfl, hzn _, ?_, ?_⟩⟩, aO.wT _ w _, fun g ⟨o, e⟩ => by cases e; exact .inr (Nat.le_refl _)⟩
     . have hnew := aa.new w.drew ((cs ++ news).toArray ++ Builtin.zeroCells z.cells (grownCap w (k + m) cap te - (k + m))) te;simpa using hnew
     . have hz2 : (Builtin.zeroCells z.cells (grownCap w (k + m) cap te - (k + m))).toList.length = (grownCap w (k + m) cap te - (k + m)) * i.size := by rw [Array.length_toList, size_zeroCells, hzc]
       rw [List.length_append, List.length_append, hk, hnl, hz2, <- Nat.add_mul, <- Nat.add_mul, show k + m + (grownCap w (k + m) cap te - (k + m)) = grownCap w (k + m) cap te by omega]
section
variable {ops : Array Oper} {Q : Exit -> Act -> World -> Prop} {ds : List Deferred} {S0 : Nat -> Prop} {w0 : World} {E0 : List En} {hd : List (List Nat)} {n j s : Nat} {l : List Nat} {G E : List En} {ls : List (Nat × Value)} {ty : TypeId} {pos : String} {af : Array Edge}
theorem zF {i k cap g c bytes : Nat} {t te : TypeId} {z v : Value} {ao : Option Addr} {cs : List Value} {sa xa : Operand} {E' : Option Addr × Nat -> List En} (ht : Tryz.prog.underlying t = some (.slice te)) (hinfo : (Tryz.prog.info? te).map (fun i => (i.zero, i.size, i.bytes)) = some (some z, 1, bytes)) (hzc : z.cells.size = 1) (hzn : ∀ n, aK (Builtin.zeroCells z.cells n).toList)
 (hb : (k + 1) * bytes <= 140737488355328) (hb2 : k + 1 <= 100000000) (hone : v.oneCell' = true) (hnw : aK cs /\ te ≠ 60) (hm : En.row g te [v] ∈ G ++ E)
 (k' : ∀ q, dv ds ⟨Tryz.prog, ops, Q, S0, w0, E0, hd⟩ n l G (E' q) ((s, .slice q.1 (k + 1) q.2) :: ls))
 (ho : ops[j]? = some ⟨some s, .call { callee := Callee.builtin Builtin.append, args := #[sa, xa], argTypes := #[t, t] }, ty, pos, af, none⟩ := by rfl) (hk : (dL ls (.call { callee := Callee.builtin Builtin.append, args := #[sa, xa], argTypes := #[t, t] }) && Nat.blt s n) = true := by kernel_rfl)
 (ha : cT ls sa = .slice ao k cap := by (simp only [bY, Nat.reduceEqDiff, ↓reduceIte]) <;> rfl)
 (hv : cT ls xa = .slice (some ⟨g, 0, none⟩) 1 c := by (simp only [bY, Nat.reduceEqDiff, ↓reduceIte, av]) <;> rfl)
 (hE : ∀ q, Up (.lg te 1 ao k cap cs) (.lg te 1 q.1 (k + 1) q.2 (cs ++ [v])) i E (E' q) := by intro q; repeat first | exact .z | apply Up.s)
 (hst : fs ops hd j [i] = true := by kernel_rfl) : dv ds ⟨Tryz.prog, ops, Q, S0, w0, E0, hd⟩ n (j :: l) G E ls := fun a hA => by
 simp only [Bool.and_eq_true] at hk;refine ⟨_, ho, .inr (.inr ⟨rfl, rfl, Option Addr × Nat, fun q => .slice q.1 (k + 1) q.2, fun _ => G, E', [i], ⟨(none, 0)⟩, fun X w hX hw => ?_, hst, fun q r hr => (hE q).other (by simpa using hr), fun q => k' q _ (hA.put (Nat.le_of_ble_eq_true hk.2) _)⟩)⟩;have hrow : aa w g te [v] := hw.all _ (List.mem_append_right _ hm);have hl : mj te 1 ao k cap cs w := by
  obtain ⟨m, h1, h2⟩ := (hE (none, 0)).right' X G;exact (hw.perm h1).all _ (List.mem_cons_self ..)
 have hsrc : Src Tryz.prog 1 t (.slice (some ⟨g, 0, none⟩) 1 c) 1 [v] w := Src.ofSlice w ht _ 1 c [v] rfl (fun j u hj => by
  match j, hj with
  | 0, hj => cases hj; exact hrow.cell 0) (fun u hu => by rw [List.mem_singleton.1 hu]; exact hone)
 obtain ⟨ao', cap', w', hrun, h1', hc, hS⟩ := xF (ty := ty) ht hinfo hzc hzn hl hb hb2 hsrc;obtain ⟨m, h1, h2⟩ := (hE (ao', cap')).right' X G;refine yj rfl ?_;show mK _ _ ((execOp a.eval _).run _ w);rw [hA.exec (o := ⟨some s, .call { callee := Callee.builtin Builtin.append, args := #[sa, xa], argTypes := #[t, t] }, ty, pos, af, none⟩) hk.1];have e : (execOp (cT ls) ⟨some s, .call { callee := Callee.builtin Builtin.append, args := #[sa, xa], argTypes := #[t, t] }, ty, pos, af, none⟩).run Tryz.prog w = .ok (.value (.slice ao' (k + 1) cap')) w' := by
  simp [execOp, resolve, invoke, builtin, ha, hv, hrun, Result.andThen]
 rw [e];refine ⟨(ao', cap'), rfl, Fr.perm ((hw.perm h1).bU (e := .lg te 1 ao k cap cs) (e' := .lg te 1 ao' (k + 1) cap' (cs ++ [v])) rfl hc (fun x hx _ => ?_) (fun _ h => h) h1' hS) h2.symm⟩;rintro b ⟨o, rfl⟩;obtain ⟨_, _, ⟨h, _⟩ | ⟨b', tl, h, ht, hr, _⟩⟩ := hl
 . cases h
 . cases h; exact ⟨_, _, hr, hnw.1.append ht, hnw.2⟩
end
theorem wg : (Tryz.prog.info? 22).map (fun i => (i.zero, i.size, i.bytes)) = some (some (.slice none 0 0), 1, 24) := by kernel_rfl
theorem tc : (Tryz.prog.info? 3).map (fun i => (i.zero, i.size, i.bytes)) = some (some (.int .i64 0), 1, 8) := by kernel_rfl
theorem oT (z : Value) (hz : z.cells = #[z]) (hn : ∀ n, z ≠ .int .u64 n) (n : Nat) : aK (Builtin.zeroCells z.cells n).toList := by
 rw [hz];intro v hv k;unfold Builtin.zeroCells at hv;simp only [Array.toList_map, List.mem_map, Array.mem_toList_iff, Array.mem_range] at hv;obtain ⟨i, _, rfl⟩ := hv;have h2 : i % 1 = 0 := Nat.mod_one i;simp [h2];exact hn k
theorem Fr.Ak {S0 : Nat -> Prop} {w0 w : World} {es : List En} (h : Fr S0 w0 w es) : ∀ {X : List En}, (∀ x ∈ X, x.F w /\ ∀ b, ¬ x.S b) -> Fr S0 w0 w (X ++ es)
 | [], _ => h
 | x :: X, hx => (Fr.Ak h (X := X) fun y hy => hx y (List.mem_cons_of_mem _ hy)).pure (hx x (List.mem_cons_self ..)).1 (hx x (List.mem_cons_self ..)).2
section
variable {P : Program} {ops : Array Oper} {Q : Exit -> Act -> World -> Prop} {ds : List Deferred} {S0 : Nat -> Prop} {w0 : World} {E0 : List En} {hd : List (List Nat)} {n j s : Nat} {l : List Nat} {G E : List En} {ls : List (Nat × Value)} {op : Op} {ty : TypeId} {pos : String} {af : Array Edge} {f : FuncId} {args : Array Value}
theorem cUp {α : Type} {mk : α -> Value} {e : En} {e' : α -> En} {ens : α -> List En} {i : Nat} {E' : α -> List En}
 (c : ∀ w, Fr S0 w0 w (G ++ E) -> Calls P f args w fun r w' => ∃ p, r = .returned (mk p) /\ aO e.S w w' /\ (e' p).F w' /\ (∀ b, (e' p).S b -> e.S b \/ w.heap.size <= b) /\ ∀ x ∈ ens p, x.F w' /\ ∀ b, ¬ x.S b)
 (hwl : ∀ w, e.F w -> Wl e.S w)
 (k : ∀ p, dv ds ⟨P, ops, Q, S0, w0, E0, hd⟩ n l (ens p ++ G) (E' p) ((s, mk p) :: ls))
 (hwr : e.wr = true := by rfl) (hne : Nonempty α := by infer_instance)
 (ho : ops[j]? = some ⟨some s, op, ty, pos, af, none⟩ := by rfl) (hk : (!bI op && !cX op && dL ls op && Nat.blt s n) = true := by kernel_rfl)
 (hr : ∀ w, (execOp (cT ls) ⟨some s, op, ty, pos, af, none⟩).run P w = .ok (.enter f args) w := by intro w; (try simp only [av]); go_simp <;> with_reducible rfl)
 (hE : ∀ p, Up e (e' p) i E (E' p) := by intro p; repeat first | exact .z | apply Up.s)
 (hst : fs ops hd j [i] = true := by kernel_rfl) : dv ds ⟨P, ops, Q, S0, w0, E0, hd⟩ n (j :: l) G E ls := fun a ha => by
 simp only [Bool.and_eq_true, Bool.not_eq_true'] at hk;refine ⟨_, ho, .inr (.inr ⟨hk.1.1.1, hk.1.1.2, α, mk, fun p => ens p ++ G, E', [i], hne, fun X w hX hw => ?_, hst, fun p r hr => (hE p).other (by simpa using hr), fun p => k p _ (ha.put (Nat.le_of_ble_eq_true hk.2) _)⟩)⟩;refine yj rfl ?_;show mK P _ ((execOp a.eval _).run P w);rw [ha.exec hk.1.2, hr w];refine (c w (hw.sub (List.sublist_append_right ..))).mono ?_;rintro r w' ⟨p, rfl, hc, hF, hS, hens⟩;obtain ⟨m, h1, h2⟩ := (hE p).right' X G;have h0 := hw.perm h1;have h3 := Fr.Ak (Fr.perm (h0.bU hwr (e' := e' p) hc (fun x hx hl => hwl w h0.m0) (fun _ h => h) hF hS) h2.symm) hens;refine ⟨_, rfl, p, rfl, h3.perm ?_⟩;rw [List.append_assoc];exact (List.perm_append_comm_assoc (ens p) X (G ++ E' p))
end
theorem mj.rl {te : TypeId} {ao : Option Addr} {k cap : Nat} {cs : List Value} {w : World} (h : mj te 1 ao k cap cs w) : rX ao cs w := fun hl => by
 obtain ⟨h1, h2, ⟨_, h3⟩ | ⟨b, tl, e, _, hr, _⟩⟩ := h
 . omega
 . exact ⟨b, e, hr.lt, fun i v hv => by rw [hr.cell, List.getElem?_append_left (List.getElem?_eq_some_iff.1 hv).1]; exact hv⟩
section
variable {P : Program} {Q : Exit -> Act -> World -> Prop} {ds : List Deferred} {S0 : Nat -> Prop} {w0 : World} {n : Nat} {ls : List (Nat × Value)} {es : List En} {c : Code}
theorem lrsW {L : Nat} {hs : List (Option Addr × Nat)} {R : List (List Int)} (t : Nat) (hm : En.Ac L hs R ∈ es) (ht : t < R.length) (k : fg ds P n S0 w0 c Q ls (.ls L (hs.getD t (none, 0)).1 (R.getD t []) :: es)) : fg ds P n S0 w0 c Q ls es := fun a w ha hw => by
 have hA : ∀ t, t < R.length -> aT w L (hs.getD t (none, 0)).1 (R.getD t []) := hw.all _ hm;refine k a w ha (hw.cons (e := .ls L (hs.getD t (none, 0)).1 (R.getD t [])) (hA t ht) (fun e' he' => ⟨(fun q => nomatch q), fun q g hg ⟨hl, o, e⟩ => ?_⟩) (fun q => nomatch q));exact hw.apart he' hm q rfl hg ⟨t, ht, hl, o, e⟩
theorem Bb {ao : Option Addr} {cs : List Value} {v : Value} (i : Nat) (hm : En.rl ao cs ∈ es) (hi : cs[i]? = some v) (k : ∀ b, ao = some ⟨b, 0, none⟩ -> fg ds P n S0 w0 c Q ls (.cell ⟨b, i, none⟩ v :: es)) : fg ds P n S0 w0 c Q ls es := fun a w ha hw => by
 have hl : 0 < cs.length := by have := (List.getElem?_eq_some_iff.1 hi).1; omega
 obtain ⟨b, e, hb, hc⟩ := (hw.all _ hm : rX ao cs w) hl;exact k b e a w ha (hw.cellOf hm rfl ⟨hl, 0, e⟩ (hc i v hi))
theorem A8 {L : Nat} {ao : Option Addr} {xs : List Int} (hm : En.ls L ao xs ∈ es) (hl : 0 < xs.length) (k : ∀ b o, ao = some ⟨b, o, none⟩ -> fg ds P n S0 w0 c Q ls es) : fg ds P n S0 w0 c Q ls es := fun a w ha hw => by
 obtain ⟨b, o, e, _⟩ := (hw.all _ hm : aT w L ao xs) hl;exact k b o e a w ha hw
end
section
variable {S0 : Nat -> Prop} {w0 w : World} {e : En} {es : List En}
theorem Fr.om {X : List En} (h : Fr S0 w0 w (e :: es)) (hw : e.wr = true) (hX : ∀ x ∈ X, x.F w /\ ∀ b, x.S b -> e.S b) (hp : X.Pairwise Ap) : Fr S0 w0 w (X ++ es) := by
 have hs := List.pairwise_cons.1 h.sep;refine ⟨h.bs, fun x hx => (List.mem_append.1 hx).elim (fun q => (hX x q).1) (fun q => h.all x (List.mem_cons_of_mem _ q)), List.pairwise_append.2 ⟨hp, hs.2, fun x hx y hy => ⟨fun _ b h1 h2 => (hs.1 y hy).1 hw b ((hX x hx).2 b h1) h2, fun q b h1 h2 => (hs.1 y hy).2 q b h1 ((hX x hx).2 b h2)⟩⟩, fun x hx q b hb => ?_⟩;rcases List.mem_append.1 hx with hx | hx
 . exact h.own e (List.mem_cons_self ..) hw b ((hX x hx).2 b hb)
 . exact h.own x (List.mem_cons_of_mem _ hx) q b hb
theorem Fr.uc {X : List En} (h : Fr S0 w0 w (X ++ es)) (he : e.F w) (hS : ∀ b, e.S b -> ∃ x ∈ X, x.wr = true /\ x.S b) : Fr S0 w0 w (e :: es) := by
 have hs := List.pairwise_append.1 h.sep;refine ⟨h.bs, fun x hx => (List.mem_cons.1 hx).elim (fun q => q ▸ he) (fun q => h.all x (List.mem_append_right _ q)), List.pairwise_cons.2 ⟨fun y hy => ⟨fun _ b h1 h2 => ?_, fun q b h1 h2 => ?_⟩, hs.2.1⟩, fun x hx q b hb => ?_⟩
 . obtain ⟨x, hx, hw, hb⟩ := hS b h1;exact (hs.2.2 x hx y hy).1 hw b hb h2
 . obtain ⟨x, hx, hw, hb⟩ := hS b h2;exact (hs.2.2 x hx y hy).2 q b h1 hb
 . rcases List.mem_cons.1 hx with rfl | hx
   . obtain ⟨y, hy, hw, hb'⟩ := hS b hb;exact h.own y (List.mem_append_left _ hy) hw b hb'
   . exact h.own x (List.mem_append_right _ hx) q b hb
theorem gO {α : Type} {l : List α} {x d : α} (t : Nat) : (l ++ [x]).getD t d = if t < l.length then l.getD t d else if t = l.length then x else d := by
 by_cases h : t < l.length
 . simp [h, List.getElem?_append_left h]
 . rw [if_neg h];by_cases h2 : t = l.length
   . subst h2; simp
   . rw [if_neg h2];rw [List.getD_eq_getElem?_getD, List.getElem?_eq_none (by simp; omega)]; rfl
theorem Fr.oQ {gs : List Nat} {E : List (List Int)} {g x x' : Nat} {ps : List P4} {tl : List Value} {v : List Int} (hl : gs.length = E.length) (hx : E.length <= x) (hx' : E.length < x') (hn : aK tl)
 (h : Fr S0 w0 w (.row g 37 (rn ps tl) :: .ns ps v :: .iY x gs E :: es)) : Fr S0 w0 w (.iY x' (gs ++ [g]) (E ++ [v]) :: es) /\ ∀ t, t < E.length -> gs.getD t 0 ≠ g := by
 have hr : aa w g 37 (rn ps tl) := h.m0;have hns : bX w ps v := h.m1;have hF : yZ x gs E w := h.m2;have hs := List.pairwise_cons.1 h.sep;refine ⟨Fr.uc (X := [.row g 37 (rn ps tl), .ns ps v, .iY x gs E]) h (fun t ht hne => ?_) fun b ⟨t, ht, hne, e⟩ => ?_, fun t ht e => ?_⟩
 . rw [List.length_append] at ht;rw [gO, gO, hl];by_cases q : t < E.length
   . rw [if_pos q, if_pos q]; exact hF t q (by omega)
   . have e : t = E.length := by simp at ht; omega
     rw [if_neg q, if_neg q, if_pos e, if_pos e];exact ⟨ps, tl, hn, hr, hns⟩
 . rw [List.length_append] at ht;rw [gO, hl] at e;by_cases q : t < E.length
   . rw [if_pos q] at e;exact ⟨.iY x gs E, by simp, rfl, t, q, by omega, e⟩
   . rw [if_neg q, if_pos (by simp at ht; omega)] at e;exact ⟨.row g 37 (rn ps tl), by simp, rfl, e⟩
 . exact (hs.1 (.iY x gs E) (by simp)).1 rfl g rfl ⟨t, ht, by omega, e.symm⟩
theorem Fr.rws0 (h : Fr S0 w0 w es) : Fr S0 w0 w (.iY 0 [] [] :: es) := h.cons (fun t ht => absurd ht (Nat.not_lt_zero _)) (fun e' _ => ⟨fun _ b ⟨t, ht, _⟩ => absurd ht (Nat.not_lt_zero _), fun _ b _ ⟨t, ht, _⟩ => absurd ht (Nat.not_lt_zero _)⟩) (fun _ b ⟨t, ht, _⟩ => absurd ht (Nat.not_lt_zero _))
end
theorem Ai {P : Program} {Q : Exit -> Act -> World -> Prop} {ds : List Deferred} {S0 : Nat -> Prop} {w0 : World} {n : Nat} {ls : List (Nat × Value)} {es : List En} {c : Code} (k : fg ds P n S0 w0 c Q ls (.iY 0 [] [] :: es)) : fg ds P n S0 w0 c Q ls es := fun a w ha hw => k a w ha hw.rws0
def hG (c : Nat) (gs : List Nat) : List Value := gs.map fun g => .slice (some ⟨g, 0, none⟩) c c
theorem iA (c : Nat) (gs : List Nat) : (hG c gs).length = gs.length := by simp [hG]
theorem Ax {c t : Nat} {gs : List Nat} (tl : List Value) (h : t < gs.length) : (hG c gs ++ tl)[t]? = some (.slice (some ⟨gs.getD t 0, 0, none⟩) c c) := by
 rw [List.getElem?_append_left (by rw [iA]; exact h)];simp [hG, h]
theorem uq (c : Nat) (gs : List Nat) (g : Nat) : hG c gs ++ [.slice (some ⟨g, 0, none⟩) c c] = hG c (gs ++ [g]) := by simp [hG]
theorem gL (c : Nat) : ∀ gs : List Nat, aK (hG c gs)
 | [] => aK.nil
 | _ :: gs => aK.slice (gL c gs)
def iL (ns : List Nat) : List Value := ns.map fun x : Nat => Value.int .i64 (x : Int)
theorem pO (ns : List Nat) : (iL ns).length = ns.length := by simp [iL]
theorem At {t : Nat} {ns : List Nat} (tl : List Value) (h : t < ns.length) : (iL ns ++ tl)[t]? = some (.int .i64 ((ns.getD t 0 : Nat) : Int)) := by
 rw [List.getElem?_append_left (by rw [pO]; exact h)];simp [iL, h]
theorem uh (ns : List Nat) (x : Nat) : iL ns ++ [.int .i64 (x : Int)] = iL (ns ++ [x]) := by simp [iL]
theorem iN : ∀ ns : List Nat, aK (iL ns)
 | [] => aK.nil
 | _ :: ns => aK.i64 (iN ns)
theorem lT {c t g : Nat} {gs : List Nat} (tl : List Value) (h : t < gs.length) (hg : gs.getD t 0 = g) : (hG c gs ++ tl)[t]? = some (.slice (some ⟨g, 0, none⟩) c c) := by rw [Ax tl h, hg]
theorem jS {t x : Nat} {ns : List Nat} (tl : List Value) (h : t < ns.length) (hx : ns.getD t 0 = x) : (iL ns ++ tl)[t]? = some (.int .i64 (x : Int)) := by rw [At tl h, hx]
def vA (o gs : List Nat) (E : List (List Int)) (w : World) : Prop := ∀ t, t < E.length -> t ∉ o -> ∃ (ps : List P4) (tl : List Value), aK tl /\ aa w (gs.getD t 0) 37 (rn ps tl) /\ bX w ps (E.getD t [])
abbrev En.eO (o gs : List Nat) (E : List (List Int)) : En := .fact true true (fun g => ∃ t, t < E.length /\ t ∉ o /\ g = gs.getD t 0) (vA o gs E)
 (fun h b ⟨t, ht, hx, e⟩ => by
  obtain ⟨ps, tl, _, hr, _⟩ := h t ht hx;rw [e]; exact hr.lt)
 (fun h hc hT hs t ht hx => by
  obtain ⟨ps, tl, hn, hr, h1, h2⟩ := h t ht hx;exact ⟨ps, tl, hn, hc.row hr (hs _ ⟨t, ht, hx, rfl⟩), h1, fun i a => hc.num (hT rfl).bN (h2 i a)⟩)
section
variable {S0 : Nat -> Prop} {w0 w : World} {es : List En} {gs o : List Nat} {E : List (List Int)}
theorem Fr.Bo {x : Nat} (hx : E.length <= x) (h : Fr S0 w0 w (.iY x gs E :: es)) : Fr S0 w0 w (.eO [] gs E :: es) := h.conv (fun h t ht _ => h t ht (by omega)) (fun b ⟨t, ht, _, e⟩ => ⟨t, ht, by omega, e⟩) (fun _ => rfl)
theorem Fr.rwoT {t : Nat} (ht : t < E.length) (hto : t ∉ o) (hi : ∀ a b, a < E.length -> b < E.length -> gs.getD a 0 = gs.getD b 0 -> a = b) (h : Fr S0 w0 w (.eO o gs E :: es)) : ∃ ps tl, aK tl /\ ps.length = (E.getD t []).length /\ Fr S0 w0 w (.row (gs.getD t 0) 37 (rn ps tl) :: .ns ps (E.getD t []) :: .eO (t :: o) gs E :: es) := by
 have hF : vA o gs E w := h.m0;obtain ⟨ps, tl, hn, hr, hns⟩ := hF t ht hto;refine ⟨ps, tl, hn, hns.1, h.om (X := [.row (gs.getD t 0) 37 (rn ps tl), .ns ps (E.getD t []), .eO (t :: o) gs E]) rfl (fun x hx => ?_) ?_⟩
 . simp only [List.mem_cons, List.mem_nil_iff, or_false] at hx;rcases hx with rfl | rfl | rfl
   . exact ⟨hr, fun b e => ⟨t, ht, hto, e⟩⟩
   . exact ⟨hns, fun _ h => h.elim⟩
   . exact ⟨fun s hs hso => hF s hs fun q => hso (List.mem_cons_of_mem _ q), fun b ⟨s, hs, hso, e⟩ => ⟨s, hs, fun q => hso (List.mem_cons_of_mem _ q), e⟩⟩
 . have hne : ∀ b, (∃ s, s < E.length /\ s ∉ t :: o /\ b = gs.getD s 0) -> b ≠ gs.getD t 0 := fun b ⟨s, hs, hso, e⟩ e' => hso (by rw [hi s t hs ht (e.symm.trans e')]; exact List.mem_cons_self ..);refine .cons (fun x hx => ?_) (.cons (fun x hx => ?_) (.cons (fun x hx => (List.not_mem_nil hx).elim) .nil))
   . simp only [List.mem_cons, List.mem_nil_iff, or_false] at hx;rcases hx with rfl | rfl
     . exact ⟨fun _ _ _ h => h, fun q => nomatch q⟩
     . exact ⟨fun _ b hb hb' => hne b hb' hb, fun _ b hb' hb => hne b hb' hb⟩
   . simp only [List.mem_cons, List.mem_nil_iff, or_false] at hx;rcases hx with rfl;exact ⟨(fun q => nomatch q), fun _ _ _ h => h⟩
theorem Fr.qU {t : Nat} {ps : List P4} {tl : List Value} {xs : List Int} (ht : t < E.length) (hto : t ∉ o) (hn : aK tl)
 (h : Fr S0 w0 w (.row (gs.getD t 0) 37 (rn ps tl) :: .ns ps xs :: .eO (t :: o) gs E :: es)) : Fr S0 w0 w (.eO o gs (E.set t xs) :: es) := by
 have hr : aa w (gs.getD t 0) 37 (rn ps tl) := h.m0;have hns : bX w ps xs := h.m1;have hF : vA (t :: o) gs E w := h.m2;refine Fr.uc (X := [.row (gs.getD t 0) 37 (rn ps tl), .ns ps xs, .eO (t :: o) gs E]) h (fun s hs hso => ?_) fun b ⟨s, hs, hso, e⟩ => ?_
 . rw [List.length_set] at hs;by_cases q : s = t
   . subst q;exact ⟨ps, tl, hn, hr, by rw [show (E.set s xs).getD s [] = xs by simp [ht]]; exact hns⟩
   . obtain ⟨ps', tl', a1, a2, a3⟩ := hF s hs (by simp [q, hso]);exact ⟨ps', tl', a1, a2, by rw [show (E.set t xs).getD s [] = E.getD s [] by simp [List.getElem?_set_ne (fun e => q e.symm)]]; exact a3⟩
 . rw [List.length_set] at hs;by_cases q : s = t
   . subst q; exact ⟨.row (gs.getD s 0) 37 (rn ps tl), by simp, rfl, e⟩
   . exact ⟨.eO (t :: o) gs E, by simp, rfl, s, hs, by simp [q, hso], e⟩
theorem Fr.rwoP {gs' : List Nat} {E' : List (List Int)} (f : Nat -> Nat) (hl : E'.length = E.length) (hf : ∀ t, t < E.length -> f t < E.length) (hg : ∀ t, t < E.length -> gs'.getD t 0 = gs.getD (f t) 0) (hE : ∀ t, t < E.length -> E'.getD t [] = E.getD (f t) []) (h : Fr S0 w0 w (.eO [] gs E :: es)) : Fr S0 w0 w (.eO [] gs' E' :: es) :=
 h.conv (fun h t ht _ => by rw [hl] at ht; rw [hg t ht, hE t ht]; exact h (f t) (hf t ht) (by simp)) (fun b ⟨t, ht, _, e⟩ => by rw [hl] at ht; exact ⟨f t, hf t ht, by simp, by rw [e, hg t ht]⟩) (fun _ => rfl)
end
section
variable {P : Program} {Q : Exit -> Act -> World -> Prop} {ds : List Deferred} {S0 : Nat -> Prop} {w0 : World} {n : Nat} {ls : List (Nat × Value)} {es : List En} {c : Code} {gs o : List Nat} {E : List (List Int)}
theorem vC (t : Nat) (ht : t < E.length) (hto : t ∉ o) (hi : ∀ a b, a < E.length -> b < E.length -> gs.getD a 0 = gs.getD b 0 -> a = b) (k : ∀ g ps tl, gs.getD t 0 = g -> aK tl -> ps.length = (E.getD t []).length -> fg ds P n S0 w0 c Q ls (.row g 37 (rn ps tl) :: .ns ps (E.getD t []) :: .eO (t :: o) gs E :: es)) : fg ds P n S0 w0 c Q ls (.eO o gs E :: es) := fun a w ha hw => by
 obtain ⟨ps, tl, h1, h2, h3⟩ := hw.rwoT ht hto hi;exact k _ ps tl rfl h1 h2 a w ha h3
theorem xY {es' : List En} (h : ∀ w, Fr S0 w0 w es -> Fr S0 w0 w es') (k : fg ds P n S0 w0 c Q ls es') : fg ds P n S0 w0 c Q ls es := fun a w ha hw => k a w ha (h w hw)
theorem y9 {A : Prop} (hA : ∀ w, Fr S0 w0 w es -> A) (k : A -> fg ds P n S0 w0 c Q ls es) : fg ds P n S0 w0 c Q ls es := fun a w ha hw => k (hA w hw) a w ha hw
end
def qd {α : Type} (l : List α) (k p : Nat) (d : α) : List α := (l.set p (l.getD k d)).set k (l.getD p d)
theorem mG {α : Type} (l : List α) (k p : Nat) (d : α) : (qd l k p d).length = l.length := by simp [qd]
theorem Fr.rlF {S0 : Nat -> Prop} {w0 w : World} {es : List En} (h : Fr S0 w0 w es) {ao : Option Addr} {cs : List Value} (hx : rX ao cs w) (hS : ∀ e ∈ es, e.wr = false) : Fr S0 w0 w (.rl ao cs :: es) :=
 h.cons hx (fun e he => ⟨(fun q => nomatch q), fun q => by rw [hS e he] at q; cases q⟩) (fun q => nomatch q)
theorem rX.below {ao : Option Addr} {cs : List Value} {w w' : World} (h : rX ao cs w) (hb : Below w.heap.size w w') : rX ao cs w' := fun hl => by
 obtain ⟨b, e, hlt, hc⟩ := h hl;exact ⟨b, e, Nat.lt_of_lt_of_le hlt hb.size, fun i v hv => (hb.cell (p := ⟨b, i, none⟩) hlt).trans (hc i v hv)⟩
end Go.Proofs.YtjjlmfmoihooiaaGreat
