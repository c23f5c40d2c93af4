/- Part 5 of 7 of the proof that the law HnfUnique returns true for every input of bulk at most 1048576 and leaves its arguments as they were: here the contracts of the functions that it calls, and plain lemmas. -/
import Derived.Test.YtknkkceioockjaaGreatRows
import Derived.WalkKit
import Derived.ProofKit
import Derived.OpenShut
import Derived.JoinedCond
import Derived.Carry
import Derived.Deep.Slices
import Derived.Lib.SmallJoins
import Derived.RangeFuncNested
import Derived.RangeFuncBound
import Derived.RangeFuncCalls
import Derived.RangeFuncLeaves
import Derived.Shelf.Abstract
import Derived.Shelf.RegionOpen
import Derived.OwnWalkIn
import Derived.TacticsInMore
import Derived.LoopNIn
import Derived.LoopIn
import Derived.Maps.AppendAt
import Derived.Test.YtknkkceioockjaaGreatPuD
set_option linter.all false
namespace Go.Proofs.YtknkkceioockjaaGreat
open Go.RowKit
theorem IExtF_c (v u : Value) (a b : Int) (w : World) (hA : IntAt w 4398046511103 v a) (hB : IntAt w 4398046511103 u b) :
 Calls Tryz.prog 172 #[v, u] w fun e w' => (∃ vg vx vy, e = .returned (.tuple #[vg, vx, vy]) /\ OwnI w' w.heap.size vg (extG a b) /\ OwnI w' w.heap.size vx (extX a b) /\ OwnI w' w.heap.size vy (extY a b)) /\ Below w.heap.size w w' := by
 refine (IExt_c v u a b w hA hB).mono ?_
 rintro e w' ⟨⟨g, x, y, vg, vx, vy, rfl, hE, h1, h2, h3⟩, hb⟩
 obtain ⟨rfl, rfl, rfl⟩ := hE.unique (ext_is a b)
 exact ⟨⟨vg, vx, vy, rfl, h1, h2, h3⟩, hb⟩
theorem fmod_wlen {x y : Int} {B : Nat} (hy : y ≠ 0) (h : wlen y.natAbs <= B) : wlen (x.fmod y).natAbs <= B := by
 refine Nat.le_trans (wlen_mono ?_) h
 have h1 := Int.emod_nonneg x hy
 have h2 := Int.emod_lt x hy
 rw [Int.fmod_eq_emod]
 split <;> omega
theorem extG_dvd (a b : Int) : extG a b ∣ a /\ extG a b ∣ b /\ (a ≠ 0 -> extG a b ≠ 0) /\ 0 <= extG a b := by
 have h := ext_is a b
 unfold ExtIs at h
 by_cases hb : b = 0
 · rw [if_pos hb] at h
   rw [h.1, hb]
   refine ⟨Int.natAbs_dvd.2 (Int.dvd_refl a), Int.dvd_zero _, fun ha => by omega, by omega⟩
 · rw [if_neg hb] at h
   rw [h.1]
   refine ⟨Int.gcd_dvd_left .., Int.gcd_dvd_right .., fun ha h0 => ?_, by omega⟩
   have : Int.gcd a b = 0 := by omega
   exact ha (Int.gcd_eq_zero_iff.1 this).1
theorem extX_le (a b : Int) : (extX a b).natAbs <= b.natAbs + 1 := by
 have h := ext_is a b
 have hg := extG_dvd a b
 unfold ExtIs at h
 by_cases hb : b = 0
 · rw [if_pos hb] at h
   rw [h.2.1]
   have := Int.natAbs_sign a
   rcases Int.lt_trichotomy a 0 with h1 | h1 | h1
   · rw [Int.sign_eq_neg_one_of_neg h1]; simp
   · subst h1; simp
   · rw [Int.sign_eq_one_of_pos h1]; simp
 · rw [if_neg hb] at h
   obtain ⟨h1, h2, h3, h4⟩ := h
   have hg1 : 1 <= extG a b := by
    have h0 : extG a b ≠ 0 := by
     rw [h1]; intro h0
     have : Int.gcd a b = 0 := by omega
     exact hb (Int.gcd_eq_zero_iff.1 this).2
    have := hg.2.2.2
    omega
   have : extX a b * 1 <= extX a b * extG a b := Int.mul_le_mul_of_nonneg_left hg1 h2
   omega
theorem extY_le (a b : Int) : (extY a b).natAbs <= a.natAbs + 1 := by
 have h := ext_is a b
 have hx := extX_le a b
 unfold ExtIs at h
 by_cases hb : b = 0
 · rw [if_pos hb] at h
   rw [h.2.2]; simp
 · rw [if_neg hb] at h
   obtain ⟨h1, h2, h3, h4⟩ := h
   have hg := (extG_dvd a b).2.2.2
   have hgb : (extG a b).natAbs <= b.natAbs := by
    rw [h1]
    simp only [Int.natAbs_natCast]
    exact Nat.le_of_dvd (by omega) (Int.natAbs_dvd_natAbs.2 (Int.gcd_dvd_right a b) |> fun h => by simpa using h)
   have hg1 : 1 <= extG a b := by
    have h0 : extG a b ≠ 0 := by
     rw [h1]; intro h0
     have : Int.gcd a b = 0 := by omega
     exact hb (Int.gcd_eq_zero_iff.1 this).2
    omega
   have hxl : (extX a b).natAbs <= b.natAbs := by
    have : extX a b * 1 <= extX a b * extG a b := Int.mul_le_mul_of_nonneg_left hg1 h2
    omega
   have h5 : b * extY a b = extG a b - a * extX a b := by omega
   have h6 : b.natAbs * (extY a b).natAbs <= b.natAbs * (a.natAbs + 1) := by
    rw [<- Int.natAbs_mul, h5]
    have h7 : (extG a b - a * extX a b).natAbs <= (extG a b).natAbs + (a * extX a b).natAbs := Int.natAbs_sub_le ..
    have h8 : (a * extX a b).natAbs <= a.natAbs * b.natAbs := by rw [Int.natAbs_mul]; exact Nat.mul_le_mul_left _ hxl
    rw [Nat.mul_add, Nat.mul_one, Nat.mul_comm b.natAbs a.natAbs]
    omega
   exact Nat.le_of_mul_le_mul_left h6 (by omega)
theorem wlen_succ {n m B : Nat} (h : n <= m + 1) (hm : wlen m <= B) : wlen n <= B + 2 := by
 have h3 := wlen_mono h
 have h4 := wlen_add m 1
 have h5 : wlen 1 <= 1 := wlen_le_of_lt (by decide)
 have h6 : max (wlen m) (wlen 1) <= B + 1 := Nat.max_le.2 ⟨by omega, by omega⟩
 omega
def mixT (R : List Hd) (i j : Nat) (a b c d : Int) : List Hd := if h : i < R.length /\ j < R.length then mixR R i j a b c d h.1 h.2 else R
theorem mixT_eq {R : List Hd} {i j : Nat} {a b c d : Int} (hi : i < R.length) (hj : j < R.length) : mixT R i j a b c d = mixR R i j a b c d hi hj := by unfold mixT; rw [dif_pos ⟨hi, hj⟩]
def meetA (R : List Hd) (k n j : Nat) : List Hd := addT R n k (-((ent R n j).fdiv (ent R k j)))
def meetT (R : List Hd) (k n j : Nat) : List Hd :=
 if (ent R n j).fmod (ent R k j) = 0 then meetA R k n j
 else mixT (meetA R k n j) k n (extX (ent (meetA R k n j) k j) (ent (meetA R k n j) n j)) (extY (ent (meetA R k n j) k j) (ent (meetA R k n j) n j))
  (-(ent (meetA R k n j) n j / extG (ent (meetA R k n j) k j) (ent (meetA R k n j) n j))) (ent (meetA R k n j) k j / extG (ent (meetA R k n j) k j) (ent (meetA R k n j) n j))
def AV.int4 (B : Nat) (a b c d : Int) : AV := ⟨fun w v => ∃ p q r s : P4, v = .agg #[.bool p.1, .slice p.2.1 p.2.2.1 p.2.2.2, .bool q.1, .slice q.2.1 q.2.2.1 q.2.2.2, .bool r.1, .slice r.2.1 r.2.2.1 r.2.2.2, .bool s.1, .slice s.2.1 s.2.2.1 s.2.2.2] /\ OwnI w B (av p) a /\ OwnI w B (av q) b /\ OwnI w B (av r) c /\ OwnI w B (av s) d,
 fun ⟨p, q, r, s, e, h1, h2, h3, h4⟩ hb => ⟨p, q, r, s, e, OwnI.below h1 hb, OwnI.below h2 hb, OwnI.below h3 hb, OwnI.below h4 hb⟩,
 fun ⟨p, q, r, s, e, h1, h2, h3, h4⟩ hr _ ht k u _ => ⟨p, q, r, s, e, OwnI.setRow h1 hr ht k u, OwnI.setRow h2 hr ht k u, OwnI.setRow h3 hr ht k u, OwnI.setRow h4 hr ht k u⟩⟩
theorem RowAt.ownBlock {w : World} {g : Nat} {t : TypeId} {cs : List Value} (h : RowAt w g t cs) {g' : Nat} {cur : Array Value} (hg : w.heap[g']? = some (.cells cur 49 (0, 0))) (ht : t ≠ 49) : g' ≠ g := by
 rintro rfl
 unfold RowAt at h
 rw [hg] at h
 simp only [Option.some.injEq, Obj.cells.injEq] at h
 exact ht h.2.1.symm
theorem LadAt.ownTyped {w : World} {S : LSt} (h : LadAt w S) : ∀ g, S.own g -> ∃ t cs, RowAt w g t cs /\ t ≠ 49 := by
 intro g hg
 rcases hg with rfl | ⟨r, hr, rfl⟩
 · exact ⟨_, _, h.mat.out, by decide⟩
 · obtain ⟨ps, hp, _⟩ := h.mat.row r hr
   exact ⟨_, _, hp, by decide⟩
theorem Chg.ownI {S : Nat -> Prop} {w w' : World} (h : Chg S w w') (hS : ∀ g, S g -> ∃ t cs, RowAt w g t cs /\ t ≠ 49) {B : Nat} {v : Value} {x : Int} (hx : OwnI w B v x) : OwnI w' B v x := by
 obtain ⟨ao, cap, rfl, h1, h2, h3, h4⟩ := hx
 refine ⟨ao, cap, rfl, h1, h2, h3, ?_⟩
 rcases h4 with h0 | ⟨g, c, cur, hv, hbb, hg, r⟩
 · exact .inl h0
 · refine .inr ⟨g, c, cur, hv, hbb, ?_, r⟩
   rw [h.block g (Array.getElem?_eq_some_iff.1 hg).1 (fun hs => by obtain ⟨t, cs, hr, ht⟩ := hS g hs; exact hr.ownBlock hg ht rfl)]
   exact hg
set_option maxRecDepth 100000 in
set_option maxHeartbeats 8000000 in
theorem Meet_c (S : LSt) (k n j B c : Nat) (w : World) (h : LadAt w S) (hk : k < S.R.length) (hn : n < S.R.length) (hkn : k ≠ n) (hj : j < c) (hB : B <= 4000000000000) (hF : Fit B c S.R) (hF1 : Fit B c (meetA S.R k n j)) (hp : ent S.R k j ≠ 0) (hp1 : ent (meetA S.R k n j) k j ≠ 0) (hR : S.R.length <= 1000000) (hc : c <= 1000000) :
 Calls Tryz.prog 152 #[.pointer (some ⟨S.lb, 0, none⟩), .int .i64 (k : Int), .int .i64 (n : Int), .int .i64 (j : Int)] w fun e w' => e = .returned (.tuple #[]) /\ LadAt w' (S.withR (meetT S.R k n j)) /\ Chg S.own w w' := by
 have HL := Lib.hid h; clear h
 have HF := Lib.hid hF; clear hF
 have HF1 := Lib.hid hF1; clear hF1
 have HP := Lib.hid hp; clear hp
 have HP1 := Lib.hid hp1; clear hp1
 go_enter Tryz.func152, Tryz.ntmps152
 have cb : w.cell? ⟨S.lb, 0, none⟩ = some (.slice (some ⟨S.o, 0, none⟩) S.R.length S.cap) := HL.out.lad.cell 0
 have ci : w.cell? ⟨S.o, n, none⟩ = some (.slice (some ⟨S.R[n].blk, 0, none⟩) S.R[n].xs.length S.R[n].cap) := HL.out.mat.hdr (i := n) hn
 have ck : w.cell? ⟨S.o, k, none⟩ = some (.slice (some ⟨S.R[k].blk, 0, none⟩) S.R[k].xs.length S.R[k].cap) := HL.out.mat.hdr (i := k) hk
 have hXi := HL.out.mat.row _ (List.getElem_mem (l := S.R) hn)
 have hXk := HL.out.mat.row _ (List.getElem_mem (l := S.R) hk)
 have hjl : j < S.R[n].xs.length := by rw [HF.out.len _ (List.getElem_mem hn)]; exact hj
 have hjk : j < S.R[k].xs.length := by rw [HF.out.len _ (List.getElem_mem hk)]; exact hj
 have hjl1 : (j : Int) < (S.R[n].xs.length : Int) := by omega
 have hjk1 : (j : Int) < (S.R[k].xs.length : Int) := by omega
 have hi1 : (n : Int) < (S.R.length : Int) := by omega
 have hk1 : (k : Int) < (S.R.length : Int) := by omega
 obtain ⟨pi, ci0, ci1, hni⟩ := hXi.get hjl
 obtain ⟨pk, ck0, ck1, hnk⟩ := hXk.get hjk
 have hwi : wlen (S.R[n].xs[j]).natAbs <= B := HF.out.fit _ (List.getElem_mem hn) _ (List.getElem_mem hjl)
 have hwk : wlen (S.R[k].xs[j]).natAbs <= B := HF.out.fit _ (List.getElem_mem hk) _ (List.getElem_mem hjk)
 obtain ⟨xi, hxi⟩ : ∃ xi, S.R[n].xs[j] = xi := ⟨_, rfl⟩
 obtain ⟨xk, hxk⟩ : ∃ xk, S.R[k].xs[j] = xk := ⟨_, rfl⟩
 rw [hxi] at hni hwi
 rw [hxk] at hnk hwk
 have Hxi := Lib.hid ((ent_eq hn hjl).trans hxi); clear hxi
 have Hxk := Lib.hid ((ent_eq hk hjk).trans hxk); clear hxk
 have sb1 := hXi.lt
 have sb2 := hXk.lt
 have sb3 : S.lb < w.heap.size := HL.out.lad.lt
 have sb4 : S.o < w.heap.size := HL.out.mat.out.lt
 clear hXi hXk
 have hpz : xk ≠ 0 := by have := HP.out; rw [Hxk.out] at this; exact this
 have Hpz := Lib.hid hpz; clear hpz
 have Hni := Lib.hid (hni.int (L := 17592186044415) (by omega))
 have Hnk := Lib.hid (hnk.int (L := 17592186044415) (by omega))
 clear hni hnk
 go_wp2
 refine wp_region_J ⟨30, fun q_ => [21, 22, 23, 24, 25, 26, 27, 28, 29, 30, 31, 32, 33, 34, 35, 36, 37, 38, 39, 40, 41, 20, 42, 43, 44, 8, 9, 1027, 1028, 10].getD q_ 0,
  fun q_ => [.val (.pointer (some ⟨S.lb, 0, none⟩)), .val (.pointer (some ⟨S.lb, 0, none⟩)), .val (.pointer (some ⟨S.lb, 0, none⟩)), .val (.slice (some ⟨S.o, 0, none⟩) S.R.length S.cap), .val (.int .i64 (n : Int)), .val (.pointer (some ⟨S.o, n, none⟩)), .val (.slice (some ⟨S.R[n].blk, 0, none⟩) S.R[n].xs.length S.R[n].cap), .val (.int .i64 (j : Int)), .val (.pointer (some ⟨S.R[n].blk, j * 2, none⟩)), .val (.agg #[.bool pi.1, .slice pi.2.1 pi.2.2.1 pi.2.2.2]), .val (.pointer (some ⟨S.lb, 0, none⟩)), .val (.pointer (some ⟨S.lb, 0, none⟩)), .val (.pointer (some ⟨S.lb, 0, none⟩)), .val (.slice (some ⟨S.o, 0, none⟩) S.R.length S.cap), .val (.int .i64 (k : Int)), .val (.pointer (some ⟨S.o, k, none⟩)), .val (.slice (some ⟨S.R[k].blk, 0, none⟩) S.R[k].xs.length S.R[k].cap), .val (.int .i64 (j : Int)), .val (.pointer (some ⟨S.R[k].blk, j * 2, none⟩)), .val (.agg #[.bool pk.1, .slice pk.2.1 pk.2.2.1 pk.2.2.2]), .tup2 0 (xi.fdiv xk) (xi.fmod xk), .tup2 0 (xi.fdiv xk) (xi.fmod xk), .int 0 (xi.fdiv xk), .int 0 (xi.fmod xk), .val (.int .i64 0), .ptr w.heap.size 45 2, .ptr w.heap.size 45 2, .any, .any, .val (.int .i64 0)].getD q_ .any,
  [],
  [(.agg #[.bool pi.1, .slice pi.2.1 pi.2.2.1 pi.2.2.2], .at_ 17592186044415 xi), (.agg #[.bool pk.1, .slice pk.2.1 pk.2.2.1 pk.2.2.2], .at_ 17592186044415 xk)],
  [],
  [(27, 8, 45, .int 0 (xi.fdiv xk)), (28, 9, 45, .int 0 (xi.fmod xk))], [(⟨S.lb, 0, none⟩, .slice (some ⟨S.o, 0, none⟩) S.R.length S.cap), (⟨S.o, n, none⟩, .slice (some ⟨S.R[n].blk, 0, none⟩) S.R[n].xs.length S.R[n].cap), (⟨S.o, k, none⟩, .slice (some ⟨S.R[k].blk, 0, none⟩) S.R[k].xs.length S.R[k].cap), (⟨S.R[n].blk, j * 2, none⟩, .bool pi.1), (⟨S.R[n].blk, j * 2 + 1, none⟩, .slice pi.2.1 pi.2.2.1 pi.2.2.2), (⟨S.R[k].blk, j * 2, none⟩, .bool pk.1), (⟨S.R[k].blk, j * 2 + 1, none⟩, .slice pk.2.1 pk.2.2.1 pk.2.2.2)], [(25, 8), (26, 9)]⟩ [21, 22, 23, 24, 25, 26, 27, 28, 29, 30, 31, 32, 33, 34, 35, 36, 37, 38, 39, 40, 41, 20, 42, 43, 44, 8, 9, 10] (w.heap.size) (by kernel_rfl) (by kernel_rfl) (by kernel_rfl) (by kernel_rfl) ?_ ?_ ?_ ?_ ?_ ?_
 · intro p hp
   rcases mc hp with rfl | hp
   · exact Hni.out
   rcases mc hp with rfl | hp
   · exact Hnk.out
   cases hp
 · intro p hp
   cases hp
 · intro p hp
   rcases mc hp with rfl | hp
   · refine ⟨cb, by show S.lb < w.heap.size; omega, ?_⟩
     intro t ht
     cases ht
   rcases mc hp with rfl | hp
   · refine ⟨ci, by show S.o < w.heap.size; omega, ?_⟩
     intro t ht
     cases ht
   rcases mc hp with rfl | hp
   · refine ⟨ck, by show S.o < w.heap.size; omega, ?_⟩
     intro t ht
     cases ht
   rcases mc hp with rfl | hp
   · refine ⟨ci0, by show S.R[n].blk < w.heap.size; omega, ?_⟩
     intro t ht
     cases ht
   rcases mc hp with rfl | hp
   · refine ⟨ci1, by show S.R[n].blk < w.heap.size; omega, ?_⟩
     intro t ht
     cases ht
   rcases mc hp with rfl | hp
   · refine ⟨ck0, by show S.R[k].blk < w.heap.size; omega, ?_⟩
     intro t ht
     cases ht
   rcases mc hp with rfl | hp
   · refine ⟨ck1, by show S.R[k].blk < w.heap.size; omega, ?_⟩
     intro t ht
     cases ht
   cases hp
 · intro t ht
   cases ht
 · refine allc ?_ (allc ?_ (allc ?_ (allc ?_ (allc ?_ (allc ?_ (allc ?_ (allc ?_ (allc ?_ (allc ?_ (allc ?_ (allc ?_ (allc ?_ (allc ?_ (allc ?_ (allc ?_ (allc ?_ (allc ?_ (allc ?_ (allc ?_ (allc ?_ (allc ?_ (allc ?_ (allc ?_ (allc ?_ (allc ?_ (allc ?_ (allc ?_ (allc ?_ (allc ?_ alln)))))))))))))))))))))))))))))
   · intro L fx w' hJ hL hp hcl
     refine wpOp_step rfl (fun K hK => ?_)
     simp only [pN, Nat.reduceEqDiff, ↓reduceIte]
     go_simp
     exact hK _ _ ⟨_, by kernel_rfl, hJ.pC 0 rfl (by kernel_rfl) rfl (by omega)⟩
   · intro L fx w' hJ hL hp hcl
     have e0 := hJ.pt 0 21 (.pointer (some ⟨S.lb, 0, none⟩)) rfl rfl rfl (hp 0 (by decide))
     rw [e0] at hJ ⊢; clear e0
     refine wpOp_step rfl (fun K hK => ?_)
     simp only [pN, Nat.reduceEqDiff, ↓reduceIte]
     go_simp
     exact hK _ _ ⟨_, by kernel_rfl, hJ.pC 1 rfl (by kernel_rfl) rfl (by omega)⟩
   · intro L fx w' hJ hL hp hcl
     have e1 := hJ.pt 1 22 (.pointer (some ⟨S.lb, 0, none⟩)) rfl rfl rfl (hp 1 (by decide))
     rw [e1] at hJ ⊢; clear e1
     refine wpOp_step rfl (fun K hK => ?_)
     simp only [pN, Nat.reduceEqDiff, ↓reduceIte]
     go_simp
     exact hK _ _ ⟨_, by kernel_rfl, hJ.pC 2 rfl (by kernel_rfl) rfl (by omega)⟩
   · intro L fx w' hJ hL hp hcl
     have e2 := hJ.pt 2 23 (.pointer (some ⟨S.lb, 0, none⟩)) rfl rfl rfl (hp 2 (by decide))
     rw [e2] at hJ ⊢; clear e2
     refine wpOp_step rfl (fun K hK => ?_)
     simp only [pN, Nat.reduceEqDiff, ↓reduceIte]
     have cl0 := (hJ.cells _ mm0).1
     try dsimp only at cl0
     go_simp
     exact hK _ _ ⟨_, by kernel_rfl, hJ.pC 3 rfl (by kernel_rfl) rfl (by omega)⟩
   · intro L fx w' hJ hL hp hcl
     refine wpOp_step rfl (fun K hK => ?_)
     simp only [pN, Nat.reduceEqDiff, ↓reduceIte]
     go_simp
     exact hK _ _ ⟨_, by kernel_rfl, hJ.pC 4 rfl (by kernel_rfl) rfl (by omega)⟩
   · intro L fx w' hJ hL hp hcl
     have e3 := hJ.pt 3 24 (.slice (some ⟨S.o, 0, none⟩) S.R.length S.cap) rfl rfl rfl (hp 3 (by decide))
     rw [e3] at hJ ⊢; clear e3
     have e4 := hJ.pt 4 25 (.int .i64 (n : Int)) rfl rfl rfl (hp 4 (by decide))
     rw [e4] at hJ ⊢; clear e4
     refine wpOp_step rfl (fun K hK => ?_)
     simp only [pN, Nat.reduceEqDiff, ↓reduceIte]
     go_simp
     exact hK _ _ ⟨_, by kernel_rfl, hJ.pC 5 rfl (by kernel_rfl) rfl (by omega)⟩
   · intro L fx w' hJ hL hp hcl
     have e5 := hJ.pt 5 26 (.pointer (some ⟨S.o, n, none⟩)) rfl rfl rfl (hp 5 (by decide))
     rw [e5] at hJ ⊢; clear e5
     refine wpOp_step rfl (fun K hK => ?_)
     simp only [pN, Nat.reduceEqDiff, ↓reduceIte]
     have cl0 := (hJ.cells _ mm1).1
     try dsimp only at cl0
     go_simp
     exact hK _ _ ⟨_, by kernel_rfl, hJ.pC 6 rfl (by kernel_rfl) rfl (by omega)⟩
   · intro L fx w' hJ hL hp hcl
     refine wpOp_step rfl (fun K hK => ?_)
     simp only [pN, Nat.reduceEqDiff, ↓reduceIte]
     go_simp
     exact hK _ _ ⟨_, by kernel_rfl, hJ.pC 7 rfl (by kernel_rfl) rfl (by omega)⟩
   · intro L fx w' hJ hL hp hcl
     have e6 := hJ.pt 6 27 (.slice (some ⟨S.R[n].blk, 0, none⟩) S.R[n].xs.length S.R[n].cap) rfl rfl rfl (hp 6 (by decide))
     rw [e6] at hJ ⊢; clear e6
     have e7 := hJ.pt 7 28 (.int .i64 (j : Int)) rfl rfl rfl (hp 7 (by decide))
     rw [e7] at hJ ⊢; clear e7
     refine wpOp_step rfl (fun K hK => ?_)
     simp only [pN, Nat.reduceEqDiff, ↓reduceIte]
     go_simp
     exact hK _ _ ⟨_, by kernel_rfl, hJ.pC 8 rfl (by kernel_rfl) rfl (by omega)⟩
   · intro L fx w' hJ hL hp hcl
     have e8 := hJ.pt 8 29 (.pointer (some ⟨S.R[n].blk, j * 2, none⟩)) rfl rfl rfl (hp 8 (by decide))
     rw [e8] at hJ ⊢; clear e8
     refine wpOp_step rfl (fun K hK => ?_)
     simp only [pN, Nat.reduceEqDiff, ↓reduceIte]
     have cl0 := (hJ.cells _ mm3).1
     have cl1 := (hJ.cells _ mm4).1
     try dsimp only at cl0 cl1
     go_simp
     exact hK _ _ ⟨_, by kernel_rfl, hJ.pC 9 rfl (by kernel_rfl) rfl (by omega)⟩
   · intro L fx w' hJ hL hp hcl
     refine wpOp_step rfl (fun K hK => ?_)
     simp only [pN, Nat.reduceEqDiff, ↓reduceIte]
     go_simp
     exact hK _ _ ⟨_, by kernel_rfl, hJ.pC 10 rfl (by kernel_rfl) rfl (by omega)⟩
   · intro L fx w' hJ hL hp hcl
     have e10 := hJ.pt 10 31 (.pointer (some ⟨S.lb, 0, none⟩)) rfl rfl rfl (hp 10 (by decide))
     rw [e10] at hJ ⊢; clear e10
     refine wpOp_step rfl (fun K hK => ?_)
     simp only [pN, Nat.reduceEqDiff, ↓reduceIte]
     go_simp
     exact hK _ _ ⟨_, by kernel_rfl, hJ.pC 11 rfl (by kernel_rfl) rfl (by omega)⟩
   · intro L fx w' hJ hL hp hcl
     have e11 := hJ.pt 11 32 (.pointer (some ⟨S.lb, 0, none⟩)) rfl rfl rfl (hp 11 (by decide))
     rw [e11] at hJ ⊢; clear e11
     refine wpOp_step rfl (fun K hK => ?_)
     simp only [pN, Nat.reduceEqDiff, ↓reduceIte]
     go_simp
     exact hK _ _ ⟨_, by kernel_rfl, hJ.pC 12 rfl (by kernel_rfl) rfl (by omega)⟩
   · intro L fx w' hJ hL hp hcl
     have e12 := hJ.pt 12 33 (.pointer (some ⟨S.lb, 0, none⟩)) rfl rfl rfl (hp 12 (by decide))
     rw [e12] at hJ ⊢; clear e12
     refine wpOp_step rfl (fun K hK => ?_)
     simp only [pN, Nat.reduceEqDiff, ↓reduceIte]
     have cl0 := (hJ.cells _ mm0).1
     try dsimp only at cl0
     go_simp
     exact hK _ _ ⟨_, by kernel_rfl, hJ.pC 13 rfl (by kernel_rfl) rfl (by omega)⟩
   · intro L fx w' hJ hL hp hcl
     refine wpOp_step rfl (fun K hK => ?_)
     simp only [pN, Nat.reduceEqDiff, ↓reduceIte]
     go_simp
     exact hK _ _ ⟨_, by kernel_rfl, hJ.pC 14 rfl (by kernel_rfl) rfl (by omega)⟩
   · intro L fx w' hJ hL hp hcl
     have e13 := hJ.pt 13 34 (.slice (some ⟨S.o, 0, none⟩) S.R.length S.cap) rfl rfl rfl (hp 13 (by decide))
     rw [e13] at hJ ⊢; clear e13
     have e14 := hJ.pt 14 35 (.int .i64 (k : Int)) rfl rfl rfl (hp 14 (by decide))
     rw [e14] at hJ ⊢; clear e14
     refine wpOp_step rfl (fun K hK => ?_)
     simp only [pN, Nat.reduceEqDiff, ↓reduceIte]
     go_simp
     exact hK _ _ ⟨_, by kernel_rfl, hJ.pC 15 rfl (by kernel_rfl) rfl (by omega)⟩
   · intro L fx w' hJ hL hp hcl
     have e15 := hJ.pt 15 36 (.pointer (some ⟨S.o, k, none⟩)) rfl rfl rfl (hp 15 (by decide))
     rw [e15] at hJ ⊢; clear e15
     refine wpOp_step rfl (fun K hK => ?_)
     simp only [pN, Nat.reduceEqDiff, ↓reduceIte]
     have cl0 := (hJ.cells _ mm2).1
     try dsimp only at cl0
     go_simp
     exact hK _ _ ⟨_, by kernel_rfl, hJ.pC 16 rfl (by kernel_rfl) rfl (by omega)⟩
   · intro L fx w' hJ hL hp hcl
     refine wpOp_step rfl (fun K hK => ?_)
     simp only [pN, Nat.reduceEqDiff, ↓reduceIte]
     go_simp
     exact hK _ _ ⟨_, by kernel_rfl, hJ.pC 17 rfl (by kernel_rfl) rfl (by omega)⟩
   · intro L fx w' hJ hL hp hcl
     have e16 := hJ.pt 16 37 (.slice (some ⟨S.R[k].blk, 0, none⟩) S.R[k].xs.length S.R[k].cap) rfl rfl rfl (hp 16 (by decide))
     rw [e16] at hJ ⊢; clear e16
     have e17 := hJ.pt 17 38 (.int .i64 (j : Int)) rfl rfl rfl (hp 17 (by decide))
     rw [e17] at hJ ⊢; clear e17
     refine wpOp_step rfl (fun K hK => ?_)
     simp only [pN, Nat.reduceEqDiff, ↓reduceIte]
     go_simp
     exact hK _ _ ⟨_, by kernel_rfl, hJ.pC 18 rfl (by kernel_rfl) rfl (by omega)⟩
   · intro L fx w' hJ hL hp hcl
     have e18 := hJ.pt 18 39 (.pointer (some ⟨S.R[k].blk, j * 2, none⟩)) rfl rfl rfl (hp 18 (by decide))
     rw [e18] at hJ ⊢; clear e18
     refine wpOp_step rfl (fun K hK => ?_)
     simp only [pN, Nat.reduceEqDiff, ↓reduceIte]
     have cl0 := (hJ.cells _ mm5).1
     have cl1 := (hJ.cells _ mm6).1
     try dsimp only at cl0 cl1
     go_simp
     exact hK _ _ ⟨_, by kernel_rfl, hJ.pC 19 rfl (by kernel_rfl) rfl (by omega)⟩
   · intro L fx w' hJ hL hp hcl
     have e9 := hJ.pt 9 30 (.agg #[.bool pi.1, .slice pi.2.1 pi.2.2.1 pi.2.2.2]) rfl rfl rfl (hp 9 (by decide))
     rw [e9] at hJ ⊢; clear e9
     have e19 := hJ.pt 19 40 (.agg #[.bool pk.1, .slice pk.2.1 pk.2.2.1 pk.2.2.2]) rfl rfl rfl (hp 19 (by decide))
     rw [e19] at hJ ⊢; clear e19
     refine wpOp_step rfl (fun K hK => ?_)
     simp only [pN, Nat.reduceEqDiff, ↓reduceIte]
     go_simp
     go_at_call 70
     refine (IFloor_c _ _ xi xk _ (show IntAt w' _ _ _ from hJ.base _ mm0) (show IntAt w' _ _ _ from hJ.base _ mm1) Hpz.out).mono ?_
     rintro e w4 ⟨⟨v5, v6, rfl, h5, h6⟩, hb4⟩
     try dsimp only
     exact hK _ _ ⟨_, by kernel_rfl, hJ.gC 20 rfl (by kernel_rfl) hb4 ⟨_, _, rfl, OwnI.mono h5 (Nat.zero_le _), OwnI.mono h6 (Nat.zero_le _)⟩ (by omega)⟩
   · intro L fx w' hJ hL hp hcl
     have e20 := hJ.slot 20 (by show 20 < 30; decide) (hp 20 (by decide))
     refine wpOp_step rfl (fun K hK => ?_)
     simp only [pN, Nat.reduceEqDiff, ↓reduceIte]
     go_simp
     exact hK _ _ ⟨_, by kernel_rfl, hJ.pC 21 rfl (by kernel_rfl) e20 (by omega)⟩
   · intro L fx w' hJ hL hp hcl
     have e21 := hJ.slot 21 (by show 21 < 30; decide) (hp 21 (by decide))
     obtain ⟨vq, vr, hvt, hq1, hr1⟩ := e21
     rw [patchX (x := fx) (d := 20) (v := (.tuple #[vq, vr, .int .i64 0])) hvt] at hJ ⊢
     refine wpOp_step rfl (fun K hK => ?_)
     simp only [pN, Nat.reduceEqDiff, ↓reduceIte]
     go_simp
     exact hK _ _ ⟨_, by kernel_rfl, hJ.pC 22 rfl (by kernel_rfl) hq1 (by omega)⟩
   · intro L fx w' hJ hL hp hcl
     have e21 := hJ.slot 21 (by show 21 < 30; decide) (hp 21 (by decide))
     obtain ⟨vq, vr, hvt, hq1, hr1⟩ := e21
     rw [patchX (x := fx) (d := 20) (v := (.tuple #[vq, vr, .int .i64 0])) hvt] at hJ ⊢
     refine wpOp_step rfl (fun K hK => ?_)
     simp only [pN, Nat.reduceEqDiff, ↓reduceIte]
     go_simp
     exact hK _ _ ⟨_, by kernel_rfl, hJ.pC 23 rfl (by kernel_rfl) hr1 (by omega)⟩
   · intro L fx w' hJ hL hp hcl
     have e21 := hJ.slot 21 (by show 21 < 30; decide) (hp 21 (by decide))
     obtain ⟨vq, vr, hvt, hq1, hr1⟩ := e21
     rw [patchX (x := fx) (d := 20) (v := (.tuple #[vq, vr, .int .i64 0])) hvt] at hJ ⊢
     refine wpOp_step rfl (fun K hK => ?_)
     simp only [pN, Nat.reduceEqDiff, ↓reduceIte]
     go_simp
     exact hK _ _ ⟨_, by kernel_rfl, hJ.pC 24 rfl (by kernel_rfl) rfl (by omega)⟩
   · intro L fx w' hJ hL hp hcl
     have hg0 : w.heap.size <= w'.heap.size := Nat.le_trans (by omega : w.heap.size <= w.heap.size) hJ.size
     refine wpOp_step rfl (fun K hK => ?_)
     simp only [pN, Nat.reduceEqDiff, ↓reduceIte]
     go_simp
     exact hK _ _ ⟨_, by kernel_rfl, hJ.grow 25 (by show 25 < 30; decide) _ (by kernel_rfl) (by kernel_rfl) (by intro t ht; rcases mc ht with rfl | ht; exact ⟨by show 27 ≠ 25; decide, fun _ => by cases hh : L 27 with | false => rfl | true => have := hcl 27 (by show 27 < 30; decide) hh 25 (by decide); rw [hL] at this; cases this⟩; rcases mc ht with rfl | ht; exact ⟨by show 28 ≠ 25; decide, fun h => absurd (show 9 = 8 from h) (by decide)⟩; cases ht) (by intro p hp; rcases mc hp with rfl | hp; exact ⟨⟨fun _ => rfl, fun _ => rfl⟩, fun _ q hq hne hLq => (by rcases mc hq with rfl | hq; exact absurd rfl hne; rcases mc hq with rfl | hq; (obtain ⟨g9, cs9, hx9, _, hr9, _⟩ := hJ.slot 26 (by show 26 < 30; decide) hLq; have hx9 : fx 9 = _ := hx9; show _ ≠ fx 9; rw [hx9]; intro e9; injection e9 with e9; injection e9 with e9; injection e9 with e9; exact absurd e9 (Nat.ne_of_gt hr9.lt)); cases hq)⟩; rcases mc hp with rfl | hp; exact ⟨⟨fun h => absurd (show 26 = 25 from h) (by decide), fun h => absurd (show 9 = 8 from h) (by decide)⟩, fun h => absurd (show 26 = 25 from h) (by decide)⟩; cases hp) ((Below.refl _ _).alloc (Nat.le_refl _) _) ⟨w'.heap.size, _, rfl, hJ.size, RowAt.new _ _ _, NoW.two _ _ _ _, rfl⟩ hg0⟩
   · intro L fx w' hJ hL hp hcl
     have hg0 : w.heap.size <= w'.heap.size := Nat.le_trans (by omega : w.heap.size <= w.heap.size) hJ.size
     refine wpOp_step rfl (fun K hK => ?_)
     simp only [pN, Nat.reduceEqDiff, ↓reduceIte]
     go_simp
     exact hK _ _ ⟨_, by kernel_rfl, hJ.grow 26 (by show 26 < 30; decide) _ (by kernel_rfl) (by kernel_rfl) (by intro t ht; rcases mc ht with rfl | ht; exact ⟨by show 27 ≠ 26; decide, fun h => absurd (show 8 = 9 from h) (by decide)⟩; rcases mc ht with rfl | ht; exact ⟨by show 28 ≠ 26; decide, fun _ => by cases hh : L 28 with | false => rfl | true => have := hcl 28 (by show 28 < 30; decide) hh 26 (by decide); rw [hL] at this; cases this⟩; cases ht) (by intro p hp; rcases mc hp with rfl | hp; exact ⟨⟨fun h => absurd (show 25 = 26 from h) (by decide), fun h => absurd (show 8 = 9 from h) (by decide)⟩, fun h => absurd (show 25 = 26 from h) (by decide)⟩; rcases mc hp with rfl | hp; exact ⟨⟨fun _ => rfl, fun _ => rfl⟩, fun _ q hq hne hLq => (by rcases mc hq with rfl | hq; (obtain ⟨g9, cs9, hx9, _, hr9, _⟩ := hJ.slot 25 (by show 25 < 30; decide) hLq; have hx9 : fx 8 = _ := hx9; show _ ≠ fx 8; rw [hx9]; intro e9; injection e9 with e9; injection e9 with e9; injection e9 with e9; exact absurd e9 (Nat.ne_of_gt hr9.lt)); rcases mc hq with rfl | hq; exact absurd rfl hne; cases hq)⟩; cases hp) ((Below.refl _ _).alloc (Nat.le_refl _) _) ⟨w'.heap.size, _, rfl, hJ.size, RowAt.new _ _ _, NoW.two _ _ _ _, rfl⟩ hg0⟩
   · intro L fx w' hJ hL hp hcl
     have e25 := hJ.slot 25 (by show 25 < 30; decide) (hp 25 (by decide))
     have e22 := hJ.slot 22 (by show 22 < 30; decide) (hp 22 (by decide))
     have e22' := e22
     obtain ⟨b7, o7, l7, k7, hv0⟩ := OwnI.parts e22
     rw [hv0] at e22'
     rw [patchX (x := fx) (d := 42) (v := (.agg #[.bool b7, .slice o7 l7 k7])) hv0] at hJ ⊢
     obtain ⟨g, cs, hx, hgB, hr0, hn0, hl0⟩ := e25
     obtain ⟨z0, z1, rfl⟩ : ∃ z0 z1, cs = [z0, z1] := list2 hl0
     have hf0 := RowAt.free hr0 0
     have hc0 := RowAt.cell hr0 0
     have hf1 := RowAt.free hr0 1
     have hc1 := RowAt.cell hr0 1
     try dsimp only at hf0 hc0 hf1 hc1
     have hx1 := hx
     rw [patchX (x := (updX fx 42 (.agg #[.bool b7, .slice o7 l7 k7]))) (d := 8) hx] at hJ ⊢
     refine wpOp_step rfl (fun K hK => ?_)
     simp only [pN, Nat.reduceEqDiff, ↓reduceIte]
     go_simp
     exact hK _ _ ⟨_, by kernel_rfl, hJ.storeNew (us := [.bool b7, .slice o7 l7 k7]) 27 8 _ _ (by show 27 < 30; decide) rfl mm0 (by intro t ht h; rcases mc ht with rfl | ht; rfl; rcases mc ht with rfl | ht; exact absurd (show 28 = 27 from h) (by decide); cases ht) (by intro t ht hne hLt; rcases mc ht with rfl | ht; exact absurd rfl hne; rcases mc ht with rfl | ht; exact hJ.apart (26, 9) mm1 (25, 8) mm0 (by show 26 ≠ 25; decide) (hcl 28 (by show 28 < 30; decide) hLt 26 (by decide)) (hp 25 (by decide)); cases ht) (by kernel_rfl) (by kernel_rfl) (by decide) (by rfl) hgB hr0 hn0 rfl (NoW.two _ _ _ _) ⟨_, _, _, _, rfl, e22'⟩ (by omega)⟩
   · intro L fx w' hJ hL hp hcl
     have e26 := hJ.slot 26 (by show 26 < 30; decide) (hp 26 (by decide))
     have e23 := hJ.slot 23 (by show 23 < 30; decide) (hp 23 (by decide))
     have e23' := e23
     obtain ⟨b7, o7, l7, k7, hv0⟩ := OwnI.parts e23
     rw [hv0] at e23'
     rw [patchX (x := fx) (d := 43) (v := (.agg #[.bool b7, .slice o7 l7 k7])) hv0] at hJ ⊢
     obtain ⟨g, cs, hx, hgB, hr0, hn0, hl0⟩ := e26
     obtain ⟨z0, z1, rfl⟩ : ∃ z0 z1, cs = [z0, z1] := list2 hl0
     have hf0 := RowAt.free hr0 0
     have hc0 := RowAt.cell hr0 0
     have hf1 := RowAt.free hr0 1
     have hc1 := RowAt.cell hr0 1
     try dsimp only at hf0 hc0 hf1 hc1
     have hx1 := hx
     rw [patchX (x := (updX fx 43 (.agg #[.bool b7, .slice o7 l7 k7]))) (d := 9) hx] at hJ ⊢
     refine wpOp_step rfl (fun K hK => ?_)
     simp only [pN, Nat.reduceEqDiff, ↓reduceIte]
     go_simp
     exact hK _ _ ⟨_, by kernel_rfl, hJ.storeNew (us := [.bool b7, .slice o7 l7 k7]) 28 9 _ _ (by show 28 < 30; decide) rfl mm1 (by intro t ht h; rcases mc ht with rfl | ht; exact absurd (show 27 = 28 from h) (by decide); rcases mc ht with rfl | ht; rfl; cases ht) (by intro t ht hne hLt; rcases mc ht with rfl | ht; exact hJ.apart (25, 8) mm0 (26, 9) mm1 (by show 25 ≠ 26; decide) (hcl 27 (by show 27 < 30; decide) hLt 25 (by decide)) (hp 26 (by decide)); rcases mc ht with rfl | ht; exact absurd rfl hne; cases ht) (by kernel_rfl) (by kernel_rfl) (by decide) (by rfl) hgB hr0 hn0 rfl (NoW.two _ _ _ _) ⟨_, _, _, _, rfl, e23'⟩ (by omega)⟩
   · intro L fx w' hJ hL hp hcl
     have e24 := hJ.pt 24 44 (.int .i64 0) rfl rfl rfl (hp 24 (by decide))
     rw [e24] at hJ ⊢; clear e24
     refine wpOp_step rfl (fun K hK => ?_)
     simp only [pN, Nat.reduceEqDiff, ↓reduceIte]
     go_simp
     exact hK _ _ ⟨_, by kernel_rfl, hJ.pC 29 rfl (by kernel_rfl) rfl (by omega)⟩
 · intro L x' w3 hL hJ
   have hfr : Below w.drew.heap.size w.drew w3 := hJ.fr
   obtain ⟨g8, cs8, hx8, hg8, hr8, b8, o8, l8, k8, hcs8, hI8⟩ := hJ.new _ mm0 (hL 27 (by show 27 < 30; decide))
   obtain ⟨g9, cs9, hx9, hg9, hr9, b9, o9, l9, k9, hcs9, hI9⟩ := hJ.new _ mm1 (hL 28 (by show 28 < 30; decide))
   subst hcs8
   subst hcs9
   have hx8 : x' 8 = _ := hx8
   have hx9 : x' 9 = _ := hx9
   rw [patchX (x := x') (d := 8) hx8]
   rw [patchX (x := updX x' 8 (.pointer (some ⟨g8, 0, none⟩))) (d := 9) (v := .pointer (some ⟨g9, 0, none⟩)) hx9]
   have hg8 : w.heap.size <= g8 := hg8
   have hg9 : w.heap.size <= g9 := hg9
   have G8 : Hid (RowAt w3 g8 45 [.bool b8, .slice o8 l8 k8]) := Lib.hid hr8
   have G9 : Hid (RowAt w3 g9 45 [.bool b9, .slice o9 l9 k9]) := Lib.hid hr9
   have I8 : Hid (OwnI w3 0 (.agg #[.bool b8, .slice o8 l8 k8]) (xi.fdiv xk)) := Lib.hid hI8
   have I9 : Hid (OwnI w3 0 (.agg #[.bool b9, .slice o9 l9 k9]) (xi.fmod xk)) := Lib.hid hI9
   clear hJ hL hx8 hx9 hr8 hr9 hI8 hI9 cb ci ck ci0 ci1 ck0 ck1
   have L3 := Lib.hid (LadAt.below (w := w.drew) HL.out.drew hfr)
   have C3 := Lib.hid ((Chg.refl S.own w).drew.below hfr)
   simp only [pN, Nat.reduceEqDiff, ↓reduceIte]
   have q0 : w3.cell? ⟨g8, 0, none⟩ = some (.bool b8) := G8.out.cell 0
   have q1 : w3.cell? ⟨g8, 1, none⟩ = some (.slice o8 l8 k8) := G8.out.cell 1
   go_wp2_with fail
   clear q0 q1
   have hqw : wlen ((xi.fdiv xk)).natAbs <= B + 2 := fdiv_wlen Hpz.out hwi
   refine (INeg_c _ (xi.fdiv xk) _ (OwnI.int I8.out (by omega))).mono ?_
   rintro e w4 ⟨⟨vn, rfl, hn4⟩, hb4⟩
   have L4 := Lib.hid (L3.out.below hb4)
   have C4 := Lib.hid (C3.out.below hb4)
   have G4 := Lib.hid (G9.out.below hb4 G9.out.lt)
   have I4 := Lib.hid (I9.out.below hb4)
   have N4 := Lib.hid (OwnI.int (L := B + 2) hn4 (by rw [Int.natAbs_neg]; exact hqw))
   clear hb4 hn4 L3 C3 G9 I9 G8 I8
   go_wp2_with fail
   have hlx : S.R[n].xs.length = S.R[k].xs.length := by rw [HF.out.len _ (List.getElem_mem hn), HF.out.len _ (List.getElem_mem hk)]
   have hlen2 : S.R[n].xs.length <= 4611686018427387903 := by rw [HF.out.len _ (List.getElem_mem hn)]; omega
   refine (MAdd_c S n k vn (-(xi.fdiv xk)) (B + 2) B _ L4.out hn hk (fun e => hkn e.symm) N4.out hlx (fun x hx => by have := HF.out.fit _ (List.getElem_mem hn) x hx; omega) (fun y hy => HF.out.fit _ (List.getElem_mem hk) y hy) (by omega) hlen2).mono ?_
   rintro e w5 ⟨rfl, hL5, hC5⟩
   have hA : addR S.R n k (-(xi.fdiv xk)) hn hk = meetA S.R k n j := by unfold meetA; rw [Hxi.out, Hxk.out, addT_eq hn hk]
   rw [hA] at hL5
   have hns : ¬ S.own g9 := by
    rintro (e | ⟨r, hr, e⟩)
    · have := HL.out.mat.out.lt; omega
    · have := (HL.out.mat.row r hr).lt; omega
   have G5 := Lib.hid (hC5.row G4.out hns)
   have I5 := Lib.hid (hC5.ownI L4.out.ownTyped I4.out)
   have C5 := Lib.hid (C4.out.trans hC5)
   have L5 := Lib.hid hL5
   clear hC5 hL5 L4 C4 G4 I4 N4 hlx hlen2 hA
   have q0 : w5.cell? ⟨g9, 0, none⟩ = some (.bool b9) := G5.out.cell 0
   have q1 : w5.cell? ⟨g9, 1, none⟩ = some (.slice o9 l9 k9) := G5.out.cell 1
   go_wp2_with fail
   clear q0 q1
   refine (ISign_c _ (xi.fmod xk) _ (OwnI.int I5.out (by have := fmod_wlen (x := xi) Hpz.out hwk; omega))).mono ?_
   rintro e w6 ⟨rfl, hb6⟩
   have L6 := Lib.hid (L5.out.below hb6)
   have C6 := Lib.hid (C5.out.below hb6)
   clear hb6 L5 C5 G5 I5
   by_cases hr0 : xi.fmod xk = 0
   · have hz : zsign (xi.fmod xk) = 0 := zsign_beq.2 hr0
     rw [hz]
     have HR0 := Lib.hid hr0
     clear hz hr0
     go_wp2
     refine bodyPost_ret (results_none (by kernel_rfl) _ _ _) rfl ?_
     have e : meetT S.R k n j = meetA S.R k n j := by unfold meetT; rw [Hxi.out, Hxk.out, if_pos HR0.out]
     rw [e]
     exact ⟨rfl, L6.out, C6.out⟩
   have hz0 : ¬ zsign (xi.fmod xk) = 0 := fun h => hr0 (zsign_beq.1 h)
   have HR0 := Lib.hid hr0
   obtain ⟨sg, hsg⟩ : ∃ s, zsign (xi.fmod xk) = s := ⟨_, rfl⟩
   rw [hsg] at hz0 ⊢
   have hzb : (sg == 0) = false := by simpa using hz0
   clear hsg hr0
   have hlenA : (meetA S.R k n j).length = S.R.length := addT_length ..
   have hmT : meetT S.R k n j = mixT (meetA S.R k n j) k n (extX (ent (meetA S.R k n j) k j) (ent (meetA S.R k n j) n j)) (extY (ent (meetA S.R k n j) k j) (ent (meetA S.R k n j) n j)) (-(ent (meetA S.R k n j) n j / extG (ent (meetA S.R k n j) k j) (ent (meetA S.R k n j) n j))) (ent (meetA S.R k n j) k j / extG (ent (meetA S.R k n j) k j) (ent (meetA S.R k n j) n j)) := by
    unfold meetT; rw [Hxi.out, Hxk.out, if_neg HR0.out]
   obtain ⟨R1, hR1⟩ : ∃ R1, meetA S.R k n j = R1 := ⟨_, rfl⟩
   rw [hR1] at hmT hlenA L6 HF1 HP1
   have hkA : k < R1.length := by omega
   have hnA : n < R1.length := by omega
   have HMT := Lib.hid hmT; clear hmT
   have HLA := Lib.hid hlenA; clear hlenA
   have HR1 := Lib.hid hR1; clear hR1
   clear hjl hjk hjl1 hjk1 hi1 hk1 sb1 sb2 sb3 sb4
   go_wp2_with fail
   clear hzb hz0
   have cb : w6.cell? ⟨S.lb, 0, none⟩ = some (.slice (some ⟨S.o, 0, none⟩) R1.length S.cap) := L6.out.lad.cell 0
   have ci : w6.cell? ⟨S.o, k, none⟩ = some (.slice (some ⟨R1[k].blk, 0, none⟩) R1[k].xs.length R1[k].cap) := L6.out.mat.hdr (i := k) hkA
   have ck : w6.cell? ⟨S.o, n, none⟩ = some (.slice (some ⟨R1[n].blk, 0, none⟩) R1[n].xs.length R1[n].cap) := L6.out.mat.hdr (i := n) hnA
   have hXi := L6.out.mat.row _ (List.getElem_mem (l := R1) hkA)
   have hXk := L6.out.mat.row _ (List.getElem_mem (l := R1) hnA)
   have hjl : j < R1[k].xs.length := by rw [HF1.out.len _ (List.getElem_mem hkA)]; exact hj
   have hjk : j < R1[n].xs.length := by rw [HF1.out.len _ (List.getElem_mem hnA)]; exact hj
   have hjl1 : (j : Int) < (R1[k].xs.length : Int) := by omega
   have hjk1 : (j : Int) < (R1[n].xs.length : Int) := by omega
   have hi1 : (k : Int) < (R1.length : Int) := by omega
   have hk1 : (n : Int) < (R1.length : Int) := by omega
   obtain ⟨pp, ci0, ci1, hni⟩ := hXi.get hjl
   obtain ⟨pv, ck0, ck1, hnk⟩ := hXk.get hjk
   have hwi : wlen (R1[k].xs[j]).natAbs <= B := HF1.out.fit _ (List.getElem_mem hkA) _ (List.getElem_mem hjl)
   have hwk : wlen (R1[n].xs[j]).natAbs <= B := HF1.out.fit _ (List.getElem_mem hnA) _ (List.getElem_mem hjk)
   obtain ⟨xp, hxi⟩ : ∃ xp, R1[k].xs[j] = xp := ⟨_, rfl⟩
   obtain ⟨xv, hxk⟩ : ∃ xv, R1[n].xs[j] = xv := ⟨_, rfl⟩
   rw [hxi] at hni hwi
   rw [hxk] at hnk hwk
   have Hxp := Lib.hid ((ent_eq hkA hjl).trans hxi); clear hxi
   have Hxv := Lib.hid ((ent_eq hnA hjk).trans hxk); clear hxk
   have sb1 := hXi.lt
   have sb2 := hXk.lt
   have sb3 : S.lb < w6.heap.size := L6.out.lad.lt
   have sb4 : S.o < w6.heap.size := L6.out.mat.out.lt
   clear hXi hXk
   have Hnp := Lib.hid (hni.int (L := 4398046511103) (by omega))
   have Hnv := Lib.hid (hnk.int (L := 4398046511103) (by omega))
   clear hni hnk
   have hxp0 : xp ≠ 0 := by have := HP1.out; rw [Hxp.out] at this; exact this
   have Hxp0 := Lib.hid hxp0; clear hxp0
   refine wp_region_J ⟨24, fun q_ => [54, 55, 56, 57, 58, 59, 60, 61, 62, 63, 64, 65, 66, 67, 68, 69, 70, 71, 72, 73, 11, 12, 1022, 1023].getD q_ 0,
    fun q_ => [.val (.pointer (some ⟨S.lb, 0, none⟩)), .val (.pointer (some ⟨S.lb, 0, none⟩)), .val (.pointer (some ⟨S.lb, 0, none⟩)), .val (.slice (some ⟨S.o, 0, none⟩) R1.length S.cap), .val (.int .i64 (k : Int)), .val (.pointer (some ⟨S.o, k, none⟩)), .val (.slice (some ⟨R1[k].blk, 0, none⟩) R1[k].xs.length R1[k].cap), .val (.int .i64 (j : Int)), .val (.pointer (some ⟨R1[k].blk, j * 2, none⟩)), .val (.agg #[.bool pp.1, .slice pp.2.1 pp.2.2.1 pp.2.2.2]), .val (.pointer (some ⟨S.lb, 0, none⟩)), .val (.pointer (some ⟨S.lb, 0, none⟩)), .val (.pointer (some ⟨S.lb, 0, none⟩)), .val (.slice (some ⟨S.o, 0, none⟩) R1.length S.cap), .val (.int .i64 (n : Int)), .val (.pointer (some ⟨S.o, n, none⟩)), .val (.slice (some ⟨R1[n].blk, 0, none⟩) R1[n].xs.length R1[n].cap), .val (.int .i64 (j : Int)), .val (.pointer (some ⟨R1[n].blk, j * 2, none⟩)), .val (.agg #[.bool pv.1, .slice pv.2.1 pv.2.2.1 pv.2.2.2]), .ptr w6.heap.size 45 2, .ptr w6.heap.size 45 2, .any, .any].getD q_ .any,
    [],
    [],
    [],
    [(22, 11, 45, .cells [.bool pp.1, .slice pp.2.1 pp.2.2.1 pp.2.2.2]), (23, 12, 45, .cells [.bool pv.1, .slice pv.2.1 pv.2.2.1 pv.2.2.2])], [(⟨S.lb, 0, none⟩, .slice (some ⟨S.o, 0, none⟩) R1.length S.cap), (⟨S.o, k, none⟩, .slice (some ⟨R1[k].blk, 0, none⟩) R1[k].xs.length R1[k].cap), (⟨S.o, n, none⟩, .slice (some ⟨R1[n].blk, 0, none⟩) R1[n].xs.length R1[n].cap), (⟨R1[k].blk, j * 2, none⟩, .bool pp.1), (⟨R1[k].blk, j * 2 + 1, none⟩, .slice pp.2.1 pp.2.2.1 pp.2.2.2), (⟨R1[n].blk, j * 2, none⟩, .bool pv.1), (⟨R1[n].blk, j * 2 + 1, none⟩, .slice pv.2.1 pv.2.2.1 pv.2.2.2)], [(20, 11), (21, 12)]⟩ [54, 55, 56, 57, 58, 59, 60, 61, 62, 63, 64, 65, 66, 67, 68, 69, 70, 71, 72, 73, 11, 12] (w6.heap.size) (by kernel_rfl) (by kernel_rfl) (by kernel_rfl) (by kernel_rfl) ?_ ?_ ?_ ?_ ?_ ?_
   · intro p hp
     cases hp
   · intro p hp
     cases hp
   · intro p hp
     rcases mc hp with rfl | hp
     · refine ⟨cb, by show S.lb < w6.heap.size; omega, ?_⟩
       intro t ht
       cases ht
     rcases mc hp with rfl | hp
     · refine ⟨ci, by show S.o < w6.heap.size; omega, ?_⟩
       intro t ht
       cases ht
     rcases mc hp with rfl | hp
     · refine ⟨ck, by show S.o < w6.heap.size; omega, ?_⟩
       intro t ht
       cases ht
     rcases mc hp with rfl | hp
     · refine ⟨ci0, by show R1[k].blk < w6.heap.size; omega, ?_⟩
       intro t ht
       cases ht
     rcases mc hp with rfl | hp
     · refine ⟨ci1, by show R1[k].blk < w6.heap.size; omega, ?_⟩
       intro t ht
       cases ht
     rcases mc hp with rfl | hp
     · refine ⟨ck0, by show R1[n].blk < w6.heap.size; omega, ?_⟩
       intro t ht
       cases ht
     rcases mc hp with rfl | hp
     · refine ⟨ck1, by show R1[n].blk < w6.heap.size; omega, ?_⟩
       intro t ht
       cases ht
     cases hp
   · intro t ht
     cases ht
   · refine allc ?_ (allc ?_ (allc ?_ (allc ?_ (allc ?_ (allc ?_ (allc ?_ (allc ?_ (allc ?_ (allc ?_ (allc ?_ (allc ?_ (allc ?_ (allc ?_ (allc ?_ (allc ?_ (allc ?_ (allc ?_ (allc ?_ (allc ?_ (allc ?_ (allc ?_ (allc ?_ (allc ?_ alln)))))))))))))))))))))))
     · intro L fx w' hJ hL hp hcl
       refine wpOp_step rfl (fun K hK => ?_)
       simp only [pN, Nat.reduceEqDiff, ↓reduceIte]
       go_simp
       exact hK _ _ ⟨_, by kernel_rfl, hJ.pC 0 rfl (by kernel_rfl) rfl (by omega)⟩
     · intro L fx w' hJ hL hp hcl
       have e0 := hJ.pt 0 54 (.pointer (some ⟨S.lb, 0, none⟩)) rfl rfl rfl (hp 0 (by decide))
       rw [e0] at hJ ⊢; clear e0
       refine wpOp_step rfl (fun K hK => ?_)
       simp only [pN, Nat.reduceEqDiff, ↓reduceIte]
       go_simp
       exact hK _ _ ⟨_, by kernel_rfl, hJ.pC 1 rfl (by kernel_rfl) rfl (by omega)⟩
     · intro L fx w' hJ hL hp hcl
       have e1 := hJ.pt 1 55 (.pointer (some ⟨S.lb, 0, none⟩)) rfl rfl rfl (hp 1 (by decide))
       rw [e1] at hJ ⊢; clear e1
       refine wpOp_step rfl (fun K hK => ?_)
       simp only [pN, Nat.reduceEqDiff, ↓reduceIte]
       go_simp
       exact hK _ _ ⟨_, by kernel_rfl, hJ.pC 2 rfl (by kernel_rfl) rfl (by omega)⟩
     · intro L fx w' hJ hL hp hcl
       have e2 := hJ.pt 2 56 (.pointer (some ⟨S.lb, 0, none⟩)) rfl rfl rfl (hp 2 (by decide))
       rw [e2] at hJ ⊢; clear e2
       refine wpOp_step rfl (fun K hK => ?_)
       simp only [pN, Nat.reduceEqDiff, ↓reduceIte]
       have cl0 := (hJ.cells _ mm0).1
       try dsimp only at cl0
       go_simp
       exact hK _ _ ⟨_, by kernel_rfl, hJ.pC 3 rfl (by kernel_rfl) rfl (by omega)⟩
     · intro L fx w' hJ hL hp hcl
       refine wpOp_step rfl (fun K hK => ?_)
       simp only [pN, Nat.reduceEqDiff, ↓reduceIte]
       go_simp
       exact hK _ _ ⟨_, by kernel_rfl, hJ.pC 4 rfl (by kernel_rfl) rfl (by omega)⟩
     · intro L fx w' hJ hL hp hcl
       have e3 := hJ.pt 3 57 (.slice (some ⟨S.o, 0, none⟩) R1.length S.cap) rfl rfl rfl (hp 3 (by decide))
       rw [e3] at hJ ⊢; clear e3
       have e4 := hJ.pt 4 58 (.int .i64 (k : Int)) rfl rfl rfl (hp 4 (by decide))
       rw [e4] at hJ ⊢; clear e4
       refine wpOp_step rfl (fun K hK => ?_)
       simp only [pN, Nat.reduceEqDiff, ↓reduceIte]
       go_simp
       exact hK _ _ ⟨_, by kernel_rfl, hJ.pC 5 rfl (by kernel_rfl) rfl (by omega)⟩
     · intro L fx w' hJ hL hp hcl
       have e5 := hJ.pt 5 59 (.pointer (some ⟨S.o, k, none⟩)) rfl rfl rfl (hp 5 (by decide))
       rw [e5] at hJ ⊢; clear e5
       refine wpOp_step rfl (fun K hK => ?_)
       simp only [pN, Nat.reduceEqDiff, ↓reduceIte]
       have cl0 := (hJ.cells _ mm1).1
       try dsimp only at cl0
       go_simp
       exact hK _ _ ⟨_, by kernel_rfl, hJ.pC 6 rfl (by kernel_rfl) rfl (by omega)⟩
     · intro L fx w' hJ hL hp hcl
       refine wpOp_step rfl (fun K hK => ?_)
       simp only [pN, Nat.reduceEqDiff, ↓reduceIte]
       go_simp
       exact hK _ _ ⟨_, by kernel_rfl, hJ.pC 7 rfl (by kernel_rfl) rfl (by omega)⟩
     · intro L fx w' hJ hL hp hcl
       have e6 := hJ.pt 6 60 (.slice (some ⟨R1[k].blk, 0, none⟩) R1[k].xs.length R1[k].cap) rfl rfl rfl (hp 6 (by decide))
       rw [e6] at hJ ⊢; clear e6
       have e7 := hJ.pt 7 61 (.int .i64 (j : Int)) rfl rfl rfl (hp 7 (by decide))
       rw [e7] at hJ ⊢; clear e7
       refine wpOp_step rfl (fun K hK => ?_)
       simp only [pN, Nat.reduceEqDiff, ↓reduceIte]
       go_simp
       exact hK _ _ ⟨_, by kernel_rfl, hJ.pC 8 rfl (by kernel_rfl) rfl (by omega)⟩
     · intro L fx w' hJ hL hp hcl
       have e8 := hJ.pt 8 62 (.pointer (some ⟨R1[k].blk, j * 2, none⟩)) rfl rfl rfl (hp 8 (by decide))
       rw [e8] at hJ ⊢; clear e8
       refine wpOp_step rfl (fun K hK => ?_)
       simp only [pN, Nat.reduceEqDiff, ↓reduceIte]
       have cl0 := (hJ.cells _ mm3).1
       have cl1 := (hJ.cells _ mm4).1
       try dsimp only at cl0 cl1
       go_simp
       exact hK _ _ ⟨_, by kernel_rfl, hJ.pC 9 rfl (by kernel_rfl) rfl (by omega)⟩
     · intro L fx w' hJ hL hp hcl
       refine wpOp_step rfl (fun K hK => ?_)
       simp only [pN, Nat.reduceEqDiff, ↓reduceIte]
       go_simp
       exact hK _ _ ⟨_, by kernel_rfl, hJ.pC 10 rfl (by kernel_rfl) rfl (by omega)⟩
     · intro L fx w' hJ hL hp hcl
       have e10 := hJ.pt 10 64 (.pointer (some ⟨S.lb, 0, none⟩)) rfl rfl rfl (hp 10 (by decide))
       rw [e10] at hJ ⊢; clear e10
       refine wpOp_step rfl (fun K hK => ?_)
       simp only [pN, Nat.reduceEqDiff, ↓reduceIte]
       go_simp
       exact hK _ _ ⟨_, by kernel_rfl, hJ.pC 11 rfl (by kernel_rfl) rfl (by omega)⟩
     · intro L fx w' hJ hL hp hcl
       have e11 := hJ.pt 11 65 (.pointer (some ⟨S.lb, 0, none⟩)) rfl rfl rfl (hp 11 (by decide))
       rw [e11] at hJ ⊢; clear e11
       refine wpOp_step rfl (fun K hK => ?_)
       simp only [pN, Nat.reduceEqDiff, ↓reduceIte]
       go_simp
       exact hK _ _ ⟨_, by kernel_rfl, hJ.pC 12 rfl (by kernel_rfl) rfl (by omega)⟩
     · intro L fx w' hJ hL hp hcl
       have e12 := hJ.pt 12 66 (.pointer (some ⟨S.lb, 0, none⟩)) rfl rfl rfl (hp 12 (by decide))
       rw [e12] at hJ ⊢; clear e12
       refine wpOp_step rfl (fun K hK => ?_)
       simp only [pN, Nat.reduceEqDiff, ↓reduceIte]
       have cl0 := (hJ.cells _ mm0).1
       try dsimp only at cl0
       go_simp
       exact hK _ _ ⟨_, by kernel_rfl, hJ.pC 13 rfl (by kernel_rfl) rfl (by omega)⟩
     · intro L fx w' hJ hL hp hcl
       refine wpOp_step rfl (fun K hK => ?_)
       simp only [pN, Nat.reduceEqDiff, ↓reduceIte]
       go_simp
       exact hK _ _ ⟨_, by kernel_rfl, hJ.pC 14 rfl (by kernel_rfl) rfl (by omega)⟩
     · intro L fx w' hJ hL hp hcl
       have e13 := hJ.pt 13 67 (.slice (some ⟨S.o, 0, none⟩) R1.length S.cap) rfl rfl rfl (hp 13 (by decide))
       rw [e13] at hJ ⊢; clear e13
       have e14 := hJ.pt 14 68 (.int .i64 (n : Int)) rfl rfl rfl (hp 14 (by decide))
       rw [e14] at hJ ⊢; clear e14
       refine wpOp_step rfl (fun K hK => ?_)
       simp only [pN, Nat.reduceEqDiff, ↓reduceIte]
       go_simp
       exact hK _ _ ⟨_, by kernel_rfl, hJ.pC 15 rfl (by kernel_rfl) rfl (by omega)⟩
     · intro L fx w' hJ hL hp hcl
       have e15 := hJ.pt 15 69 (.pointer (some ⟨S.o, n, none⟩)) rfl rfl rfl (hp 15 (by decide))
       rw [e15] at hJ ⊢; clear e15
       refine wpOp_step rfl (fun K hK => ?_)
       simp only [pN, Nat.reduceEqDiff, ↓reduceIte]
       have cl0 := (hJ.cells _ mm2).1
       try dsimp only at cl0
       go_simp
       exact hK _ _ ⟨_, by kernel_rfl, hJ.pC 16 rfl (by kernel_rfl) rfl (by omega)⟩
     · intro L fx w' hJ hL hp hcl
       refine wpOp_step rfl (fun K hK => ?_)
       simp only [pN, Nat.reduceEqDiff, ↓reduceIte]
       go_simp
       exact hK _ _ ⟨_, by kernel_rfl, hJ.pC 17 rfl (by kernel_rfl) rfl (by omega)⟩
     · intro L fx w' hJ hL hp hcl
       have e16 := hJ.pt 16 70 (.slice (some ⟨R1[n].blk, 0, none⟩) R1[n].xs.length R1[n].cap) rfl rfl rfl (hp 16 (by decide))
       rw [e16] at hJ ⊢; clear e16
       have e17 := hJ.pt 17 71 (.int .i64 (j : Int)) rfl rfl rfl (hp 17 (by decide))
       rw [e17] at hJ ⊢; clear e17
       refine wpOp_step rfl (fun K hK => ?_)
       simp only [pN, Nat.reduceEqDiff, ↓reduceIte]
       go_simp
       exact hK _ _ ⟨_, by kernel_rfl, hJ.pC 18 rfl (by kernel_rfl) rfl (by omega)⟩
     · intro L fx w' hJ hL hp hcl
       have e18 := hJ.pt 18 72 (.pointer (some ⟨R1[n].blk, j * 2, none⟩)) rfl rfl rfl (hp 18 (by decide))
       rw [e18] at hJ ⊢; clear e18
       refine wpOp_step rfl (fun K hK => ?_)
       simp only [pN, Nat.reduceEqDiff, ↓reduceIte]
       have cl0 := (hJ.cells _ mm5).1
       have cl1 := (hJ.cells _ mm6).1
       try dsimp only at cl0 cl1
       go_simp
       exact hK _ _ ⟨_, by kernel_rfl, hJ.pC 19 rfl (by kernel_rfl) rfl (by omega)⟩
     · intro L fx w' hJ hL hp hcl
       have hg0 : w6.heap.size <= w'.heap.size := Nat.le_trans (by omega : w6.heap.size <= w6.heap.size) hJ.size
       refine wpOp_step rfl (fun K hK => ?_)
       simp only [pN, Nat.reduceEqDiff, ↓reduceIte]
       go_simp
       exact hK _ _ ⟨_, by kernel_rfl, hJ.grow 20 (by show 20 < 24; decide) _ (by kernel_rfl) (by kernel_rfl) (by intro t ht; rcases mc ht with rfl | ht; exact ⟨by show 22 ≠ 20; decide, fun _ => by cases hh : L 22 with | false => rfl | true => have := hcl 22 (by show 22 < 24; decide) hh 20 (by decide); rw [hL] at this; cases this⟩; rcases mc ht with rfl | ht; exact ⟨by show 23 ≠ 20; decide, fun h => absurd (show 12 = 11 from h) (by decide)⟩; cases ht) (by intro p hp; rcases mc hp with rfl | hp; exact ⟨⟨fun _ => rfl, fun _ => rfl⟩, fun _ q hq hne hLq => (by rcases mc hq with rfl | hq; exact absurd rfl hne; rcases mc hq with rfl | hq; (obtain ⟨g9, cs9, hx9, _, hr9, _⟩ := hJ.slot 21 (by show 21 < 24; decide) hLq; have hx9 : fx 12 = _ := hx9; show _ ≠ fx 12; rw [hx9]; intro e9; injection e9 with e9; injection e9 with e9; injection e9 with e9; exact absurd e9 (Nat.ne_of_gt hr9.lt)); cases hq)⟩; rcases mc hp with rfl | hp; exact ⟨⟨fun h => absurd (show 21 = 20 from h) (by decide), fun h => absurd (show 12 = 11 from h) (by decide)⟩, fun h => absurd (show 21 = 20 from h) (by decide)⟩; cases hp) ((Below.refl _ _).alloc (Nat.le_refl _) _) ⟨w'.heap.size, _, rfl, hJ.size, RowAt.new _ _ _, NoW.two _ _ _ _, rfl⟩ hg0⟩
     · intro L fx w' hJ hL hp hcl
       have hg0 : w6.heap.size <= w'.heap.size := Nat.le_trans (by omega : w6.heap.size <= w6.heap.size) hJ.size
       refine wpOp_step rfl (fun K hK => ?_)
       simp only [pN, Nat.reduceEqDiff, ↓reduceIte]
       go_simp
       exact hK _ _ ⟨_, by kernel_rfl, hJ.grow 21 (by show 21 < 24; decide) _ (by kernel_rfl) (by kernel_rfl) (by intro t ht; rcases mc ht with rfl | ht; exact ⟨by show 22 ≠ 21; decide, fun h => absurd (show 11 = 12 from h) (by decide)⟩; rcases mc ht with rfl | ht; exact ⟨by show 23 ≠ 21; decide, fun _ => by cases hh : L 23 with | false => rfl | true => have := hcl 23 (by show 23 < 24; decide) hh 21 (by decide); rw [hL] at this; cases this⟩; cases ht) (by intro p hp; rcases mc hp with rfl | hp; exact ⟨⟨fun h => absurd (show 20 = 21 from h) (by decide), fun h => absurd (show 11 = 12 from h) (by decide)⟩, fun h => absurd (show 20 = 21 from h) (by decide)⟩; rcases mc hp with rfl | hp; exact ⟨⟨fun _ => rfl, fun _ => rfl⟩, fun _ q hq hne hLq => (by rcases mc hq with rfl | hq; (obtain ⟨g9, cs9, hx9, _, hr9, _⟩ := hJ.slot 20 (by show 20 < 24; decide) hLq; have hx9 : fx 11 = _ := hx9; show _ ≠ fx 11; rw [hx9]; intro e9; injection e9 with e9; injection e9 with e9; injection e9 with e9; exact absurd e9 (Nat.ne_of_gt hr9.lt)); rcases mc hq with rfl | hq; exact absurd rfl hne; cases hq)⟩; cases hp) ((Below.refl _ _).alloc (Nat.le_refl _) _) ⟨w'.heap.size, _, rfl, hJ.size, RowAt.new _ _ _, NoW.two _ _ _ _, rfl⟩ hg0⟩
     · intro L fx w' hJ hL hp hcl
       have e20 := hJ.slot 20 (by show 20 < 24; decide) (hp 20 (by decide))
       have e9 := hJ.pt 9 63 (.agg #[.bool pp.1, .slice pp.2.1 pp.2.2.1 pp.2.2.2]) rfl rfl rfl (hp 9 (by decide))
       rw [e9] at hJ ⊢; clear e9
       obtain ⟨g, cs, hx, hgB, hr0, hn0, hl0⟩ := e20
       obtain ⟨z0, z1, rfl⟩ : ∃ z0 z1, cs = [z0, z1] := list2 hl0
       have hf0 := RowAt.free hr0 0
       have hc0 := RowAt.cell hr0 0
       have hf1 := RowAt.free hr0 1
       have hc1 := RowAt.cell hr0 1
       try dsimp only at hf0 hc0 hf1 hc1
       have hx1 := hx
       rw [patchX (x := (updX fx 63 (.agg #[.bool pp.1, .slice pp.2.1 pp.2.2.1 pp.2.2.2]))) (d := 11) hx] at hJ ⊢
       refine wpOp_step rfl (fun K hK => ?_)
       simp only [pN, Nat.reduceEqDiff, ↓reduceIte]
       go_simp
       exact hK _ _ ⟨_, by kernel_rfl, hJ.storeNew (us := [.bool pp.1, .slice pp.2.1 pp.2.2.1 pp.2.2.2]) 22 11 _ _ (by show 22 < 24; decide) rfl mm0 (by intro t ht h; rcases mc ht with rfl | ht; rfl; rcases mc ht with rfl | ht; exact absurd (show 23 = 22 from h) (by decide); cases ht) (by intro t ht hne hLt; rcases mc ht with rfl | ht; exact absurd rfl hne; rcases mc ht with rfl | ht; exact hJ.apart (21, 12) mm1 (20, 11) mm0 (by show 21 ≠ 20; decide) (hcl 23 (by show 23 < 24; decide) hLt 21 (by decide)) (hp 20 (by decide)); cases ht) (by kernel_rfl) (by kernel_rfl) (by decide) (by rfl) hgB hr0 hn0 rfl (NoW.two _ _ _ _) rfl (by omega)⟩
     · intro L fx w' hJ hL hp hcl
       have e21 := hJ.slot 21 (by show 21 < 24; decide) (hp 21 (by decide))
       have e19 := hJ.pt 19 73 (.agg #[.bool pv.1, .slice pv.2.1 pv.2.2.1 pv.2.2.2]) rfl rfl rfl (hp 19 (by decide))
       rw [e19] at hJ ⊢; clear e19
       obtain ⟨g, cs, hx, hgB, hr0, hn0, hl0⟩ := e21
       obtain ⟨z0, z1, rfl⟩ : ∃ z0 z1, cs = [z0, z1] := list2 hl0
       have hf0 := RowAt.free hr0 0
       have hc0 := RowAt.cell hr0 0
       have hf1 := RowAt.free hr0 1
       have hc1 := RowAt.cell hr0 1
       try dsimp only at hf0 hc0 hf1 hc1
       have hx1 := hx
       rw [patchX (x := (updX fx 73 (.agg #[.bool pv.1, .slice pv.2.1 pv.2.2.1 pv.2.2.2]))) (d := 12) hx] at hJ ⊢
       refine wpOp_step rfl (fun K hK => ?_)
       simp only [pN, Nat.reduceEqDiff, ↓reduceIte]
       go_simp
       exact hK _ _ ⟨_, by kernel_rfl, hJ.storeNew (us := [.bool pv.1, .slice pv.2.1 pv.2.2.1 pv.2.2.2]) 23 12 _ _ (by show 23 < 24; decide) rfl mm1 (by intro t ht h; rcases mc ht with rfl | ht; exact absurd (show 22 = 23 from h) (by decide); rcases mc ht with rfl | ht; rfl; cases ht) (by intro t ht hne hLt; rcases mc ht with rfl | ht; exact hJ.apart (20, 11) mm0 (21, 12) mm1 (by show 20 ≠ 21; decide) (hcl 22 (by show 22 < 24; decide) hLt 20 (by decide)) (hp 21 (by decide)); rcases mc ht with rfl | ht; exact absurd rfl hne; cases ht) (by kernel_rfl) (by kernel_rfl) (by decide) (by rfl) hgB hr0 hn0 rfl (NoW.two _ _ _ _) rfl (by omega)⟩
   · intro L' x1 w7 hL hJ
     have hfr : Below w6.drew.heap.size w6.drew w7 := hJ.fr
     obtain ⟨g11, cs11, hx11, hg11, hr11, hcs11⟩ := hJ.new _ mm0 (hL 22 (by show 22 < 24; decide))
     obtain ⟨g12, cs12, hx12, hg12, hr12, hcs12⟩ := hJ.new _ mm1 (hL 23 (by show 23 < 24; decide))
     obtain rfl : cs11 = _ := hcs11
     obtain rfl : cs12 = _ := hcs12
     have hx11 : x1 11 = _ := hx11
     have hx12 : x1 12 = _ := hx12
     rw [patchX (x := x1) (d := 11) hx11]
     rw [patchX (x := updX x1 11 (.pointer (some ⟨g11, 0, none⟩))) (d := 12) (v := .pointer (some ⟨g12, 0, none⟩)) hx12]
     have G11 : Hid (RowAt w7 g11 45 [.bool pp.1, .slice pp.2.1 pp.2.2.1 pp.2.2.2]) := Lib.hid hr11
     have G12 : Hid (RowAt w7 g12 45 [.bool pv.1, .slice pv.2.1 pv.2.2.1 pv.2.2.2]) := Lib.hid hr12
     clear hJ hL hx11 hx12 hr11 hr12 cb ci ck ci0 ci1 ck0 ck1
     have L7 := Lib.hid (LadAt.below (w := w6.drew) L6.out.drew hfr)
     have C7 := Lib.hid (C6.out.drew.below hfr)
     have P7 := Lib.hid (IntAt.below (w := w6.drew) Hnp.out hfr)
     have V7 := Lib.hid (IntAt.below (w := w6.drew) Hnv.out hfr)
     clear L6 C6 Hnp Hnv
     simp only [pN, Nat.reduceEqDiff, ↓reduceIte]
     have q0 : w7.cell? ⟨g11, 0, none⟩ = some (.bool pp.1) := G11.out.cell 0
     have q1 : w7.cell? ⟨g11, 1, none⟩ = some (.slice pp.2.1 pp.2.2.1 pp.2.2.2) := G11.out.cell 1
     have q2 : w7.cell? ⟨g12, 0, none⟩ = some (.bool pv.1) := G12.out.cell 0
     have q3 : w7.cell? ⟨g12, 1, none⟩ = some (.slice pv.2.1 pv.2.2.1 pv.2.2.2) := G12.out.cell 1
     go_wp2_with fail
     clear q0 q1 q2 q3
     refine (IExtF_c _ _ xp xv _ P7.out V7.out).mono ?_
     rintro e w8 ⟨⟨vg, vx, vy, rfl, hge, hxe, hye⟩, hb8⟩
     obtain ⟨zg, rfl⟩ := NumAt.parts hge.num
     obtain ⟨zx, rfl⟩ := NumAt.parts hxe.num
     obtain ⟨zy, rfl⟩ := NumAt.parts hye.num
     have hge := hge.mono (Nat.zero_le _)
     have hxe := hxe.mono (Nat.zero_le _)
     have hye := hye.mono (Nat.zero_le _)
     unfold av at *
     obtain ⟨GG, hGG⟩ : ∃ GG, extG xp xv = GG := ⟨_, rfl⟩
     obtain ⟨XX, hXX⟩ : ∃ XX, extX xp xv = XX := ⟨_, rfl⟩
     obtain ⟨YY, hYY⟩ : ∃ YY, extY xp xv = YY := ⟨_, rfl⟩
     obtain ⟨hd1, hd2, hg0, hg1⟩ := extG_dvd xp xv
     have hxl := extX_le xp xv
     have hyl := extY_le xp xv
     rw [hGG] at hge hd1 hd2 hg0
     rw [hXX] at hxe hxl
     rw [hYY] at hye hyl
     have hgw : wlen GG.natAbs <= 4398046511103 := by
      refine Nat.le_trans (wlen_mono (Nat.le_of_dvd ?_ (Int.natAbs_dvd_natAbs.2 hd1))) (by omega : wlen xp.natAbs <= _)
      have := Hxp0.out; omega
     have hxw : wlen XX.natAbs <= B + 2 := wlen_succ hxl hwk
     have hyw : wlen YY.natAbs <= B + 2 := wlen_succ hyl hwi
     have HG0 := Lib.hid (hg0 Hxp0.out)
     have HD1 := Lib.hid hd1
     have HD2 := Lib.hid hd2
     have HGG := Lib.hid hGG; clear hGG
     have HXX := Lib.hid hXX; clear hXX
     have HYY := Lib.hid hYY; clear hYY
     clear hd1 hd2 hg0 hg1 hxl hyl
     have GA_0 := Lib.hid (G11.out.below hb8 G11.out.lt)
     have GB_0 := Lib.hid (G12.out.below hb8 G12.out.lt)
     have GE_0 := Lib.hid hge
     have XE_0 := Lib.hid hxe
     have YE_0 := Lib.hid hye
     have PA_0 := Lib.hid (P7.out.below hb8)
     have VA_0 := Lib.hid (V7.out.below hb8)
     have LL_0 := Lib.hid (L7.out.below hb8)
     have CC_0 := Lib.hid (C7.out.below hb8)
     clear G11 G12 P7 V7 L7 C7 hge hxe hye hb8
     obtain ⟨n13, n14, n15, hb9⟩ := three_new w8 #[.bool zg.1, .slice zg.2.1 zg.2.2.1 zg.2.2.2] #[.bool zx.1, .slice zx.2.1 zx.2.2.1 zx.2.2.2] #[.bool zy.1, .slice zy.2.1 zy.2.2.1 zy.2.2.2] 45 45 45
     have GA_1 := Lib.hid (RowAt.below (w := w8) GA_0.out hb9 GA_0.out.lt)
     have GB_1 := Lib.hid (RowAt.below (w := w8) GB_0.out hb9 GB_0.out.lt)
     have GE_1 := Lib.hid (OwnI.below (w := w8) GE_0.out hb9)
     have XE_1 := Lib.hid (OwnI.below (w := w8) XE_0.out hb9)
     have YE_1 := Lib.hid (OwnI.below (w := w8) YE_0.out hb9)
     have PA_1 := Lib.hid (IntAt.below (w := w8) PA_0.out hb9)
     have VA_1 := Lib.hid (IntAt.below (w := w8) VA_0.out hb9)
     have LL_1 := Lib.hid (LadAt.below (w := w8) LL_0.out hb9)
     have CC_1 := Lib.hid (Chg.below CC_0.out hb9)
     clear GA_0 GB_0 GE_0 XE_0 YE_0 PA_0 VA_0 LL_0 CC_0
     have N13_1 := Lib.hid n13
     have N14_1 := Lib.hid n14
     have N15_1 := Lib.hid n15
     clear n13 n14 n15 hb9
     have qa0 : (((w8.alloc (.cells #[.bool zg.1, .slice zg.2.1 zg.2.2.1 zg.2.2.2] 45)).alloc (.cells #[.bool zx.1, .slice zx.2.1 zx.2.2.1 zx.2.2.2] 45)).alloc (.cells #[.bool zy.1, .slice zy.2.1 zy.2.2.1 zy.2.2.2] 45)).cell? ⟨g11, 0, none⟩ = some (.bool pp.1) := GA_1.out.cell 0
     have qa1 : (((w8.alloc (.cells #[.bool zg.1, .slice zg.2.1 zg.2.2.1 zg.2.2.2] 45)).alloc (.cells #[.bool zx.1, .slice zx.2.1 zx.2.2.1 zx.2.2.2] 45)).alloc (.cells #[.bool zy.1, .slice zy.2.1 zy.2.2.1 zy.2.2.2] 45)).cell? ⟨g11, 1, none⟩ = some (.slice pp.2.1 pp.2.2.1 pp.2.2.2) := GA_1.out.cell 1
     have qb0 : (((w8.alloc (.cells #[.bool zg.1, .slice zg.2.1 zg.2.2.1 zg.2.2.2] 45)).alloc (.cells #[.bool zx.1, .slice zx.2.1 zx.2.2.1 zx.2.2.2] 45)).alloc (.cells #[.bool zy.1, .slice zy.2.1 zy.2.2.1 zy.2.2.2] 45)).cell? ⟨w8.heap.size, 0, none⟩ = some (.bool zg.1) := N13_1.out.cell 0
     have qb1 : (((w8.alloc (.cells #[.bool zg.1, .slice zg.2.1 zg.2.2.1 zg.2.2.2] 45)).alloc (.cells #[.bool zx.1, .slice zx.2.1 zx.2.2.1 zx.2.2.2] 45)).alloc (.cells #[.bool zy.1, .slice zy.2.1 zy.2.2.1 zy.2.2.2] 45)).cell? ⟨w8.heap.size, 1, none⟩ = some (.slice zg.2.1 zg.2.2.1 zg.2.2.2) := N13_1.out.cell 1
     go_wp2_with fail
     clear qa0 qa1 qb0 qb1
     generalize (((w8.alloc (.cells #[.bool zg.1, .slice zg.2.1 zg.2.2.1 zg.2.2.2] 45)).alloc (.cells #[.bool zx.1, .slice zx.2.1 zx.2.2.1 zx.2.2.2] 45)).alloc (.cells #[.bool zy.1, .slice zy.2.1 zy.2.2.1 zy.2.2.2] 45)) = w9 at *
     refine (IExact_c _ _ xp GG _ (PA_1.out.mono (by omega)) (OwnI.int GE_1.out (by omega)) HG0.out HD1.out).mono ?_
     rintro e w10 ⟨⟨va, rfl, hva⟩, hb10⟩
     obtain ⟨za, rfl⟩ := NumAt.parts hva.num
     have hva := hva.mono (Nat.zero_le _)
     unfold av at *
     have GA_2 := Lib.hid (RowAt.below (w := w9) GA_1.out hb10 GA_1.out.lt)
     have GB_2 := Lib.hid (RowAt.below (w := w9) GB_1.out hb10 GB_1.out.lt)
     have N13_2 := Lib.hid (RowAt.below (w := w9) N13_1.out hb10 N13_1.out.lt)
     have N14_2 := Lib.hid (RowAt.below (w := w9) N14_1.out hb10 N14_1.out.lt)
     have N15_2 := Lib.hid (RowAt.below (w := w9) N15_1.out hb10 N15_1.out.lt)
     have GE_2 := Lib.hid (OwnI.below (w := w9) GE_1.out hb10)
     have XE_2 := Lib.hid (OwnI.below (w := w9) XE_1.out hb10)
     have YE_2 := Lib.hid (OwnI.below (w := w9) YE_1.out hb10)
     have PA_2 := Lib.hid (IntAt.below (w := w9) PA_1.out hb10)
     have VA_2 := Lib.hid (IntAt.below (w := w9) VA_1.out hb10)
     have LL_2 := Lib.hid (LadAt.below (w := w9) LL_1.out hb10)
     have CC_2 := Lib.hid (Chg.below CC_1.out hb10)
     clear GA_1 GB_1 N13_1 N14_1 N15_1 GE_1 XE_1 YE_1 PA_1 VA_1 LL_1 CC_1
     have AE_2 := Lib.hid hva
     clear hva hb10
     have hb11 : Below w10.heap.size w10 (w10.alloc (.cells #[.bool za.1, .slice za.2.1 za.2.2.1 za.2.2.2] 45)) := (Below.refl _ _).alloc (Nat.le_refl _) _
     have n16 := RowAt.new w10 #[.bool za.1, .slice za.2.1 za.2.2.1 za.2.2.2] 45
     have GA_3 := Lib.hid (RowAt.below (w := w10) GA_2.out hb11 GA_2.out.lt)
     have GB_3 := Lib.hid (RowAt.below (w := w10) GB_2.out hb11 GB_2.out.lt)
     have N13_3 := Lib.hid (RowAt.below (w := w10) N13_2.out hb11 N13_2.out.lt)
     have N14_3 := Lib.hid (RowAt.below (w := w10) N14_2.out hb11 N14_2.out.lt)
     have N15_3 := Lib.hid (RowAt.below (w := w10) N15_2.out hb11 N15_2.out.lt)
     have GE_3 := Lib.hid (OwnI.below (w := w10) GE_2.out hb11)
     have XE_3 := Lib.hid (OwnI.below (w := w10) XE_2.out hb11)
     have YE_3 := Lib.hid (OwnI.below (w := w10) YE_2.out hb11)
     have AE_3 := Lib.hid (OwnI.below (w := w10) AE_2.out hb11)
     have PA_3 := Lib.hid (IntAt.below (w := w10) PA_2.out hb11)
     have VA_3 := Lib.hid (IntAt.below (w := w10) VA_2.out hb11)
     have LL_3 := Lib.hid (LadAt.below (w := w10) LL_2.out hb11)
     have CC_3 := Lib.hid (Chg.below CC_2.out hb11)
     clear GA_2 GB_2 N13_2 N14_2 N15_2 GE_2 XE_2 YE_2 AE_2 PA_2 VA_2 LL_2 CC_2
     have N16_3 := Lib.hid n16
     clear n16 hb11
     have qa0 : (w10.alloc (.cells #[.bool za.1, .slice za.2.1 za.2.2.1 za.2.2.2] 45)).cell? ⟨g12, 0, none⟩ = some (.bool pv.1) := GB_3.out.cell 0
     have qa1 : (w10.alloc (.cells #[.bool za.1, .slice za.2.1 za.2.2.1 za.2.2.2] 45)).cell? ⟨g12, 1, none⟩ = some (.slice pv.2.1 pv.2.2.1 pv.2.2.2) := GB_3.out.cell 1
     have qb0 : (w10.alloc (.cells #[.bool za.1, .slice za.2.1 za.2.2.1 za.2.2.2] 45)).cell? ⟨w8.heap.size, 0, none⟩ = some (.bool zg.1) := N13_3.out.cell 0
     have qb1 : (w10.alloc (.cells #[.bool za.1, .slice za.2.1 za.2.2.1 za.2.2.2] 45)).cell? ⟨w8.heap.size, 1, none⟩ = some (.slice zg.2.1 zg.2.2.1 zg.2.2.2) := N13_3.out.cell 1
     go_wp2_with fail
     clear qa0 qa1 qb0 qb1
     generalize (w10.alloc (.cells #[.bool za.1, .slice za.2.1 za.2.2.1 za.2.2.2] 45)) = w11 at *
     refine (IExact_c _ _ xv GG _ (VA_3.out.mono (by omega)) (OwnI.int GE_3.out (by omega)) HG0.out HD2.out).mono ?_
     rintro e w12 ⟨⟨vb, rfl, hvb⟩, hb12⟩
     obtain ⟨zb, rfl⟩ := NumAt.parts hvb.num
     have hvb := hvb.mono (Nat.zero_le _)
     unfold av at *
     have N14_4 := Lib.hid (RowAt.below (w := w11) N14_3.out hb12 N14_3.out.lt)
     have N15_4 := Lib.hid (RowAt.below (w := w11) N15_3.out hb12 N15_3.out.lt)
     have N16_4 := Lib.hid (RowAt.below (w := w11) N16_3.out hb12 N16_3.out.lt)
     have XE_4 := Lib.hid (OwnI.below (w := w11) XE_3.out hb12)
     have YE_4 := Lib.hid (OwnI.below (w := w11) YE_3.out hb12)
     have AE_4 := Lib.hid (OwnI.below (w := w11) AE_3.out hb12)
     have LL_4 := Lib.hid (LadAt.below (w := w11) LL_3.out hb12)
     have CC_4 := Lib.hid (Chg.below CC_3.out hb12)
     clear N14_3 N15_3 N16_3 XE_3 YE_3 AE_3 LL_3 CC_3
     clear GA_3 GB_3 N13_3 GE_3 PA_3 VA_3
     have BE_4 := Lib.hid hvb
     clear hvb hb12
     have hb13 : Below w12.heap.size w12 (w12.alloc (.cells #[.bool zb.1, .slice zb.2.1 zb.2.2.1 zb.2.2.2] 45)) := (Below.refl _ _).alloc (Nat.le_refl _) _
     have n18 := RowAt.new w12 #[.bool zb.1, .slice zb.2.1 zb.2.2.1 zb.2.2.2] 45
     have N14_5 := Lib.hid (RowAt.below (w := w12) N14_4.out hb13 N14_4.out.lt)
     have N15_5 := Lib.hid (RowAt.below (w := w12) N15_4.out hb13 N15_4.out.lt)
     have N16_5 := Lib.hid (RowAt.below (w := w12) N16_4.out hb13 N16_4.out.lt)
     have XE_5 := Lib.hid (OwnI.below (w := w12) XE_4.out hb13)
     have YE_5 := Lib.hid (OwnI.below (w := w12) YE_4.out hb13)
     have AE_5 := Lib.hid (OwnI.below (w := w12) AE_4.out hb13)
     have BE_5 := Lib.hid (OwnI.below (w := w12) BE_4.out hb13)
     have LL_5 := Lib.hid (LadAt.below (w := w12) LL_4.out hb13)
     have CC_5 := Lib.hid (Chg.below CC_4.out hb13)
     clear N14_4 N15_4 N16_4 XE_4 YE_4 AE_4 BE_4 LL_4 CC_4
     have N18_5 := Lib.hid n18
     clear n18 hb13
     go_wp2
     generalize (w12.alloc (.cells #[.bool zb.1, .slice zb.2.1 zb.2.2.1 zb.2.2.2] 45)) = w13 at *
     have hs18 := N18_5.out.lt
     have hs16 := N16_5.out.lt
     have hs15 := N15_5.out.lt
     have hs14 := N14_5.out.lt
     obtain ⟨aq, haq⟩ : ∃ aq, xp / GG = aq := ⟨_, rfl⟩
     obtain ⟨bq, hbq⟩ : ∃ bq, xv / GG = bq := ⟨_, rfl⟩
     have haw : wlen aq.natAbs <= B := by rw [<- haq]; exact Nat.le_trans (wlen_mono (Int.natAbs_ediv_le_natAbs ..)) hwi
     have hbqw : wlen bq.natAbs <= B := by rw [<- hbq]; exact Nat.le_trans (wlen_mono (Int.natAbs_ediv_le_natAbs ..)) hwk
     have AE := AE_5.out
     rw [haq] at AE
     have AE := Lib.hid AE
     have BE := BE_5.out
     rw [hbq] at BE
     have BE := Lib.hid BE
     have HAQ := Lib.hid haq; clear haq
     have HBQ := Lib.hid hbq; clear hbq
     clear AE_5 BE_5
     refine wp_region_K ⟨11, fun q_ => [93, 94, 95, 96, 97, 98, 99, 100, 101, 102, 103].getD q_ 0,
      fun q_ => [.val (.pointer (some ⟨S.lb, 0, none⟩)), .val (.int .i64 (k : Int)), .val (.int .i64 (n : Int)), .val (.agg #[.bool zx.1, .slice zx.2.1 zx.2.2.1 zx.2.2.2]), .val (.agg #[.bool zy.1, .slice zy.2.1 zy.2.2.1 zy.2.2.2]), .val (.agg #[.bool zx.1, .slice zx.2.1 zx.2.2.1 zx.2.2.2, .bool zy.1, .slice zy.2.1 zy.2.2.1 zy.2.2.2]), .val (.agg #[.bool zb.1, .slice zb.2.1 zb.2.2.1 zb.2.2.2]), .int 0 (-bq), .val (.agg #[.bool za.1, .slice za.2.1 za.2.2.1 za.2.2.2]), .int2 0 (-bq) aq, .int4 0 XX YY (-bq) aq].getD q_ .any,
      [],
      [(.agg #[.bool zx.1, .slice zx.2.1 zx.2.2.1 zx.2.2.2], .int 0 XX), (.agg #[.bool zy.1, .slice zy.2.1 zy.2.2.1 zy.2.2.2], .int 0 YY), (.agg #[.bool za.1, .slice za.2.1 za.2.2.1 za.2.2.2], .int 0 aq), (.agg #[.bool zb.1, .slice zb.2.1 zb.2.2.1 zb.2.2.2], .int 0 bq)],
      [(w8.heap.size + 1, 45, [.bool zx.1, .slice zx.2.1 zx.2.2.1 zx.2.2.2]), (w8.heap.size + 2, 45, [.bool zy.1, .slice zy.2.1 zy.2.2.1 zy.2.2.2]), (w10.heap.size, 45, [.bool za.1, .slice za.2.1 za.2.2.1 za.2.2.2]), (w12.heap.size, 45, [.bool zb.1, .slice zb.2.1 zb.2.2.1 zb.2.2.2])],
      [], [], []⟩ [93, 94, 95, 96, 97, 98, 99, 100, 101, 102, 103, 104] (w13.heap.size) (by kernel_rfl) (by kernel_rfl) (by kernel_rfl) (by kernel_rfl) (by kernel_rfl) ?_ ?_ ?_ ?_ ?_ ?_
     · intro p hp
       rcases mc hp with rfl | hp
       · exact XE_5.out
       rcases mc hp with rfl | hp
       · exact YE_5.out
       rcases mc hp with rfl | hp
       · exact AE.out
       rcases mc hp with rfl | hp
       · exact BE.out
       cases hp
     · intro p hp
       rcases mc hp with rfl | hp
       · refine ⟨N14_5.out, by show w8.heap.size + 1 < w13.heap.size; omega, ?_⟩
         intro t ht
         cases ht
       rcases mc hp with rfl | hp
       · refine ⟨N15_5.out, by show w8.heap.size + 2 < w13.heap.size; omega, ?_⟩
         intro t ht
         cases ht
       rcases mc hp with rfl | hp
       · refine ⟨N16_5.out, by show w10.heap.size < w13.heap.size; omega, ?_⟩
         intro t ht
         cases ht
       rcases mc hp with rfl | hp
       · refine ⟨N18_5.out, by show w12.heap.size < w13.heap.size; omega, ?_⟩
         intro t ht
         cases ht
       cases hp
     · intro p hp
       cases hp
     · intro t ht
       cases ht
     · refine allc ?_ (allc ?_ (allc ?_ (allc ?_ (allc ?_ (allc ?_ (allc ?_ (allc ?_ (allc ?_ (allc ?_ (allc ?_ alln))))))))))
       · intro L fx w' hJ hL hp hcl
         refine wpOp_step rfl (fun K hK => ?_)
         simp only [pN, Nat.reduceEqDiff, ↓reduceIte]
         go_simp
         exact hK _ _ ⟨_, by kernel_rfl, hJ.pC 0 rfl (by kernel_rfl) rfl (by omega)⟩
       · intro L fx w' hJ hL hp hcl
         refine wpOp_step rfl (fun K hK => ?_)
         simp only [pN, Nat.reduceEqDiff, ↓reduceIte]
         go_simp
         exact hK _ _ ⟨_, by kernel_rfl, hJ.pC 1 rfl (by kernel_rfl) rfl (by omega)⟩
       · intro L fx w' hJ hL hp hcl
         refine wpOp_step rfl (fun K hK => ?_)
         simp only [pN, Nat.reduceEqDiff, ↓reduceIte]
         go_simp
         exact hK _ _ ⟨_, by kernel_rfl, hJ.pC 2 rfl (by kernel_rfl) rfl (by omega)⟩
       · intro L fx w' hJ hL hp hcl
         refine wpOp_step rfl (fun K hK => ?_)
         simp only [pN, Nat.reduceEqDiff, ↓reduceIte]
         have rw0 := (hJ.rows _ mm0).1
         have cl0 : w'.cell? ⟨w8.heap.size + 1, 0, none⟩ = some (.bool zx.1) := rw0.cell 0
         have cl1 : w'.cell? ⟨w8.heap.size + 1, 1, none⟩ = some (.slice zx.2.1 zx.2.2.1 zx.2.2.2) := rw0.cell 1
         go_simp
         exact hK _ _ ⟨_, by kernel_rfl, hJ.pC 3 rfl (by kernel_rfl) rfl (by omega)⟩
       · intro L fx w' hJ hL hp hcl
         refine wpOp_step rfl (fun K hK => ?_)
         simp only [pN, Nat.reduceEqDiff, ↓reduceIte]
         have rw0 := (hJ.rows _ mm1).1
         have cl0 : w'.cell? ⟨w8.heap.size + 2, 0, none⟩ = some (.bool zy.1) := rw0.cell 0
         have cl1 : w'.cell? ⟨w8.heap.size + 2, 1, none⟩ = some (.slice zy.2.1 zy.2.2.1 zy.2.2.2) := rw0.cell 1
         go_simp
         exact hK _ _ ⟨_, by kernel_rfl, hJ.pC 4 rfl (by kernel_rfl) rfl (by omega)⟩
       · intro L fx w' hJ hL hp hcl
         have e3 := hJ.pt 3 96 (.agg #[.bool zx.1, .slice zx.2.1 zx.2.2.1 zx.2.2.2]) rfl rfl rfl (hp 3 (by decide))
         rw [e3] at hJ ⊢; clear e3
         have e4 := hJ.pt 4 97 (.agg #[.bool zy.1, .slice zy.2.1 zy.2.2.1 zy.2.2.2]) rfl rfl rfl (hp 4 (by decide))
         rw [e4] at hJ ⊢; clear e4
         refine wpOp_step rfl (fun K hK => ?_)
         simp only [pN, Nat.reduceEqDiff, ↓reduceIte]
         go_simp
         exact hK _ _ ⟨_, by kernel_rfl, hJ.pC 5 rfl (by kernel_rfl) rfl (by omega)⟩
       · intro L fx w' hJ hL hp hcl
         refine wpOp_step rfl (fun K hK => ?_)
         simp only [pN, Nat.reduceEqDiff, ↓reduceIte]
         have rw0 := (hJ.rows _ mm3).1
         have cl0 : w'.cell? ⟨w12.heap.size, 0, none⟩ = some (.bool zb.1) := rw0.cell 0
         have cl1 : w'.cell? ⟨w12.heap.size, 1, none⟩ = some (.slice zb.2.1 zb.2.2.1 zb.2.2.2) := rw0.cell 1
         go_simp
         exact hK _ _ ⟨_, by kernel_rfl, hJ.pC 6 rfl (by kernel_rfl) rfl (by omega)⟩
       · intro L fx w' hJ hL hp hcl
         have e6 := hJ.pt 6 99 (.agg #[.bool zb.1, .slice zb.2.1 zb.2.2.1 zb.2.2.2]) rfl rfl rfl (hp 6 (by decide))
         rw [e6] at hJ ⊢; clear e6
         refine wpOp_step rfl (fun K hK => ?_)
         simp only [pN, Nat.reduceEqDiff, ↓reduceIte]
         go_simp
         go_at_call 109
         refine (INeg_c _ bq _ (OwnI.int (show OwnI w' _ _ _ from hJ.base _ mm3) (by omega))).mono ?_
         rintro e w4 ⟨⟨v5, rfl, h5⟩, hb4⟩
         try dsimp only
         exact hK _ _ ⟨_, by kernel_rfl, hJ.gC 7 rfl (by kernel_rfl) hb4 (OwnI.mono h5 (Nat.zero_le _)) (by omega)⟩
       · intro L fx w' hJ hL hp hcl
         refine wpOp_step rfl (fun K hK => ?_)
         simp only [pN, Nat.reduceEqDiff, ↓reduceIte]
         have rw0 := (hJ.rows _ mm2).1
         have cl0 : w'.cell? ⟨w10.heap.size, 0, none⟩ = some (.bool za.1) := rw0.cell 0
         have cl1 : w'.cell? ⟨w10.heap.size, 1, none⟩ = some (.slice za.2.1 za.2.2.1 za.2.2.2) := rw0.cell 1
         go_simp
         exact hK _ _ ⟨_, by kernel_rfl, hJ.pC 8 rfl (by kernel_rfl) rfl (by omega)⟩
       · intro L fx w' hJ hL hp hcl
         have e7 := hJ.slot 7 (by show 7 < 11; decide) (hp 7 (by decide))
         have e8 := hJ.pt 8 101 (.agg #[.bool za.1, .slice za.2.1 za.2.2.1 za.2.2.2]) rfl rfl rfl (hp 8 (by decide))
         rw [e8] at hJ ⊢; clear e8
         have e7' := e7
         obtain ⟨b7, o7, l7, k7, hv0⟩ := OwnI.parts e7
         rw [hv0] at e7'
         rw [patchX (x := (updX fx 101 (.agg #[.bool za.1, .slice za.2.1 za.2.2.1 za.2.2.2]))) (d := 100) (v := (.agg #[.bool b7, .slice o7 l7 k7])) hv0] at hJ ⊢
         refine wpOp_step rfl (fun K hK => ?_)
         simp only [pN, Nat.reduceEqDiff, ↓reduceIte]
         go_simp
         exact hK _ _ ⟨_, by kernel_rfl, hJ.pC 9 rfl (by kernel_rfl) ⟨_, _, _, _, _, _, _, _, rfl, e7', (show OwnI w' _ _ _ from hJ.base _ mm2)⟩ (by omega)⟩
       · intro L fx w' hJ hL hp hcl
         have e9 := hJ.slot 9 (by show 9 < 11; decide) (hp 9 (by decide))
         have e5 := hJ.pt 5 98 (.agg #[.bool zx.1, .slice zx.2.1 zx.2.2.1 zx.2.2.2, .bool zy.1, .slice zy.2.1 zy.2.2.1 zy.2.2.2]) rfl rfl rfl (hp 5 (by decide))
         rw [e5] at hJ ⊢; clear e5
         obtain ⟨b1, o1, l1, k1, b2, o2, l2, k2, hv0, hO1, hO2⟩ := e9
         rw [patchX (x := (updX fx 98 (.agg #[.bool zx.1, .slice zx.2.1 zx.2.2.1 zx.2.2.2, .bool zy.1, .slice zy.2.1 zy.2.2.1 zy.2.2.2]))) (d := 102) (v := (.agg #[.bool b1, .slice o1 l1 k1, .bool b2, .slice o2 l2 k2])) hv0] at hJ ⊢
         refine wpOp_step rfl (fun K hK => ?_)
         simp only [pN, Nat.reduceEqDiff, ↓reduceIte]
         go_simp
         exact hK _ _ ⟨_, by kernel_rfl, hJ.pC 10 rfl (by kernel_rfl) ⟨zx, zy, (b1, o1, l1, k1), (b2, o2, l2, k2), rfl, (show OwnI w' _ _ _ from hJ.base _ mm0), (show OwnI w' _ _ _ from hJ.base _ mm1), hO1, hO2⟩ (by omega)⟩
     · intro L2 x2 w14 hL hJ
       have hfr : Below w13.drew.heap.size w13.drew w14 := hJ.fr
       have e0 : x2 93 = .pointer (some ⟨S.lb, 0, none⟩) := hJ.slot 0 (by show 0 < 11; decide) (hL 0 (by show 0 < 11; decide))
       have e1 : x2 94 = .int .i64 (k : Int) := hJ.slot 1 (by show 1 < 11; decide) (hL 1 (by show 1 < 11; decide))
       have e2 : x2 95 = .int .i64 (n : Int) := hJ.slot 2 (by show 2 < 11; decide) (hL 2 (by show 2 < 11; decide))
       obtain ⟨mp, mq, mr, ms, e10, hm1, hm2, hm3, hm4⟩ := hJ.slot 10 (by show 10 < 11; decide) (hL 10 (by show 10 < 11; decide))
       have e10 : x2 103 = .agg #[.bool mp.1, .slice mp.2.1 mp.2.2.1 mp.2.2.2, .bool mq.1, .slice mq.2.1 mq.2.2.1 mq.2.2.2, .bool mr.1, .slice mr.2.1 mr.2.2.1 mr.2.2.2, .bool ms.1, .slice ms.2.1 ms.2.2.1 ms.2.2.2] := e10
       rw [patchX (x := x2) (d := 93) (v := .pointer (some ⟨S.lb, 0, none⟩)) e0]
       rw [patchX (x := (updX x2 93 (.pointer (some ⟨S.lb, 0, none⟩)))) (d := 94) (v := .int .i64 (k : Int)) e1]
       rw [patchX (x := (updX (updX x2 93 (.pointer (some ⟨S.lb, 0, none⟩))) 94 (.int .i64 (k : Int)))) (d := 95) (v := .int .i64 (n : Int)) e2]
       rw [patchX (x := (updX (updX (updX x2 93 (.pointer (some ⟨S.lb, 0, none⟩))) 94 (.int .i64 (k : Int))) 95 (.int .i64 (n : Int)))) (d := 103) (v := .agg #[.bool mp.1, .slice mp.2.1 mp.2.2.1 mp.2.2.2, .bool mq.1, .slice mq.2.1 mq.2.2.1 mq.2.2.2, .bool mr.1, .slice mr.2.1 mr.2.2.1 mr.2.2.2, .bool ms.1, .slice ms.2.1 ms.2.2.1 ms.2.2.2]) e10]
       have LF := Lib.hid (LadAt.below (w := w13.drew) LL_5.out.drew hfr)
       have CF := Lib.hid (CC_5.out.drew.below hfr)
       have M1 := Lib.hid (OwnI.int (L := B + 2) hm1 hxw)
       have M2 := Lib.hid (OwnI.int (L := B + 2) hm2 hyw)
       have M3 := Lib.hid (OwnI.int (L := B + 2) hm3 (by rw [Int.natAbs_neg]; omega))
       have M4 := Lib.hid (OwnI.int (L := B + 2) hm4 (by omega))
       clear hJ hL e0 e1 e2 e10 hm1 hm2 hm3 hm4 LL_5 CC_5
       refine wpOp_step rfl (fun K hK => ?_)
       simp only [pN, Nat.reduceEqDiff, ↓reduceIte]
       go_simp
       go_at_call 174
       have hlx : R1[k].xs.length = R1[n].xs.length := by rw [HF1.out.len _ (List.getElem_mem hkA), HF1.out.len _ (List.getElem_mem hnA)]
       have hlen2 : R1[k].xs.length <= 4611686018427387903 := by rw [HF1.out.len _ (List.getElem_mem hkA)]; omega
       refine (MMix_c (S.withR R1) k n mp mq mr ms XX YY (-bq) aq (B + 2) B _ LF.out hkA hnA hkn M1.out M2.out M3.out M4.out hlx (fun x hx => HF1.out.fit _ (List.getElem_mem hkA) x hx) (fun y hy => HF1.out.fit _ (List.getElem_mem hnA) y hy) (by omega) hlen2).mono ?_
       rintro e w15 ⟨rfl, hL15, hC15⟩
       try dsimp only
       refine hK _ _ ⟨⟨updX (updX (updX (updX (updX x2 93 (.pointer (some ⟨S.lb, 0, none⟩))) 94 (.int .i64 (k : Int))) 95 (.int .i64 (n : Int))) 103 (.agg #[.bool mp.1, .slice mp.2.1 mp.2.2.1 mp.2.2.2, .bool mq.1, .slice mq.2.1 mq.2.2.1 mq.2.2.2, .bool mr.1, .slice mr.2.1 mr.2.2.1 mr.2.2.2, .bool ms.1, .slice ms.2.1 ms.2.2.1 ms.2.2.2])) 104 (.tuple #[]), by kernel_rfl⟩, ?_⟩
       clear hK
       have hE : meetT S.R k n j = mixR R1 k n XX YY (-bq) aq hkA hnA := by
        rw [HMT.out, Hxp.out, Hxv.out, HGG.out, HXX.out, HYY.out, HAQ.out, HBQ.out, mixT_eq hkA hnA]
       have hown : ∀ q, (S.withR R1).own q ↔ S.own q := by
        intro q
        rw [<- HR1.out]
        unfold meetA
        rw [addT_eq hn hk]
        exact own_setXs S n _ q
       have HE := Lib.hid hE; clear hE
       have HO := Lib.hid hown; clear hown
       have LG := Lib.hid hL15; clear hL15
       have CG := Lib.hid (CF.out.trans (hC15.mono (fun q _ e => (HO.out q).1 e))); clear hC15
       go_wp2
       refine bodyPost_end (results_none (by kernel_rfl) _ _ _) rfl ?_
       rw [HE.out]
       exact ⟨rfl, LG.out, CG.out⟩
def sideOk (n : Int) : Bool := decide (0 <= n) && decide (n <= 64)
set_option maxHeartbeats 1000000 in
theorem side_c (n : Int) (w : World) :
 Calls Tryz.prog 88 #[.int .i64 n] w fun e w' => e = .returned (.bool (sideOk n)) /\ w' = w := by
 go_enter Tryz.func88, Tryz.ntmps88
 by_cases h0 : 0 <= n
 · by_cases h1 : n <= 64
   · go_wp2
     go_ret
     refine ⟨?_, rfl⟩
     simp [sideOk, h0, h1]
   · go_wp2
     go_ret
     refine ⟨?_, rfl⟩
     simp [sideOk, h0, h1]
 · go_wp2
   go_ret
   refine ⟨?_, rfl⟩
   have h9 : decide (0 <= n) = false := by simp; omega
   simp [sideOk, h9]
def soundM (r c : Int) (len : Nat) : Bool := sideOk r && sideOk c && ((len : Int) == r * c)
def chkM (r c : Int) (len : Nat) : Int := if soundM r c len then 0 else 1
theorem chkM_bad {r c : Int} {len : Nat} (h : soundM r c len = false) : chkM r c len = 1 := by unfold chkM; rw [h]; rfl
theorem chkM_ok {r c : Int} {len : Nat} (h : soundM r c len = true) : chkM r c len = 0 := by unfold chkM; rw [h]; rfl
set_option maxRecDepth 100000 in
set_option maxHeartbeats 1000000 in
theorem Check_c (r c : Int) (ao : Option Addr) (len cap : Nat) (w : World) (hr : -9223372036854775808 <= r /\ r <= 9223372036854775807) (hc : -9223372036854775808 <= c /\ c <= 9223372036854775807) :
 Calls Tryz.prog 41 #[.agg #[.int .i64 r, .int .i64 c, .slice ao len cap]] w fun e w' => e = .returned (.int .i64 (chkM r c len)) /\ Below w.heap.size w w' := by
 have hb : Below w.heap.size w (w.alloc (.cells #[.int .i64 r, .int .i64 c, .slice ao len cap] 24)) := (Below.refl _ _).alloc (Nat.le_refl _) _
 have HB := Lib.hid hb; clear hb
 go_enter Tryz.func41, Tryz.ntmps41
 go_wp2_with fail
 refine (side_c _ _).mono ?_
 rintro e w' ⟨rfl, rfl⟩
 cases h1 : sideOk r
 · go_wp2
   go_ret
   rw [chkM_bad (by simp [soundM, h1])]
   exact ⟨rfl, HB.out⟩
 · have hr2 : 0 <= r /\ r <= 64 := by simpa [sideOk] using h1
   have H1 := Lib.hid h1; clear h1
   go_wp2_with fail
   refine (side_c _ _).mono ?_
   rintro e w' ⟨rfl, rfl⟩
   cases h2 : sideOk c
   · go_wp2
     go_ret
     rw [chkM_bad (by simp [soundM, h2])]
     exact ⟨rfl, HB.out⟩
   · have hc2 : 0 <= c /\ c <= 64 := by simpa [sideOk] using h2
     have H2 := Lib.hid h2; clear h2
     have hm : 0 <= r * c /\ r * c <= 4096 := by
      refine ⟨Int.mul_nonneg hr2.1 hc2.1, ?_⟩
      have h3 := Int.mul_le_mul_of_nonneg_right hr2.2 hc2.1
      omega
     obtain ⟨rc, hrc⟩ : ∃ rc, r * c = rc := ⟨_, rfl⟩
     rw [hrc] at hm
     have hw : IntKind.i64.wrap (r * c) = rc := by rw [hrc]; exact wrap_small (by omega) (by omega)
     have HRC := Lib.hid hrc; clear hrc
     by_cases h3 : (len : Int) = rc
     · have h3' : ((len : Int) != rc) = false := by simpa using h3
       have H3 := Lib.hid h3; clear h3
       go_wp2
       go_ret
       rw [chkM_ok (by simp [soundM, H1.out, H2.out, HRC.out, H3.out])]
       exact ⟨rfl, HB.out⟩
     · have h3' : ((len : Int) != rc) = true := by simpa using h3
       have H3 := Lib.hid h3; clear h3
       go_wp2
       go_ret
       rw [chkM_bad (by simp [soundM, H1.out, H2.out, HRC.out, H3.out])]
       exact ⟨rfl, HB.out⟩
def LsAt (w : World) (L : Nat) (ao : Option Addr) (xs : List Int) : Prop :=
 0 < xs.length -> ∃ b o, ao = some ⟨b, o, none⟩ /\ b < w.heap.size /\ ∀ i (h : i < xs.length), ∃ p : P4, w.cell? ⟨b, o + i * 2, none⟩ = some (.bool p.1) /\ w.cell? ⟨b, o + i * 2 + 1, none⟩ = some (.slice p.2.1 p.2.2.1 p.2.2.2) /\ IntAt w L (av p) xs[i]
theorem LsAt.below {w w' : World} {L : Nat} {ao : Option Addr} {xs : List Int} (h : LsAt w L ao xs) (hb : Below w.heap.size w w') : LsAt w' L ao xs := by
 intro hl
 obtain ⟨b, o, e, hlt, hc⟩ := h hl
 refine ⟨b, o, e, Nat.lt_of_lt_of_le hlt hb.size, fun i hi => ?_⟩
 obtain ⟨p, h0, h1, hn⟩ := hc i hi
 exact ⟨p, (hb.cell (p := ⟨b, o + i * 2, none⟩) hlt).trans h0, (hb.cell (p := ⟨b, o + i * 2 + 1, none⟩) hlt).trans h1, hn.below hb⟩
theorem info_Int : (Tryz.prog.info? 45).map (fun i => (i.zero, i.size, i.bytes)) = some (some (.agg #[.bool false, .slice none 0 0]), 2, 32) := by kernel_rfl
theorem NumAt.zero (w : World) : NumAt w (av p0) 0 := (OwnI.zero w 0).num
theorem RowN.zeros {w : World} {b n : Nat} (h : RowAt w b 45 (flat (List.replicate n p0))) : RowN w b (List.replicate n 0) :=
 ⟨_, h, by simp, fun i h1 h2 => by simp; exact NumAt.zero w⟩
theorem made_flat (n : Nat) : (madeCells (Value.agg #[.bool false, .slice none 0 0]).cells (n * 2)).toList = flat (List.replicate n p0) := by
 have hz : (Value.agg #[.bool false, .slice none 0 0]).cells = #[.bool false, .slice none 0 0] := rfl
 rw [hz]
 apply List.ext_getElem?
 intro j
 by_cases hj : j < n * 2
 · rcases Nat.mod_two_eq_zero_or_one j with h | h
   · obtain ⟨i, rfl⟩ : ∃ i, j = i * 2 := ⟨j / 2, by omega⟩
     rw [flat_get0 _ i (by simp; omega)]
     simp [madeCells, hj, p0]
   · obtain ⟨i, rfl⟩ : ∃ i, j = i * 2 + 1 := ⟨j / 2, by omega⟩
     rw [flat_get1 _ i (by simp; omega)]
     have e : (i * 2 + 1) % 2 = 1 := h
     simp [madeCells, hj, p0, e]
 · rw [List.getElem?_eq_none (by simp [madeCells]; omega), List.getElem?_eq_none (by rw [flat_length]; simp; omega)]
theorem mk_nums {w : World} {ops : Array Oper} {rest : List Oper} {o : Oper} {a : Act} {Q : Exit -> Act -> World -> Prop}
 (hg : o.guard = none) (l c : Operand) (hop : o.op = Op.makeSlice 22 l c)
 {kl kc : IntKind} {L C : Int} (n m : Nat) (hl : a.eval l = .int kl L) (hc : a.eval c = .int kc C) (hL : L = (n : Int)) (hC : C = (m : Int)) (hnm : n <= m) (b2 : m <= 8796093022208)
 (hK : ∀ b w', Made w w' b 45 (flat (List.replicate m p0)) -> wpList Tryz.prog ops Q rest (a.put o.dst (.slice (some ⟨b, 0, none⟩) n m)) w') :
 wpList Tryz.prog ops Q (o :: rest) a w :=
 wpList_make_row hg l c 22 hop 45 (.agg #[.bool false, .slice none 0 0]) 2 32 Tryz.underlying22 info_Int n m hl hc hL hC hnm (by omega) (by unfold maxLen; omega)
  (fun b w' h => hK b w' (by rw [made_flat] at h; exact h))
set_option maxRecDepth 100000 in
set_option maxHeartbeats 4000000 in
theorem EachLeast_c (ao : Option Addr) (cap : Nat) (xs : List Int) (w : World) (h : LsAt w 17592186044415 ao xs) (hlen : xs.length <= 8796093022208) :
 Calls Tryz.prog 139 #[.slice ao xs.length cap, .func (.func 69) #[] #[]] w fun e w' => (∃ b, e = .returned (.slice (some ⟨b, 0, none⟩) xs.length xs.length) /\ w.heap.size <= b /\ RowN w' b xs) /\ Below w.heap.size w w' := by
 have HL := Lib.hid h; clear h
 go_enter Tryz.func139, Tryz.ntmps139
 go_wp2_with (at_make; refine mk_nums rfl _ _ rfl xs.length xs.length rfl rfl (by omega) (by omega) (Nat.le_refl _) (by omega) ?_; intro bo w1 hm1)
 have hbo : w.heap.size <= bo := by have := hm1.at_; omega
 have R1 := Lib.hid (RowN.zeros hm1.row)
 have L1 := Lib.hid (HL.out.below hm1.below)
 have B1 := Lib.hid hm1.below
 clear hm1
 go_wp2
 go_loopw [13] (fun i wr => ∃ (m : Nat) (cu : List Int), m <= xs.length /\ i = .int .i64 (m : Int) /\ Hid (cu.length = xs.length /\ ∀ j (h : j < cu.length) (h1 : j < xs.length), j < m -> cu[j] = xs[j]) /\ Hid (RowN wr bo cu) /\ Hid (LsAt wr 17592186044415 ao xs) /\ Hid (Below w.heap.size w wr)) (fun i _ => xs.length - (intOf i).toNat)
 case atStart => exact ⟨0, _, Nat.zero_le _, rfl, Lib.hid ⟨by simp, fun j _ _ h => by omega⟩, R1, L1, B1⟩
 case round =>
  obtain ⟨m, cu, hm, rfl, HA, hX, hL, hB⟩ := hrel
  by_cases hml : m < xs.length
  · have hmx : m < cu.length := by rw [HA.out.1]; exact hml
    have hm2 : (m : Int) < (xs.length : Int) := by omega
    obtain ⟨ab, aoff, rfl, hab, hcells⟩ := hL.out (by omega)
    obtain ⟨px, cx0, cx1, hnx⟩ := hcells m hml
    have Hnx := Lib.hid hnx; clear hnx hcells
    have hb1 : Below wr.heap.size wr (wr.alloc (.cells #[.bool px.1, .slice px.2.1 px.2.2.1 px.2.2.2] 45)) := (Below.refl _ _).alloc (Nat.le_refl _) _
    have X1 := Lib.hid (hX.out.below hb1)
    have L2 := Lib.hid (hL.out.below hb1)
    have B2 := Lib.hid (hB.out.trans (hb1.mono hB.out.size))
    have N2 := Lib.hid (Hnx.out.below hb1)
    clear hb1 hX hL hB Hnx
    go_wp2_with fail
    generalize wr.alloc (.cells #[.bool px.1, .slice px.2.1 px.2.2.1 px.2.2.2] 45) = w2 at *
    clear cx0 cx1
    refine (ILeast_c _ xs[m] _ N2.out).mono ?_
    rintro e w3 ⟨⟨vz, rfl, hvz⟩, hb3⟩
    obtain ⟨pz, rfl⟩ := NumAt.parts hvz.num
    have X3 := Lib.hid (X1.out.below hb3)
    have B3 := Lib.hid (B2.out.trans (hb3.mono B2.out.size))
    have Z3 := Lib.hid hvz.num
    clear hvz hb3 X1 L2 B2 N2
    unfold av at *
    obtain ⟨pq, q0, q1, _⟩ := X3.out.get hmx
    have q2 := X3.out.free (m * 2)
    have q3 := X3.out.free (m * 2 + 1)
    have hmc : (m : Int) < (xs.length : Int) := hm2
    go_wp2
    clear q0 q1 q2 q3
    go_roundw
    case rel =>
     have hBf := (B3.out.setCell (p := ⟨bo, m * 2, none⟩) hbo (.bool pz.1)).setCell (p := ⟨bo, m * 2 + 1, none⟩) hbo (.slice pz.2.1 pz.2.2.1 pz.2.2.2)
     refine ⟨m + 1, cu.set m xs[m], by omega, by go_num, Lib.hid ⟨by simpa using HA.out.1, fun j hj hj1 hjm => ?_⟩, Lib.hid (X3.out.set m (p := pz) Z3.out), Lib.hid (HL.out.below hBf), Lib.hid hBf⟩
     rw [List.getElem_set]
     split
     · rename_i e; subst e; rfl
     · exact HA.out.2 j (by simpa using hj) hj1 (by omega)
    case measure => simp [intOf]; omega
  · obtain rfl : m = xs.length := by omega
    have he : cu = xs := List.ext_getElem HA.out.1 fun j h1 h2 => HA.out.2 j h1 h2 h2
    have HE := Lib.hid he
    clear he
    go_wp2
    go_ret
    refine ⟨⟨bo, rfl, hbo, ?_⟩, hB.out⟩
    have := hX.out
    rw [HE.out] at this
    exact this
end Go.Proofs.YtknkkceioockjaaGreat
namespace Go.Proofs.YtknkkceioockjaaGreat
open Go.ChangeShapes Go.WideShapes Go.ChangeAt Go.RowKit Go.Deep
section
variable {H : Type} {enc : TypeId × Value -> H} {w : World} {base : Nat} {sp : Nat -> Bool} {held : Bool}
theorem bulk_one (d : DataW H) : 1 <= Rows.uptoBulk d := by
 cases d with
 | lit l => cases l <;> simp [Rows.uptoBulk]
 | nil => simp [Rows.uptoBulk]
 | ptr d => simp [Rows.uptoBulk]
 | slice elems spare => simp [Rows.uptoBulk]
 | agg parts => simp [Rows.uptoBulk]
 | iface t d => simp [Rows.uptoBulk]
 | map entries => simp [Rows.uptoBulk]
 | held h => simp [Rows.uptoBulk]
theorem bulk_append (l r : List (DataW H)) : Rows.uptoBulkAll (l ++ r) = Rows.uptoBulkAll l + Rows.uptoBulkAll r := by
 induction l with
 | nil => simp [Rows.uptoBulkAll]
 | cons x l ih => simp only [List.cons_append, Rows.uptoBulkAll, ih]; omega
theorem bulk_mem {d : DataW H} {l : List (DataW H)} (h : d ∈ l) : Rows.uptoBulk d <= Rows.uptoBulkAll l := by
 induction l with
 | nil => cases h
 | cons x r ih =>
  simp only [Rows.uptoBulkAll]
  rcases List.mem_cons.1 h with rfl | h
  · omega
  · have := ih h; omega
theorem bulk_length (l : List (DataW H)) : l.length <= Rows.uptoBulkAll l := by
 induction l with
 | nil => simp [Rows.uptoBulkAll]
 | cons x r ih => have := bulk_one x; simp only [Rows.uptoBulkAll, List.length_cons]; omega
theorem bulk_slice (l r : List (DataW H)) : Rows.uptoBulk (.slice l r) = Rows.uptoBulkAll l + Rows.uptoBulkAll r + 1 := by simp [Rows.uptoBulk]
theorem bulk_agg (l : List (DataW H)) : Rows.uptoBulk (.agg l) = Rows.uptoBulkAll l + 1 := by simp [Rows.uptoBulk]
theorem cell_lt {w : World} {a : Addr} {v : Value} (h : w.cell? a = some v) : a.block < w.heap.size := by
 unfold World.cell? at h
 cases hh : w.heap[a.block]? with
 | none => rw [hh] at h; simp at h
 | some o => exact (Array.getElem?_eq_some_iff.1 hh).1
theorem list_of {α : Type} {n : Nat} {p : Nat -> α -> Prop} (h : ∀ i, i < n -> ∃ x, p i x) : ∃ l : List α, l.length = n /\ ∀ i (hi : i < l.length), p i l[i] := by
 induction n with
 | zero => exact ⟨[], rfl, fun i hi => by simp at hi⟩
 | succ n ih =>
  obtain ⟨l, hl, hp⟩ := ih (fun i hi => h i (by omega))
  obtain ⟨x, hx⟩ := h n (by omega)
  refine ⟨l ++ [x], by simp [hl], fun i hi => ?_⟩
  by_cases hin : i < l.length
  · rw [List.getElem_append_left hin]; exact hp i hin
  · have : i = n := by simp at hi; omega
    subst this
    rw [List.getElem_append_right (by omega)]
    simp [hl]; exact hx
theorem addr_none {w : World} {a : Addr} {v : Value} (h : w.cell? a = some v) : ∃ b o, a = ⟨b, o, none⟩ /\ b < w.heap.size := by
 have h1 := World.cell?_spot h
 obtain ⟨b, o, s⟩ := a
 exact ⟨b, o, by simpa using h1, cell_lt h⟩
set_option maxRecDepth 100000 in
theorem open_words {fuel : Nat} {cs : List Value} {x : DataW H × List MemPlace} (h : DataW.trod enc Tryz.prog w base sp held fuel 43 cs = some x) :
 ∃ ao len cap ws, cs = [.slice ao len cap] /\ len = ws.length /\ len <= cap /\ WAt w ao ws /\ ws.length + 1 <= Rows.uptoBulk x.1 := by
 rcases open_ints Tryz.underlying43 Tryz.underlying49 (by kernel_rfl) h with ⟨rfl, rfl⟩ | ⟨a, len, cap, zs, rfl, hb, hl, hm, hz, rfl, hcell, hwf⟩
 · exact ⟨none, 0, 0, [], rfl, rfl, Nat.le_refl _, ⟨fun x h => (by cases h), fun h => absurd h (by simp)⟩, by simp [Rows.uptoBulk]⟩
 · have hlz : len <= zs.length := by rw [hz]; split <;> omega
   have hrng : ∀ z ∈ zs, 0 <= z /\ z < 18446744073709551616 := fun z hzm => by
    have h1 : 0 <= z /\ z <= 18446744073709551615 := by simpa [Lit.wf, IntKind.min, IntKind.max, IntKind.signed, IntKind.bits] using hwf z hzm
    omega
   have hll : ((zs.take len).map Int.toNat).length = len := by simp; omega
   refine ⟨some a, len, cap, (zs.take len).map Int.toNat, rfl, hll.symm, hl, ⟨fun x hx => ?_, fun hp => ?_⟩, ?_⟩
   · obtain ⟨z, hz1, rfl⟩ := List.mem_map.1 hx
     have := hrng z (List.mem_of_mem_take hz1)
     unfold W; omega
   · rw [hll] at hp
     have h0 := hcell 0 (by omega)
     obtain ⟨b, o, rfl, hblt⟩ := addr_none (a := a) (w := w) (by simpa [Addr.add] using h0)
     refine ⟨b, o, rfl, hblt, fun i hi => ?_⟩
     rw [hll] at hi
     have h1 := hcell i (by omega)
     rw [add_plain] at h1
     rw [h1]
     have h2 := hrng (zs[i]'(by omega)) (List.getElem_mem (by omega))
     have e1 : zs.getD i 0 = zs[i]'(by omega) := by rw [List.getD_eq_getElem?_getD, List.getElem?_eq_getElem (by omega)]; rfl
     have e2 : gw ((zs.take len).map Int.toNat) i = (zs[i]'(by omega)).toNat := by
      unfold gw
      rw [List.getD_eq_getElem?_getD, List.getElem?_eq_getElem (by rw [hll]; exact hi)]
      simp
     rw [e1, e2]
     congr 2
     omega
   · rw [bulk_slice, hll]
     have := bulk_length (lits (H := H) .u64 (zs.take len))
     have e : (lits (H := H) .u64 (zs.take len)).length = len := by simp [lits]; omega
     omega
set_option maxRecDepth 100000 in
theorem open_num {fuel : Nat} {cs : List Value} {x : DataW H × List MemPlace} (h : DataW.trod enc Tryz.prog w base sp held fuel 45 cs = some x) :
 ∃ (p : P4) (L : Nat) (z : Int), cs = [.bool p.1, .slice p.2.1 p.2.2.1 p.2.2.2] /\ IntAt w L (av p) z /\ L + 3 <= Rows.uptoBulk x.1 := by
 obtain ⟨y0, y1, n, rfl, hl, h0, h1⟩ := trod_struct2 Tryz.underlying45 h
 obtain ⟨c0, c1, rfl⟩ : ∃ c0 c1, cs = [c0, c1] := by
  have e : cs.length = 2 := hl.trans (by kernel_rfl)
  match cs, e with
  | [a, b], _ => exact ⟨a, b, rfl⟩
 rw [show Tryz.prog.cellsOf 4 = 1 by kernel_rfl] at h0
 rw [show Tryz.prog.cellsOf 43 = 1 by kernel_rfl] at h1
 obtain ⟨b, hb, hy0⟩ := DataW.trod_bool Tryz.underlying4 h0
 obtain ⟨ao, len, cap, ws, hc, hlen, hcap, hW, hbk⟩ := open_words h1
 simp at hb hc
 subst hb hc
 refine ⟨(b, ao, len, cap), len, zi b (nval ws), rfl, ⟨b, ao, len, cap, ws, rfl, hW, hlen, Nat.le_refl _, hcap, rfl⟩, ?_⟩
 rw [bulk_agg]
 simp only [Rows.uptoBulkAll]
 have := bulk_one y0.1
 omega
set_option maxRecDepth 100000 in
theorem open_nums {fuel : Nat} {cs : List Value} {x : DataW H × List MemPlace} (h : DataW.trod enc Tryz.prog w base sp held fuel 22 cs = some x) :
 ∃ ao len cap xs, cs = [.slice ao len cap] /\ len = xs.length /\ len <= cap /\ LsAt w (Rows.uptoBulk x.1) ao xs /\ xs.length + 1 <= Rows.uptoBulk x.1 := by
 rcases open_slice Tryz.underlying22 h with ⟨rfl, rfl⟩ | ⟨a, len, cap, m, n, D, Pl, rfl, hb, hl, hm, hmm, rfl, hi⟩
 · exact ⟨none, 0, 0, [], rfl, rfl, Nat.le_refl _, fun h => absurd h (by simp), by simp [Rows.uptoBulk]⟩
 · have hlm : len <= m := by rw [hmm]; split <;> omega
   have hD : ∀ i, i < len -> Rows.uptoBulk (D i) <= Rows.uptoBulkAll ((List.range len).map D) := fun i hi => bulk_mem (List.mem_map.2 ⟨i, List.mem_range.2 hi, rfl⟩)
   obtain ⟨l, hll, hp⟩ := list_of (n := len) (p := fun i (q : P4 × Int) => (w.cell? (a.add (i * 2)) = some (.bool q.1.1) /\ w.cell? (a.add (i * 2 + 1)) = some (.slice q.1.2.1 q.1.2.2.1 q.1.2.2.2)) /\ IntAt w (Rows.uptoBulkAll ((List.range len).map D)) (av q.1) q.2) (fun i hil => by
    obtain ⟨cs', hc, ht⟩ := hi i (by omega)
    rw [show Tryz.prog.cellsOf 45 = 2 by kernel_rfl] at hc
    obtain ⟨p, L, z, rfl, hI, hbk⟩ := open_num ht
    obtain ⟨_, _, hcell⟩ := World.cells?_some hc
    have c0 := hcell 0 (by omega)
    have c1 := hcell 1 (by omega)
    rw [add_add] at c0 c1
    exact ⟨(p, z), ⟨by simpa using c0, by simpa using c1⟩, hI.mono (by have := hD i hil; have : Rows.uptoBulk (D i, Pl i).1 = Rows.uptoBulk (D i) := rfl; omega)⟩)
   have hbl : len <= Rows.uptoBulkAll ((List.range len).map D) := by have := bulk_length ((List.range len).map D); simpa using this
   refine ⟨some a, len, cap, l.map (·.2), rfl, by simp [hll], hl, fun hpos => ?_, ?_⟩
   · have hpos' : 0 < len := by simpa [hll] using hpos
     have h0 := (hp 0 (by omega)).1.1
     obtain ⟨b, o, rfl, hblt⟩ := addr_none (a := a) (w := w) (by simpa [Addr.add] using h0)
     refine ⟨b, o, rfl, hblt, fun i hi' => ?_⟩
     have hil : i < l.length := by simpa using hi'
     obtain ⟨⟨c0, c1⟩, hI⟩ := hp i hil
     rw [add_plain] at c0 c1
     refine ⟨l[i].1, c0, by rw [<- Nat.add_assoc] at c1; exact c1, ?_⟩
     have e : (l.map (·.2))[i]'hi' = l[i].2 := by simp
     rw [e, bulk_slice]
     exact hI.mono (by omega)
   · rw [bulk_slice]; simp [hll]; omega
set_option maxRecDepth 100000 in
theorem open_mat {r : Reach} {b0 : Nat} {v : Value} {d : DataW H} {p : List MemPlace} (hv : Value.okWide Tryz.prog w r b0 24 v) (h : DataW.Trod enc Tryz.prog w base sp held 24 v d p) :
 ∃ (m n : Int) (ao : Option Addr) (len cap : Nat) (xs : List Int), v = .agg #[.int .i64 m, .int .i64 n, .slice ao len cap] /\ len = xs.length /\ len <= cap /\ LsAt w (Rows.uptoBulk d) ao xs /\ xs.length + 1 <= Rows.uptoBulk d := by
 obtain ⟨v0, v1, v2, y0, y1, y2, n, rfl, rfl, rfl, h0, h1, h2⟩ := Joins.open_agg3 Tryz.underlying24 (by kernel_rfl) (by kernel_rfl) hv h
 obtain ⟨m, e0, -, -⟩ := DataW.trod_int Tryz.underlying3 h0
 obtain ⟨k, e1, -, -⟩ := DataW.trod_int Tryz.underlying3 h1
 obtain ⟨ao, len, cap, xs, e2, hlen, hcap, hL, hbk⟩ := open_nums h2
 simp at e0 e1 e2
 subst e0 e1 e2
 have hle : Rows.uptoBulk y2.1 <= Rows.uptoBulk (.agg [y0.1, y1.1, y2.1]) := by rw [bulk_agg]; simp only [Rows.uptoBulkAll]; omega
 refine ⟨m, k, ao, len, cap, xs, rfl, hlen, hcap, fun hp => ?_, by omega⟩
 obtain ⟨b, o, e, hlt, hc⟩ := hL hp
 exact ⟨b, o, e, hlt, fun i hi => by obtain ⟨q, q0, q1, hq⟩ := hc i hi; exact ⟨q, q0, q1, hq.mono hle⟩⟩
theorem soundM_nat {r c : Int} {len : Nat} (h : soundM r c len = true) : ∃ m n : Nat, r = (m : Int) /\ c = (n : Int) /\ m <= 64 /\ n <= 64 /\ len = m * n := by
 unfold soundM sideOk at h
 simp only [Bool.and_eq_true, decide_eq_true_eq, beq_iff_eq] at h
 obtain ⟨⟨⟨h1, h2⟩, h3, h4⟩, h5⟩ := h
 obtain ⟨m, rfl⟩ := Int.eq_ofNat_of_zero_le h1
 obtain ⟨n, rfl⟩ := Int.eq_ofNat_of_zero_le h3
 refine ⟨m, n, rfl, rfl, by omega, by omega, ?_⟩
 rw [<- Int.natCast_mul] at h5
 exact Int.ofNat.inj h5
set_option maxRecDepth 100000 in
theorem trodAll_stays {P : Program} (hl : laidOutB P = true) {W W' : World} {spf : Nat -> Bool} : ∀ {ts : List TypeId} {vs : List Value} {ds : List (DataW H)} {ps : List MemPlace}, (ts.all fun t => P.readableRec t && decide (t < P.types.size)) = true ->
 DataW.TrodAll enc P W 0 (fun _ => true) true ts vs ds ps -> (∀ x ∈ ps, W.sameAt W' x) -> (∀ x ∈ ps, spf x.block = true) -> DataW.TrodAll enc P W' 0 spf true ts vs ds ps := by
 intro ts
 induction ts with
 | nil =>
  intro vs ds ps _ h _ _
  cases vs <;> cases ds <;> exact h
 | cons t ts ih =>
  intro vs ds ps ha h hs hp
  cases vs with
  | nil => exact h.elim
  | cons v vs =>
   cases ds with
   | nil => exact h.elim
   | cons d ds =>
    obtain ⟨p, q, h1, h2, rfl⟩ := h
    simp only [List.all_cons, Bool.and_eq_true, decide_eq_true_eq] at ha
    exact ⟨p, q, WideElems.Trod_stays hl ha.1.1 ha.1.2 h1 (fun x hx => hs x (List.mem_append_left _ hx)) (fun x hx => hp x (List.mem_append_left _ hx)),
     ih ha.2 h2 (fun x hx => hs x (List.mem_append_right _ hx)) (fun x hx => hp x (List.mem_append_right _ hx)), rfl⟩
theorem laid_out : laidOutB Tryz.prog = true := by kernel_rfl
set_option maxRecDepth 100000 in
theorem law_post {f : Func} {s : ChangeSpec} {W W' : World} {args : Array Value} {ds gs : List (DataW H)} {before : List MemPlace} (ha : (f.params.toList.all fun t => Tryz.prog.readableRec t && decide (t < Tryz.prog.types.size)) = true) (hv : s.vars = []) (hr : f.resultTypes = #[4])
 (hW : DataW.Whole enc Tryz.prog f.params.toList s.vars false W args.toList ds gs before) (h1 : (s.fn H (ds ++ gs)).results = [.lit (.bool true)]) (h2 : (s.fn H (ds ++ gs)).args = ds) (h3 : (s.fn H (ds ++ gs)).vars = []) (hb : Below W.heap.size W W') :
 s.post enc Tryz.prog f false true false false W args (.bool true) W' := by
 have hlt : ∀ p ∈ before, p.block < W.heap.size := fun p hp => hW.lt p hp
 have hold : ∀ p ∈ before, (fun b => decide (b < W.heap.size)) p.block = true := fun p hp => by simpa using hlt p hp
 have hW' := hW
 obtain ⟨p, q, hA, hV, rfl, hz, hn⟩ := hW
 rw [hv] at hV
 obtain ⟨rfl, rfl⟩ := trodVars_none hV
 have hsame : ∀ x ∈ p, W.sameAt W' x := fun x hx => hb.same (hlt x (List.mem_append_left _ hx))
 have hargs : ∀ spf : Nat -> Bool, (∀ x ∈ p ++ [], spf x.block = true) -> DataW.TrodAll enc Tryz.prog W' 0 spf true f.params.toList args.toList (s.fn H (ds ++ [])).args p := fun spf hs => by
  rw [h2]; exact trodAll_stays laid_out ha hA hsame (fun x hx => hs x (List.mem_append_left _ hx))
 have hres : ∀ (b : Nat) (spf : Nat -> Bool) (hd : Bool), DataW.TrodAll enc Tryz.prog W' b spf hd f.resultTypes.toList ((Value.bool true).resultList f.resultTypes.size) (s.fn H (ds ++ [])).results [] := fun b spf hd => by
  rw [hr, h1]; exact trodAll_cons_mk (shut_bool Tryz.underlying4 _) trodAll_mk0
 have hvars : ∀ spf : Nat -> Bool, DataW.TrodVars enc Tryz.prog W' spf s.vars (s.fn H (ds ++ [])).vars [] := fun spf => by rw [hv, h3]; rfl
 refine ⟨ds, [], p ++ [], [], p, [], hW', hres _ _ _, hargs _ hold, hvars _, World.keptBut_mono (fun x hx => ⟨hx, Or.inr (by simpa using hx)⟩) (hb.frame (· ∈ p ++ [])), fun _ => ?_⟩
 have hb1 : Value.okWide Tryz.prog W' .any 0 4 (.bool true) := okWide_bool_mk Tryz.underlying4 true
 refine ⟨ok_one hr rfl hb1, _, _, ([] ++ p) ++ [], ⟨[] ++ p, [], trodAll_append (hargs _ (fun _ _ => rfl)) (hres _ _ _), hvars _, rfl, ?_, ?_⟩, ?_⟩
 · intro b off hp
   have hin : MemPlace.cell b off ∈ p ++ [] := by simpa using hp
   rw [hb.frozen (hlt _ hin)]
   exact hz b off hin
 · intro h; cases h
 · intro x hx _
   simpa using hx
end
set_option maxRecDepth 100000 in
theorem bulk_bound {H : Type} {l : List (DataW H)} (hk : Rows.uptoSmall H l = true) : Rows.uptoBulkAll l <= 1048576 := of_decide_eq_true hk
end Go.Proofs.YtknkkceioockjaaGreat
namespace Go.Proofs.YtknkkceioockjaaGreat
def HX : Nat := 65536
theorem HX_pos : 0 < HX := by unfold HX; omega
theorem HX_pow4 : HX ^ 4 = W := rfl
def hval : List Nat -> Nat
 | [] => 0
 | x :: r => x + HX * hval r
def HOk (l : List Nat) : Prop := ∀ x ∈ l, x < HX
theorem HOk.tail {x : Nat} {r : List Nat} (h : HOk (x :: r)) : HOk r := fun y hy => h y (List.mem_cons_of_mem _ hy)
theorem HOk.head {x : Nat} {r : List Nat} (h : HOk (x :: r)) : x < HX := h x (List.mem_cons_self ..)
theorem HOk.append {a b : List Nat} (ha : HOk a) (hb : HOk b) : HOk (a ++ b) := fun x hx => (List.mem_append.1 hx).elim (ha x) (hb x)
theorem HOk.take {l : List Nat} (h : HOk l) (k : Nat) : HOk (l.take k) := fun x hx => h x (List.mem_of_mem_take hx)
theorem HOk.drop {l : List Nat} (h : HOk l) (k : Nat) : HOk (l.drop k) := fun x hx => h x (List.mem_of_mem_drop hx)
theorem HOk.set {l : List Nat} (h : HOk l) (k v : Nat) (hv : v < HX) : HOk (l.set k v) := fun x hx => (List.mem_or_eq_of_mem_set hx).elim (h x) (fun e => e ▸ hv)
theorem HOk.replicate (n : Nat) : HOk (List.replicate n 0) := fun x hx => by rw [List.eq_of_mem_replicate hx]; exact HX_pos
theorem HOk.gw_ {l : List Nat} (h : HOk l) (k : Nat) : gw l k < HX := by
 unfold gw
 rw [List.getD_eq_getElem?_getD]
 cases hk : l[k]? with
 | none => simpa using HX_pos
 | some v => exact h v (List.mem_of_getElem? hk)
theorem hval_append (a b : List Nat) : hval (a ++ b) = hval a + HX ^ a.length * hval b := by
 induction a with
 | nil => simp [hval]
 | cons x r ih => simp only [List.cons_append, hval, ih, List.length_cons, Nat.pow_succ, Nat.mul_add]; rw [Nat.mul_comm (HX ^ r.length) HX, Nat.mul_assoc]; omega
theorem hval_replicate (n : Nat) : hval (List.replicate n 0) = 0 := by
 induction n with
 | zero => simp [hval]
 | succ n ih => simp [List.replicate_succ, hval, ih]
theorem hval_lt {l : List Nat} (h : HOk l) : hval l < HX ^ l.length := by
 induction l with
 | nil => simp [hval]
 | cons x r ih =>
  have h1 := h.head
  have h2 := ih h.tail
  simp only [hval, List.length_cons, Nat.pow_succ]
  have : HX * (hval r + 1) <= HX * HX ^ r.length := Nat.mul_le_mul_left _ h2
  rw [Nat.mul_comm (HX ^ r.length) HX]
  rw [Nat.mul_add] at this
  omega
theorem hval_take_succ (l : List Nat) (k : Nat) : hval (l.take (k + 1)) = hval (l.take k) + HX ^ k * gw l k := by
 unfold gw
 by_cases hk : k < l.length
 · rw [List.take_succ_eq_append_getElem hk, hval_append, List.length_take, Nat.min_eq_left (by omega)]
   simp [hval, hk]
 · rw [List.take_of_length_le (by omega), List.take_of_length_le (by omega)]
   simp [List.getElem?_eq_none (show l.length <= k by omega)]
theorem hval_zeros {l : List Nat} (h : ∀ j, gw l j = 0) : hval l = 0 := by
 induction l with
 | nil => rfl
 | cons x r ih =>
  have h0 := h 0
  have := ih (fun j => by have := h (j + 1); unfold gw at *; simpa using this)
  unfold gw at h0
  simp at h0
  simp [hval, h0, this]
theorem hval_take_of_zeros {l : List Nat} {k : Nat} (h : ∀ j, k <= j -> gw l j = 0) : hval (l.take k) = hval l := by
 by_cases hk : k <= l.length
 · conv => rhs; rw [<- List.take_append_drop k l, hval_append]
   rw [hval_zeros (l := l.drop k) (fun j => by have := h (k + j) (by omega); unfold gw at *; simpa using this)]; omega
 · rw [List.take_of_length_le (by omega)]
theorem hval_take_tlen (l : List Nat) : hval (l.take (tlen l)) = hval l := hval_take_of_zeros (fun j hj => zero_of_tlen l j hj)
structure Hex (n : Nat) (ds : List Nat) : Prop where
 ok : HOk ds
 trim : tlen ds = ds.length
 val : hval ds = n
theorem tlen_take_tlen (l : List Nat) : tlen (l.take (tlen l)) = (l.take (tlen l)).length := by
 have hl := tlen_le l
 rw [List.length_take, Nat.min_eq_left hl]
 rcases Nat.eq_zero_or_pos (tlen l) with h0 | h0
 · rw [h0]; rfl
 · have h1 := tlen_top l (by omega)
   have h2 : tlen l - 1 < tlen (l.take (tlen l)) := lt_tlen _ _ (by
    rw [List.getD_eq_getElem?_getD, List.getElem?_take_of_lt (by omega), <- List.getD_eq_getElem?_getD]; exact h1)
   have h3 := tlen_le (l.take (tlen l))
   rw [List.length_take, Nat.min_eq_left hl] at h3
   omega
theorem Hex.of {l : List Nat} (h : HOk l) : Hex (hval l) (l.take (tlen l)) := ⟨h.take _, tlen_take_tlen l, hval_take_tlen l⟩
theorem Hex.top {n : Nat} {ds : List Nat} (h : Hex n ds) (hl : 0 < ds.length) : HX ^ (ds.length - 1) <= n := by
 have h1 := tlen_top ds (by have := h.trim; omega)
 have h2 := hval_take_succ ds (ds.length - 1)
 have e : ds.length - 1 + 1 = ds.length := by omega
 rw [e, List.take_length, h.val] at h2
 rw [h.trim] at h1
 have h3 : 1 <= gw ds (ds.length - 1) := by unfold gw; omega
 have := Nat.mul_le_mul_left (HX ^ (ds.length - 1)) h3
 omega
theorem Hex.lt {n : Nat} {ds : List Nat} (h : Hex n ds) : n < HX ^ ds.length := by rw [<- h.val]; exact hval_lt h.ok
theorem Hex.shorter {n m : Nat} {xs ys : List Nat} (h : Hex n xs) (k : Hex m ys) (hl : xs.length < ys.length) : n < m := by
 have h1 := h.lt
 have h2 := k.top (by omega)
 have h3 : HX ^ xs.length <= HX ^ (ys.length - 1) := Nat.pow_le_pow_right HX_pos (by omega)
 omega
theorem hval_lt_of {xs ys : List Nat} (hx : HOk xs) (hl : xs.length = ys.length) : ∀ (k : Nat), k < xs.length -> (∀ j, k < j -> gw xs j = gw ys j) -> gw xs k < gw ys k -> hval xs < hval ys := by
 intro k hk hj hlt
 have up : ∀ m, k + 1 <= m -> hval (xs.take m) < hval (ys.take m) := by
  intro m hm
  induction m with
  | zero => omega
  | succ m ih =>
   by_cases e : m = k
   · subst e
     rw [hval_take_succ, hval_take_succ]
     have h1 := hval_lt (hx.take m)
     rw [List.length_take, Nat.min_eq_left (by omega)] at h1
     have h2 : HX ^ m * (gw xs m + 1) <= HX ^ m * gw ys m := Nat.mul_le_mul_left _ hlt
     rw [Nat.mul_add] at h2
     omega
   · rw [hval_take_succ, hval_take_succ, hj m (by omega)]
     have := ih (by omega)
     omega
 have := up xs.length hk
 rw [List.take_length, hl, List.take_length] at this
 exact this
theorem hval_eq_of {xs ys : List Nat} (hl : xs.length = ys.length) (hj : ∀ j, gw xs j = gw ys j) : hval xs = hval ys := by
 have : xs = ys := List.ext_getElem hl fun j h1 h2 => by
  have := hj j
  unfold gw at this
  rw [List.getD_eq_getElem?_getD, List.getD_eq_getElem?_getD, List.getElem?_eq_getElem h1, List.getElem?_eq_getElem h2] at this
  simpa using this
 rw [this]
def sp4 (w : Nat) : List Nat := [w % HX, w / HX % HX, w / HX / HX % HX, w / HX / HX / HX % HX]
theorem sp4_ok (w : Nat) : HOk (sp4 w) := fun x hx => by
 simp only [sp4, List.mem_cons, List.not_mem_nil, or_false] at hx
 rcases hx with rfl | rfl | rfl | rfl <;> exact Nat.mod_lt _ HX_pos
theorem sp4_val {w : Nat} (h : w < W) : hval (sp4 w) = w := by
 simp only [sp4, hval, Nat.mul_zero, Nat.add_zero]
 unfold W at h; unfold HX; omega
theorem sp4_length (w : Nat) : (sp4 w).length = 4 := rfl
def spl (ws : List Nat) : List Nat := ws.flatMap sp4
theorem spl_cons (w : Nat) (ws : List Nat) : spl (w :: ws) = sp4 w ++ spl ws := by simp [spl]
theorem spl_ok (ws : List Nat) : HOk (spl ws) := by
 induction ws with
 | nil => intro x hx; simp [spl] at hx
 | cons w ws ih => rw [spl_cons]; exact (sp4_ok w).append ih
theorem spl_length (ws : List Nat) : (spl ws).length = 4 * ws.length := by
 induction ws with
 | nil => rfl
 | cons w ws ih => rw [spl_cons, List.length_append, ih, sp4_length, List.length_cons]; omega
theorem spl_val {ws : List Nat} (h : Ok ws) : hval (spl ws) = nval ws := by
 induction ws with
 | nil => rfl
 | cons w ws ih =>
  rw [spl_cons, hval_append, sp4_length, HX_pow4, sp4_val h.head, ih h.tail]; rfl
def ch4 (ds : List Nat) (q : Nat) : Nat := hval ((ds.drop (4 * q)).take 4)
theorem ch4_lt {ds : List Nat} (h : HOk ds) (q : Nat) : ch4 ds q < W := by
 unfold ch4
 refine Nat.lt_of_lt_of_le (hval_lt ((h.drop _).take _)) ?_
 rw [<- HX_pow4]
 exact Nat.pow_le_pow_right HX_pos (by simp; omega)
theorem nval_ch4 : ∀ (n : Nat) (ds : List Nat), ds.length <= 4 * n -> nval ((List.range n).map (ch4 ds)) = hval ds
 | 0, ds, h => by
  have : ds = [] := List.length_eq_zero_iff.1 (by omega)
  subst this; rfl
 | n + 1, ds, h => by
  have ih := nval_ch4 n (ds.drop 4) (by simp; omega)
  rw [List.range_succ_eq_map, List.map_cons, List.map_map]
  have e : (List.range n).map (ch4 ds ∘ Nat.succ) = (List.range n).map (ch4 (ds.drop 4)) := by
   refine List.map_congr_left (fun q _ => ?_)
   simp only [Function.comp, ch4, List.drop_drop]
   congr 3; omega
  rw [e, nval, ih]
  unfold ch4
  simp only [Nat.mul_zero, List.drop_zero]
  conv => rhs; rw [<- List.take_append_drop 4 ds, hval_append]
  by_cases h4 : 4 <= ds.length
  · rw [List.length_take, Nat.min_eq_left h4, HX_pow4]
  · rw [List.drop_of_length_le (by omega)]; simp [hval]
theorem ch4_ok {ds : List Nat} (h : HOk ds) (n : Nat) : Ok ((List.range n).map (ch4 ds)) := fun x hx => by
 obtain ⟨q, _, rfl⟩ := List.mem_map.1 hx
 exact ch4_lt h q
theorem ch4_dig {ds : List Nat} {n m : Nat} (h : Hex m ds) (h1 : ds.length <= 4 * n) (h2 : 4 * n < ds.length + 4) : (List.range n).map (ch4 ds) = dig m := by
 have hok := ch4_ok h.ok n
 have hv := nval_ch4 n ds h1
 rw [h.val] at hv
 have hd := dig_nval hok
 rw [hv] at hd
 rw [hd]
 have hl : tlen ((List.range n).map (ch4 ds)) = n := by
  have := tlen_le ((List.range n).map (ch4 ds))
  rw [List.length_map, List.length_range] at this
  rcases Nat.eq_zero_or_pos n with h0 | h0
  · omega
  · have : n - 1 < tlen ((List.range n).map (ch4 ds)) := lt_tlen _ _ (by
     rw [List.getD_eq_getElem?_getD]
     simp only [List.getElem?_map, List.getElem?_range (show n - 1 < n by omega), Option.map_some, Option.getD_some]
     unfold ch4
     intro e
     have h3 : 0 < (ds.drop (4 * (n - 1))).length := by simp; omega
     have h4 : (ds.drop (4 * (n - 1))).length <= 4 := by simp; omega
     rw [List.take_of_length_le h4] at e
     have h5 := h.top (by omega)
     have h6 : hval ds = hval (ds.take (4 * (n - 1))) := by
      conv => lhs; rw [<- List.take_append_drop (4 * (n - 1)) ds, hval_append, e]
      omega
     have h7 := hval_lt (h.ok.take (4 * (n - 1)))
     rw [<- h6, h.val, List.length_take, Nat.min_eq_left (by omega)] at h7
     have h8 : HX ^ (4 * (n - 1)) <= HX ^ (ds.length - 1) := Nat.pow_le_pow_right HX_pos (by omega)
     omega)
    omega
 rw [List.take_of_length_le (by rw [List.length_map, List.length_range, hl]; exact Nat.le_refl _)]
end Go.Proofs.YtknkkceioockjaaGreat
namespace Go.Proofs.YtknkkceioockjaaGreat
open Go.RowKit
theorem results_mat_tmp {fn : Func} {p q : Tmp} (h : fn.results = #[.cell p 24, .tmp q]) (tmps : Array Value) (w : World) (g : Nat) (a b c : Value) (hp : tmps.getD p undef = .pointer (some ⟨g, 0, none⟩)) (hr : RowAt w g 24 [a, b, c]) :
 (results fn tmps).run Tryz.prog w = .ok (.tuple #[.agg #[a, b, c], tmps.getD q undef]) w := by
 have hp' : tmps[p]?.getD undef = .pointer (some ⟨g, 0, none⟩) := by simpa using hp
 simp [results, h, hp', asAddr, run_loadVar_row w g 24 24 #[a, b, c] (0, 0) _ hr Tryz.underlying24 rfl (by kernel_rfl)]
theorem RowAt.set3 {w : World} {b : Nat} {t : TypeId} {x y z : Value} (h : RowAt w b t [x, y, z]) (u v s : Value) : RowAt (((w.setCell ⟨b, 0, none⟩ u).setCell ⟨b, 1, none⟩ v).setCell ⟨b, 2, none⟩ s) b t [u, v, s] := by
 have := ((h.set 0 u).set 1 v).set 2 s
 exact this
theorem NoW.i64 {x : Int} {cs : List Value} (h : NoW cs) : NoW (.int .i64 x :: cs) := fun c hc n => by
 rcases List.mem_cons.1 hc with rfl | hc
 · simp
 · exact h c hc n
theorem NoW.mat (a b : Int) (ao : Option Addr) (l k : Nat) : NoW [.int .i64 a, .int .i64 b, .slice ao l k] := NoW.i64 (NoW.i64 (NoW.slice NoW.nil))
theorem RowN.setMat {w : World} {b : Nat} {xs : List Int} (h : RowN w b xs) {g : Nat} {x y : Int} {ao : Option Addr} {l k : Nat} (hr : RowAt w g 24 [.int .i64 x, .int .i64 y, .slice ao l k]) (u v : Int) (ao' : Option Addr) (l' k' : Nat) : RowN (((w.setCell ⟨g, 0, none⟩ (.int .i64 u)).setCell ⟨g, 1, none⟩ (.int .i64 v)).setCell ⟨g, 2, none⟩ (.slice ao' l' k')) b xs := by
 have h1 := h.setFar hr (by decide) (NoW.mat x y ao l k) 0 (.int .i64 u)
 have r1 : RowAt _ g 24 [.int .i64 u, .int .i64 y, .slice ao l k] := hr.set 0 (.int .i64 u)
 have h2 := h1.setFar r1 (by decide) (NoW.mat u y ao l k) 1 (.int .i64 v)
 have r2 : RowAt _ g 24 [.int .i64 u, .int .i64 v, .slice ao l k] := r1.set 1 (.int .i64 v)
 exact h2.setFar r2 (by decide) (NoW.mat u v ao l k) 2 (.slice ao' l' k')
set_option maxRecDepth 100000 in
set_option maxHeartbeats 4000000 in
theorem MLeast_c (r c : Int) (ao : Option Addr) (len cap : Nat) (xs : List Int) (w : World) (hr : -9223372036854775808 <= r /\ r <= 9223372036854775807) (hc : -9223372036854775808 <= c /\ c <= 9223372036854775807) (h : LsAt w 17592186044415 ao xs) (hl : len = xs.length) (hs : soundM r c len = true) (hlen : xs.length <= 8796093022208) :
 Calls Tryz.prog 137 #[.agg #[.int .i64 r, .int .i64 c, .slice ao len cap]] w fun e w' => (∃ b, e = .returned (.tuple #[.agg #[.int .i64 r, .int .i64 c, .slice (some ⟨b, 0, none⟩) xs.length xs.length], .int .i64 0]) /\ w.heap.size <= b /\ RowN w' b xs) /\ Below w.heap.size w w' := by
 subst hl
 have HL := Lib.hid h; clear h
 have HS := Lib.hid (chkM_ok hs); clear hs
 go_enter Tryz.func137, Tryz.ntmps137
 go_wp2_with fail
 obtain ⟨r1, r2, hb⟩ := two_new w #[.int .i64 r, .int .i64 c, .slice ao xs.length cap] #[.int .i64 0, .int .i64 0, .slice none 0 0] 24 24
 generalize (w.alloc (.cells #[.int .i64 r, .int .i64 c, .slice ao xs.length cap] 24)).alloc (.cells #[.int .i64 0, .int .i64 0, .slice none 0 0] 24) = w2 at *
 refine (Check_c r c ao xs.length cap _ hr hc).mono ?_
 rintro e w3 ⟨rfl, hb3⟩
 rw [HS.out]
 have R1 := r1.below hb3 r1.lt
 have R2 := Lib.hid (r2.below hb3 r2.lt)
 have L3 := Lib.hid ((HL.out.below hb).below hb3)
 have B3 := Lib.hid (hb.trans (hb3.mono hb.size))
 have hs2 : w.heap.size + 1 < w3.heap.size := R2.out.lt
 have e0 : w3.cell? ⟨w.heap.size, 0, none⟩ = some (.int .i64 r) := R1.cell 0
 have e1 : w3.cell? ⟨w.heap.size, 1, none⟩ = some (.int .i64 c) := R1.cell 1
 have e2 : w3.cell? ⟨w.heap.size, 2, none⟩ = some (.slice ao xs.length cap) := R1.cell 2
 have hne : ¬ w.heap.size + 1 = w.heap.size := by omega
 have hlt : w.heap.size < w3.heap.size := by omega
 clear r1 r2 hb hb3 R1
 go_wp2
 go_region_held3 (fun w' => w'.cell? ⟨w.heap.size, 0, none⟩ = some (.int .i64 r) /\ w'.cell? ⟨w.heap.size, 1, none⟩ = some (.int .i64 c) /\ w'.cell? ⟨w.heap.size, 2, none⟩ = some (.slice ao xs.length cap))
  (first
   | exact ⟨e0, e1, e2⟩
   | exact ⟨k0, k1, k2⟩
   | exact ⟨m0, m1, m2⟩)
  (first
   | (go_at_call 139; (refine (EachLeast_c ao cap xs _ (LsAt.below (w := w3) L3.out (Below.refl _ _).drew) hlen).mono ?_); rintro e w4 ⟨⟨b, rfl, hbl, hRb⟩, hb4⟩; have k0 := (hb4.cell (p := ⟨w.heap.size, 0, none⟩) hlt).trans e0; have k1 := (hb4.cell (p := ⟨w.heap.size, 1, none⟩) hlt).trans e1; have k2 := (hb4.cell (p := ⟨w.heap.size, 2, none⟩) hlt).trans e2; have hR4 := RowAt.below (w := w3.drew) R2.out hb4 R2.out.lt; have z0 := hR4.cell 0; have z1 := hR4.cell 1; have z2 := hR4.cell 2; have y0 := hR4.free 0; have y1 := hR4.free 1; have y2 := hR4.free 2; have m0 := ((World.cell?_setCell_far _ ⟨w.heap.size + 1, 2, none⟩ ⟨w.heap.size, 0, none⟩ (.slice (some ⟨b, 0, none⟩) xs.length xs.length) hne).trans ((World.cell?_setCell_far _ ⟨w.heap.size + 1, 1, none⟩ ⟨w.heap.size, 0, none⟩ (.int .i64 c) hne).trans ((World.cell?_setCell_far w4 ⟨w.heap.size + 1, 0, none⟩ ⟨w.heap.size, 0, none⟩ (.int .i64 r) hne).trans k0))); have m1 := ((World.cell?_setCell_far _ ⟨w.heap.size + 1, 2, none⟩ ⟨w.heap.size, 1, none⟩ (.slice (some ⟨b, 0, none⟩) xs.length xs.length) hne).trans ((World.cell?_setCell_far _ ⟨w.heap.size + 1, 1, none⟩ ⟨w.heap.size, 1, none⟩ (.int .i64 c) hne).trans ((World.cell?_setCell_far w4 ⟨w.heap.size + 1, 0, none⟩ ⟨w.heap.size, 1, none⟩ (.int .i64 r) hne).trans k1))); have m2 := ((World.cell?_setCell_far _ ⟨w.heap.size + 1, 2, none⟩ ⟨w.heap.size, 2, none⟩ (.slice (some ⟨b, 0, none⟩) xs.length xs.length) hne).trans ((World.cell?_setCell_far _ ⟨w.heap.size + 1, 1, none⟩ ⟨w.heap.size, 2, none⟩ (.int .i64 c) hne).trans ((World.cell?_setCell_far w4 ⟨w.heap.size + 1, 0, none⟩ ⟨w.heap.size, 2, none⟩ (.int .i64 r) hne).trans k2)))))
 go_wp2
 have hs4 := hb4.size
 have hbl : w3.heap.size <= b := hbl
 have hbw : Below w.heap.size w w4 := B3.out.drew.trans (hb4.mono B3.out.size)
 refine bodyPost_ret (results_mat_tmp (p := 2) (q := 3) (by kernel_rfl) _ _ (w.heap.size + 1) _ _ _ rfl (hR4.set3 (.int .i64 r) (.int .i64 c) (.slice (some ⟨b, 0, none⟩) xs.length xs.length))) rfl ?_
 exact ⟨⟨b, rfl, by omega, hRb.setMat hR4 r c _ _ _⟩, ((hbw.setCell (p := ⟨w.heap.size + 1, 0, none⟩) (Nat.le_succ _) _).setCell (p := ⟨w.heap.size + 1, 1, none⟩) (Nat.le_succ _) _).setCell (p := ⟨w.heap.size + 1, 2, none⟩) (Nat.le_succ _) _⟩
set_option maxRecDepth 100000 in
set_option maxHeartbeats 4000000 in
theorem MLines_c (r c : Int) (ao : Option Addr) (len cap : Nat) (xs : List Int) (w : World) (hr : -9223372036854775808 <= r /\ r <= 9223372036854775807) (hc : -9223372036854775808 <= c /\ c <= 9223372036854775807) (h : LsAt w 17592186044415 ao xs) (hl : len = xs.length) (hs : soundM r c len = true) (hlen : xs.length <= 8796093022208) :
 Calls Tryz.prog 89 #[.agg #[.int .i64 r, .int .i64 c, .slice ao len cap]] w fun e w' => (∃ g b, e = .returned (.func (.func 138) #[] #[.pointer (some ⟨g, 0, none⟩)]) /\ w.heap.size <= g /\ w.heap.size <= b /\ RowAt w' g 24 [.int .i64 r, .int .i64 c, .slice (some ⟨b, 0, none⟩) xs.length xs.length] /\ RowN w' b xs) /\ Below w.heap.size w w' := by
 subst hl
 have HL := Lib.hid h; clear h
 have hb0 : Below w.heap.size w (w.alloc (.cells #[.int .i64 r, .int .i64 c, .slice ao xs.length cap] 24)) := (Below.refl _ _).alloc (Nat.le_refl _) _
 have HB0 := Lib.hid hb0; clear hb0
 go_enter Tryz.func89, Tryz.ntmps89
 go_wp2_with fail
 generalize w.alloc (.cells #[.int .i64 r, .int .i64 c, .slice ao xs.length cap] 24) = w1 at *
 refine (MLeast_c r c ao xs.length cap xs _ hr hc (HL.out.below HB0.out) rfl hs hlen).mono ?_
 rintro e w2 ⟨⟨b, rfl, hb, hR⟩, hb2⟩
 have hbw : Below w.heap.size w w2 := HB0.out.trans (hb2.mono HB0.out.size)
 have hs1 := HB0.out.size
 have HBW := Lib.hid hbw; clear hbw
 have HR := Lib.hid hR; clear hR
 have hs2 := hb2.size
 clear hb2
 go_wp2
 go_ret
 have hb3 : Below w2.heap.size w2 (w2.alloc (.cells #[.int .i64 r, .int .i64 c, .slice (some ⟨b, 0, none⟩) xs.length xs.length] 24)) := (Below.refl _ _).alloc (Nat.le_refl _) _
 have hr3 := RowAt.new w2 #[.int .i64 r, .int .i64 c, .slice (some ⟨b, 0, none⟩) xs.length xs.length] 24
 have hsz := HBW.out.size
 exact ⟨⟨w2.heap.size, b, rfl, by omega, by omega, hr3, HR.out.below hb3⟩, HBW.out.trans (hb3.mono (by omega))⟩
structure KeepS (B : Nat) (S : Nat -> Prop) (w w' : World) : Prop where
 os : w'.os = w.os
 tape : w'.tape = w.tape
 output : w'.output = w.output
 size : w.heap.size <= w'.heap.size
 block : ∀ k, k < B -> ¬ S k -> w'.heap[k]? = w.heap[k]?
theorem KeepS.trans {B : Nat} {S : Nat -> Prop} {a b c : World} (h : KeepS B S a b) (k : KeepS B S b c) : KeepS B S a c :=
 ⟨k.os.trans h.os, k.tape.trans h.tape, k.output.trans h.output, Nat.le_trans h.size k.size, fun i hi hs => (k.block i hi hs).trans (h.block i hi hs)⟩
theorem KeepS.putObj {B : Nat} {S : Nat -> Prop} (w : World) {l : Nat} (o : Obj) (hl : B <= l) : KeepS B S w (w.putObj l o) :=
 ⟨rfl, rfl, rfl, by simp, fun k hk _ => World.putObj_heap_other (by omega)⟩
theorem KeepS.of_below {B : Nat} {S : Nat -> Prop} {w w' : World} (h : Below B w w') : KeepS B S w w' := ⟨h.os, h.tape, h.output, h.size, fun k hk _ => h.block k hk⟩
def handPost {α : Type} (B : Nat) (S : Nat -> Prop) (I : List α -> World -> Prop) (xs : List α) (W : World) : Exit -> Act -> World -> Prop
 | .normal, _, W' => KeepsOthers W W' /\ KeepS B S W W' /\ I xs W'
 | _, _, _ => False
theorem range_hand {α : Type} {P : Program} {n : Nat} {g : Operand} {ps : Array Tmp} {assign body : Code} {Q : Exit -> Act -> World -> Prop} {a : Act} {w : World}
 {gf : Nat} {lb : Array Value} (hg : a.eval g = .func (.func gf) #[] lb) (eg : ∀ args w, (callFunc gf args).run P w = .ok (.enter gf args) w)
 {encs : α -> Array Value} (hps : ∀ x, (encs x).size = ps.size) (S : Nat -> Prop) (N : Nat) (Sx : List α -> Prop)
 (E : List α -> α -> World -> Prop) (I : List α -> World -> Prop)
 (hE : ∀ s x W l o o', E s x W -> w.heap.size <= l -> W.heap[l]? = some o -> o.isCells = false -> E s x (W.putObj l o'))
 (hIl : ∀ s W l o o', I s W -> w.heap.size <= l -> W.heap[l]? = some o -> o.isCells = false -> I s (W.putObj l o'))
 (hIb : ∀ s A B, I s A -> Below A.heap.size A B -> I s B) (h0 : I [] w) (a₁ : α -> Act)
 (hseq : ∀ (l : Nat) (J : List α -> World -> Prop) (W : World), Below w.heap.size w W -> (∀ s A B, J s A -> Below A.heap.size A B -> J s B) ->
  (∀ pre x W1, J pre W1 -> E pre x W1 -> pre.length < N -> YieldAt Fence.wide (n - 1 - 1) P l (encs x) W1 fun e W' => e = .returned (.bool true) /\ J (pre ++ [x]) W' /\ KeepS w.heap.size S W1 W') ->
  J [] W -> CallsIn Fence.wide (n - 1) P gf (#[.func (.yield l) #[] #[]] ++ lb) W fun e W' => (∃ v, e = .returned v) /\ ∃ xs, Sx xs /\ J xs W')
 (hassign : ∀ (l : Nat) (x : α) (W : World) (K : Act -> World -> Prop), K (a₁ x) W ->
  assign.wpIn (Fence.wide.inRound l) (n - 1 - 1) P (Exit.then K (fun _ _ _ => False)) { tmps := (ps.zip (encs x)).foldl (fun t (p, v) => t.setIfInBounds p v) a.tmps, defers := [] } W)
 (hbody : ∀ (l : Nat) (pre : List α) (x : α) (W : World), I pre W -> E pre x W -> pre.length < N -> body.wpIn (Fence.wide.inRound l) (n - 1 - 1) P (handPost w.heap.size S I (pre ++ [x]) W) (a₁ x) W)
 (hdone : ∀ (D : Nat) (xs : List α) (W : World), w.heap.size <= D -> Sx xs -> I xs W -> W.heap[D]? = some (.deferred (some [])) -> Q .normal { a with defers := { target := .collected D, args := #[] } :: a.defers } W) :
 (Code.rangeFunc g ps assign body).wpIn Fence.wide n P Q a w := by
 refine wpIn_rangeFunc ?_
 intro fn hfn
 obtain ⟨R, hR⟩ : ∃ R : LoopState -> Option Code -> Loop, R = fun st pe => { state := st, pending := pe, fn, tmps := a.tmps, params := ps, assign, body, defers := w.heap.size } := ⟨_, rfl⟩
 have hz0 : (w.alloc (.deferred (some []))).heap.size = w.heap.size + 1 := by simp
 have hbA : Below w.heap.size w (w.alloc (.deferred (some []))) := (Below.refl _ _).alloc (Nat.le_refl _) _
 have hbB : Below (w.heap.size + 1) (w.alloc (.deferred (some []))) ((w.alloc (.deferred (some []))).alloc (.loop (R .ready none))) := (Below.refl _ _).alloc (by simp) _
 have hl0 : ((w.alloc (.deferred (some []))).alloc (.loop (R .ready none))).heap[w.heap.size + 1]? = some (.loop (R .ready none)) := by
  have := World.alloc_heap_new (w.alloc (.deferred (some []))) (.loop (R .ready none)); rwa [World.size_alloc] at this
 have hd0 : ((w.alloc (.deferred (some []))).alloc (.loop (R .ready none))).heap[w.heap.size]? = some (.deferred (some [])) :=
  (hbB.block _ (by omega)).trans (World.alloc_heap_new w _)
 have hen := run_enterLoop_outer (P := P) (w := w) fn a.tmps ps assign body
 have hI1 : I [] ((w.alloc (.deferred (some []))).alloc (.loop (R .ready none))) := hIb _ _ _ (hIb _ _ _ h0 hbA) (by rw [hz0]; exact hbB)
 have hbw : Below w.heap.size w ((w.alloc (.deferred (some []))).alloc (.loop (R .ready none))) := hbA.trans (hbB.mono (by omega))
 rw [show ({ state := .ready, pending := none, fn, tmps := a.tmps, params := ps, assign, body, defers := w.heap.size } : Loop) = R .ready none by rw [hR]] at hen
 generalize (w.alloc (.deferred (some []))).alloc (.loop (R .ready none)) = W0 at *
 refine ⟨w.heap.size + 1, [{ target := .collected w.heap.size, args := #[] }], W0, { target := .fn (.func gf) lb, args := #[.func (.yield (w.heap.size + 1)) #[] #[]] }, W0, gf,
  #[.func (.yield (w.heap.size + 1)) #[] #[]] ++ lb, W0, hen, ?_, fun _ _ => trivial, by simp [invoke, go_sem, eg], fun h => absurd h (by decide), ?_⟩
 · simp only [resolve, hg]
   simp [go_sem]
 have hlp : ∀ st pe, (Obj.loop (R st pe)).isCells = false := fun _ _ => rfl
 refine (hseq (w.heap.size + 1) (fun pre W => I pre W /\ W.heap[w.heap.size + 1]? = some (.loop (R .ready none)) /\ W.heap[w.heap.size]? = some (.deferred (some []))) W0 hbw ?_ ?_ ⟨hI1, hl0, hd0⟩).mono ?_
 · rintro s A B ⟨h1, h2, h3⟩ hb
   exact ⟨hIb _ _ _ h1 hb, (hb.block _ (Array.getElem?_eq_some_iff.1 h2).1).trans h2, (hb.block _ (Array.getElem?_eq_some_iff.1 h3).1).trans h3⟩
 · rintro pre x W ⟨hi, hl, hd⟩ hx hlen
   have hlt : w.heap.size + 1 < W.heap.size := (Array.getElem?_eq_some_iff.1 hl).1
   have hy := run_yield (P := P) (args := encs x) hl (by rw [hR]; exact hps x)
   have hbg := run_beginRound (P := P) hl (by rw [hR])
   have hle : w.heap.size <= w.heap.size + 1 := by omega
   rw [hR] at hy hbg
   refine ⟨fn, _, assign, body, hy, roundIn_of_wpIn hfn (hassign _ x W _ ⟨_, hbg, ?_⟩)⟩
   have hl2 : (W.putObj (w.heap.size + 1) (.loop (R .busy none))).heap[w.heap.size + 1]? = some (.loop (R .busy none)) := World.putObj_heap_same hlt
   have hd2 : (W.putObj (w.heap.size + 1) (.loop (R .busy none))).heap[w.heap.size]? = some (.deferred (some [])) := (World.putObj_heap_other (by omega)).trans hd
   have hk2 : KeepS w.heap.size S W (W.putObj (w.heap.size + 1) (.loop (R .busy none))) := KeepS.putObj W _ hle
   have hi2 := hIl pre W (w.heap.size + 1) _ (.loop (R .busy none)) hi hle hl rfl
   have hx2 := hE pre x W (w.heap.size + 1) _ (.loop (R .busy none)) hx hle hl rfl
   rw [show ({ state := .busy, pending := none, fn, tmps := a.tmps, params := ps, assign, body, defers := w.heap.size } : Loop) = R .busy none by rw [hR]]
   generalize W.putObj (w.heap.size + 1) (.loop (R .busy none)) = W2 at *
   refine wpIn_mono (hbody (w.heap.size + 1) pre x W2 hi2 hx2 hlen) ?_
   intro e a3 W3 hp
   cases e with
   | normal =>
    obtain ⟨hk3, hkp3, hi3⟩ := hp
    have hl3 := hk3.same _ _ hl2 rfl
    have hd3 := hk3.same _ _ hd2 rfl
    have hend := run_endRound (P := P) none hl3
    rw [hR] at hend
    refine ⟨_, _, hend, rfl, ⟨hIl _ _ _ _ _ hi3 hle hl3 rfl, ?_, ?_⟩, ?_⟩
    · rw [World.putObj_heap_same (Array.getElem?_eq_some_iff.1 hl3).1, hR]; rfl
    · exact (World.putObj_heap_other (by omega)).trans hd3
    · exact hk2.trans (hkp3.trans (KeepS.putObj _ _ hle))
   | ret => exact hp.elim
   | exit id => exact hp.elim
   | goto t => exact hp.elim
   | panic ch => exact hp.elim
   | outgrown => exact hp.elim
 · rintro e W2 ⟨⟨v, rfl⟩, xs, hS, hi, hl, hd⟩
   have hle : w.heap.size <= w.heap.size + 1 := by omega
   have hend := run_endLoop (P := P) hl (by rw [hR]; simp)
   rw [hR] at hend
   exact ⟨none, _, hend, hdone _ xs _ (Nat.le_refl _) hS (hIl _ _ _ _ _ hi hle hl rfl) ((World.putObj_heap_other (by omega)).trans hd)⟩
attribute [local go_sem] Oper.semAt_some
abbrev NR := Nat × Hd
def NR.enc (x : NR) : Array Value := #[.int .i64 (x.1 : Int), .slice (some ⟨x.2.blk, 0, none⟩) x.2.xs.length x.2.cap]
def rowOf (xs : List Int) (c k : Nat) : List Int := (xs.drop (k * c)).take c
theorem rowOf_length {xs : List Int} {r c k : Nat} (hl : xs.length = r * c) (hk : k < r) : (rowOf xs c k).length = c := by
 have h1 : (k + 1) * c <= r * c := Nat.mul_le_mul_right _ (by omega)
 have h2 : (k + 1) * c = k * c + c := Nat.succ_mul k c
 simp [rowOf, hl]; omega
def HandE (B : Nat) (pre : List NR) (x : NR) (W : World) : Prop := RowN W x.2.blk x.2.xs /\ B <= x.2.blk /\ ∀ y ∈ pre, y.2.blk ≠ x.2.blk
def HandS (r c : Nat) (xs : List Int) (zs : List NR) : Prop := zs.length = r /\ ∀ k (h : k < zs.length), zs[k] = (k, ⟨(zs[k]).2.blk, c, rowOf xs c k⟩)
theorem LsAt.piece {w : World} {b : Nat} {xs : List Int} (h : RowN w b xs) (L : Nat) (hL : ∀ x ∈ xs, wlen x.natAbs <= L) (k c : Nat) : LsAt w L (some ⟨b, k * c * 2, none⟩) (rowOf xs c k) := by
 intro hp
 refine ⟨b, k * c * 2, rfl, h.lt, fun i hi => ?_⟩
 have h0 : i < c := by simp [rowOf] at hi; omega
 have h1 : k * c + i < xs.length := by simp [rowOf] at hi; omega
 obtain ⟨p, h2, h3, h4⟩ := h.get h1
 have e : (k * c + i) * 2 = k * c * 2 + i * 2 := by omega
 rw [e] at h2 h3
 refine ⟨p, h2, h3, ?_⟩
 have e2 : (rowOf xs c k)[i] = xs[k * c + i] := by simp [rowOf]
 rw [e2]
 exact h4.int (hL _ (List.getElem_mem _))
set_option maxRecDepth 100000 in
set_option maxHeartbeats 4000000 in
theorem Lines1_hand (n g b r c : Nat) (xs : List Int) (w : World) (S : Nat -> Prop) (hS : Wordless S w) (hg : RowAt w g 24 [.int .i64 (r : Int), .int .i64 (c : Int), .slice (some ⟨b, 0, none⟩) xs.length xs.length]) (hgS : ¬ S g) (hb : RowN w b xs) (hbS : ¬ S b) (hl : xs.length = r * c) (hr : r <= 100000) (hc : c <= 100000)
 (hL : ∀ x ∈ xs, wlen x.natAbs <= 17592186044415)
 (l : Nat) (J : List NR -> World -> Prop) (W : World) (hW : Below w.heap.size w W) (hJ : ∀ s A B, J s A -> Below A.heap.size A B -> J s B)
 (hY : ∀ pre x W1, J pre W1 -> HandE w.heap.size pre x W1 -> pre.length < r -> YieldAt Fence.wide (n - 1) Tryz.prog l (NR.enc x) W1 fun e W' => e = .returned (.bool true) /\ J (pre ++ [x]) W' /\ KeepS w.heap.size S W1 W')
 (h0 : J [] W) (hn : 1 <= n) :
 CallsIn Fence.wide n Tryz.prog 138 (#[.func (.yield l) #[] #[]] ++ #[.pointer (some ⟨g, 0, none⟩)]) W fun e W' => (∃ v, e = .returned v) /\ ∃ zs, HandS r c xs zs /\ J zs W' := by
 have HG := Lib.hid hg; clear hg
 have HB := Lib.hid hb; clear hb
 have HL := Lib.hid hl; clear hl
 have HW := Lib.hid hW; clear hW
 have HY := Lib.hid hY; clear hY
 have HWL := Lib.hid hS; clear hS
 have g0 := (HG.out.below HW.out HG.out.lt).cell 0
 refine callsIn_of_wp Tryz.func138 rfl trivial ?_ rfl
 simp only [Tryz.ntmps138, List.size_toArray, List.length_cons, List.length_nil, Nat.reduceAdd, Nat.reduceSub, Array.replicate_succ, Array.replicate_zero, List.push_toArray, List.append_toArray, List.nil_append, List.cons_append]
 simp only [List.getElem?_cons_zero] at g0
 gi_wp2
 clear g0
 gi_loopw [6] (fun i wr => ∃ (k : Nat) (zs : List NR), k <= r /\ i = .int .i64 (k : Int) /\ Hid (zs.length = k /\ (∀ j (h : j < zs.length), zs[j] = (j, ⟨(zs[j]).2.blk, c, rowOf xs c j⟩)) /\ (∀ y ∈ zs, y.2.blk < wr.heap.size) /\ J zs wr /\ Chg S w wr))
  (fun i _ => r - (intOf i).toNat)
 case atStart => exact ⟨0, [], Nat.zero_le _, rfl, Lib.hid ⟨rfl, fun j h => absurd h (by simp), fun y h => absurd h (by simp), h0, Chg.of_below HW.out⟩⟩
 case round =>
  obtain ⟨k, zs, hk, rfl, HI⟩ := hrel
  by_cases hlt : k < r
  · have hlt' : (k : Int) < (r : Int) := by omega
    have g0 := (HI.out.2.2.2.2.row HG.out hgS).cell 0
    have g1 := (HI.out.2.2.2.2.row HG.out hgS).cell 1
    have g2 := (HI.out.2.2.2.2.row HG.out hgS).cell 2
    simp only [List.getElem?_cons_zero, List.getElem?_cons_succ] at g0 g1 g2
    obtain ⟨q, hq⟩ : ∃ q, k * c = q := ⟨_, rfl⟩
    have hq2 : (k + 1) * c = q + c := by rw [Nat.succ_mul, hq]
    have hq3 : q + c <= xs.length := by rw [<- hq2, HL.out]; exact Nat.mul_le_mul_right _ hlt
    have hxl : xs.length <= 10000000000 := by rw [HL.out]; exact Nat.mul_le_mul hr hc
    have hw1 : wrap64 ((k : Int) * (c : Int)) = (q : Int) := by
     rw [<- Int.natCast_mul, hq]; unfold wrap64; omega
    have hw2 : wrap64 (((k : Int) + 1) * (c : Int)) = (q : Int) + (c : Int) := by
     have : ((k : Int) + 1) * (c : Int) = ((q + c : Nat) : Int) := by rw [<- hq2]; push_cast; rfl
     rw [this]; push_cast; unfold wrap64; omega
    have hpc : LsAt wr 17592186044415 (some ⟨b, q * 2, none⟩) (rowOf xs c k) := by
     rw [<- hq]; exact LsAt.piece (HI.out.2.2.2.2.rowN HWL.out HB.out hbS) _ hL k c
    have hrl : (rowOf xs c k).length = c := rowOf_length HL.out hlt
    have HP := Lib.hid hpc; clear hpc
    have HQ := Lib.hid hq; clear hq
    have HQ2 := Lib.hid hq2; clear hq2
    have hle1 : (q : Int) + (c : Int) <= (xs.length : Int) := by omega
    have hle2 : (q : Int) <= (q : Int) + (c : Int) := by omega
    have hcap : xs.length - q ≠ 0 ∨ c = 0 := by omega
    gi_wp2_with fail
    · refine ⟨trivial, ?_⟩
      have hE := EachLeast_c (some ⟨b, 0, none⟩) 0 (rowOf xs c k) wr (fun h => by rw [hrl] at h; omega) (by rw [hrl]; omega)
      rw [hrl] at hE
      refine (callsIn_wide.2 hE).mono ?_
      rintro e w3 ⟨⟨bn, rfl, hbn, hrow⟩, hb3⟩
      have hs3 := hb3.size
      have hJ3 : J zs w3 := hJ _ _ _ HI.out.2.2.2.1 hb3
      have hlt3 : bn < w3.heap.size := hrow.lt
      obtain ⟨fn, tmps, assign, body, hy, hR⟩ := HY.out zs (k, ⟨bn, c, rowOf xs c k⟩) w3 hJ3 ⟨hrow, by have := HI.out.2.2.2.2.size; show w.heap.size <= bn; omega, fun y hy => by have := HI.out.2.2.1 y hy; show y.2.blk ≠ bn; omega⟩ (by rw [HI.out.1]; exact hlt)
      simp only [NR.enc] at hy
      rw [hrl] at hy
      have HI3 : Hid (Chg S w w3) := Lib.hid (HI.out.2.2.2.2.below hb3)
      have HZ := Lib.hid (And.intro HI.out.1 (And.intro HI.out.2.1 HI.out.2.2.1))
      have HB3 := Lib.hid hb3
      clear hb3 HI HP hrow hJ3 g0 g1 g2
      gi_wp2
      refine hR.mono ?_
      rintro e W' ⟨rfl, hJ', hk'⟩
      have HJ' := Lib.hid hJ'
      have HK' := Lib.hid hk'
      clear hJ' hk' hy hR
      gi_wp2
      go_roundw
      case rel =>
       refine ⟨k + 1, zs ++ [(k, ⟨bn, c, rowOf xs c k⟩)], by omega, by go_num, Lib.hid ⟨by simp [HZ.out.1], fun j hj => ?_, fun y hy => ?_, HJ'.out, ?_⟩⟩
       · by_cases hjk : j < zs.length
         · rw [List.getElem_append_left hjk]
           exact HZ.out.2.1 j hjk
         · have hjl : j = zs.length := by simp at hj; omega
           subst hjl
           simp [HZ.out.1]
       · have hsz := HK'.out.size
         rcases List.mem_append.1 hy with hy | hy
         · have := HZ.out.2.2 y hy; have := HB3.out.size; omega
         · simp only [List.mem_singleton] at hy; subst hy; show bn < _; omega
       · exact ⟨HK'.out.os.trans HI3.out.os, HK'.out.tape.trans HI3.out.tape, HK'.out.output.trans HI3.out.output, Nat.le_trans HI3.out.size HK'.out.size, fun i hi hs => (HK'.out.block i hi hs).trans (HI3.out.block i hi hs)⟩
      case measure => simp [intOf]; omega
    · refine ⟨trivial, ?_⟩
      have hE := EachLeast_c (some ⟨b, q * 2, none⟩) (xs.length - q) (rowOf xs c k) wr HP.out (by rw [hrl]; omega)
      rw [hrl] at hE
      refine (callsIn_wide.2 hE).mono ?_
      rintro e w3 ⟨⟨bn, rfl, hbn, hrow⟩, hb3⟩
      have hs3 := hb3.size
      have hJ3 : J zs w3 := hJ _ _ _ HI.out.2.2.2.1 hb3
      have hlt3 : bn < w3.heap.size := hrow.lt
      obtain ⟨fn, tmps, assign, body, hy, hR⟩ := HY.out zs (k, ⟨bn, c, rowOf xs c k⟩) w3 hJ3 ⟨hrow, by have := HI.out.2.2.2.2.size; show w.heap.size <= bn; omega, fun y hy => by have := HI.out.2.2.1 y hy; show y.2.blk ≠ bn; omega⟩ (by rw [HI.out.1]; exact hlt)
      simp only [NR.enc] at hy
      rw [hrl] at hy
      have HI3 : Hid (Chg S w w3) := Lib.hid (HI.out.2.2.2.2.below hb3)
      have HZ := Lib.hid (And.intro HI.out.1 (And.intro HI.out.2.1 HI.out.2.2.1))
      have HB3 := Lib.hid hb3
      clear hb3 HI HP hrow hJ3 g0 g1 g2
      gi_wp2
      refine hR.mono ?_
      rintro e W' ⟨rfl, hJ', hk'⟩
      have HJ' := Lib.hid hJ'
      have HK' := Lib.hid hk'
      clear hJ' hk' hy hR
      gi_wp2
      go_roundw
      case rel =>
       refine ⟨k + 1, zs ++ [(k, ⟨bn, c, rowOf xs c k⟩)], by omega, by go_num, Lib.hid ⟨by simp [HZ.out.1], fun j hj => ?_, fun y hy => ?_, HJ'.out, ?_⟩⟩
       · by_cases hjk : j < zs.length
         · rw [List.getElem_append_left hjk]
           exact HZ.out.2.1 j hjk
         · have hjl : j = zs.length := by simp at hj; omega
           subst hjl
           simp [HZ.out.1]
       · have hsz := HK'.out.size
         rcases List.mem_append.1 hy with hy | hy
         · have := HZ.out.2.2 y hy; have := HB3.out.size; omega
         · simp only [List.mem_singleton] at hy; subst hy; show bn < _; omega
       · exact ⟨HK'.out.os.trans HI3.out.os, HK'.out.tape.trans HI3.out.tape, HK'.out.output.trans HI3.out.output, Nat.le_trans HI3.out.size HK'.out.size, fun i hi hs => (HK'.out.block i hi hs).trans (HI3.out.block i hi hs)⟩
      case measure => simp [intOf]; omega
  · obtain rfl : k = r := by omega
    gi_wp2
    go_end0
    exact ⟨⟨_, rfl⟩, zs, ⟨HI.out.1, HI.out.2.1⟩, HI.out.2.2.2.1⟩
attribute [local go_sem] Oper.semAt_some
theorem cell_putObj {w : World} {l : Nat} {o o' : Obj} (hl : w.heap[l]? = some o) (hn : o.isCells = false) {p : Addr} {v : Value} (h : w.cell? p = some v) : (w.putObj l o').cell? p = some v := by
 by_cases e : p.block = l
 · exfalso
   unfold World.cell? at h
   rw [e, hl] at h
   cases o <;> simp_all [Obj.isCells]
 · exact (World.cell?_of_block (World.putObj_heap_other e)).trans h
theorem row_putObj {w : World} {l : Nat} {o o' : Obj} (hl : w.heap[l]? = some o) (hn : o.isCells = false) {b : Nat} {t : TypeId} {cs : List Value} (h : RowAt w b t cs) : RowAt (w.putObj l o') b t cs := by
 by_cases e : b = l
 · exfalso
   unfold RowAt at h
   rw [e, hl] at h
   injection h with h
   subst h
   simp [Obj.isCells] at hn
 · unfold RowAt at *
   rw [World.putObj_heap_other e]; exact h
theorem size_putObj (w : World) (l : Nat) (o : Obj) : (w.putObj l o).heap.size = w.heap.size := by simp
theorem wat_putObj {w : World} {l : Nat} {o o' : Obj} (hl : w.heap[l]? = some o) (hn : o.isCells = false) {ao : Option Addr} {ws : List Nat} (h : WAt w ao ws) : WAt (w.putObj l o') ao ws := by
 refine ⟨h.1, fun hp => ?_⟩
 obtain ⟨b, q, e, hb, hc⟩ := h.2 hp
 exact ⟨b, q, e, by rw [size_putObj]; exact hb, fun i hi => cell_putObj hl hn (hc i hi)⟩
theorem int_putObj {w : World} {l : Nat} {o o' : Obj} (hl : w.heap[l]? = some o) (hn : o.isCells = false) {L : Nat} {v : Value} {x : Int} (h : IntAt w L v x) : IntAt (w.putObj l o') L v x := by
 obtain ⟨n, ao, len, cap, ws, e, hW, r⟩ := h
 exact ⟨n, ao, len, cap, ws, e, wat_putObj hl hn hW, r⟩
theorem rowN_putObj {w : World} {l : Nat} {o o' : Obj} (hl : w.heap[l]? = some o) (hn : o.isCells = false) {b : Nat} {xs : List Int} (h : RowN w b xs) : RowN (w.putObj l o') b xs := by
 obtain ⟨ps, hr, hl', hN⟩ := h
 exact ⟨ps, row_putObj hl hn hr, hl', fun i h1 h2 => ⟨int_putObj hl hn (hN i h1 h2).1, (hN i h1 h2).2⟩⟩
theorem info_row : (Tryz.prog.info? 22).map (fun i => (i.zero, i.size, i.bytes)) = some (some (.slice none 0 0), 1, 24) := by kernel_rfl
def hdrsTo (r : Nat) (zs : List NR) : List Value := zs.map (fun z => z.2.hdr) ++ List.replicate (r - zs.length) (.slice none 0 0)
structure LinesI (w : World) (B g o r : Nat) (zs : List NR) (W : World) : Prop where
 box : RowAt W g 82 [.slice (some ⟨o, 0, none⟩) zs.length r]
 row : RowAt W o 22 (hdrsTo r zs)
 nums : ∀ z ∈ zs, RowN W z.2.blk z.2.xs /\ B <= z.2.blk
 nd : (zs.map (fun z => z.2.blk)).Nodup
 chg : Chg (fun k => k = g ∨ k = o) w W
theorem wpListIn_app {F : Fence} {n : Nat} {P : Program} {w : World} {ops : Array Oper} {rest : List Oper} {o : Oper} {a : Act} {Q : Exit -> Act -> World -> Prop}
 (hg : o.guard = none) (s x : Operand) (t : TypeId) (hop : o.op = Op.call { callee := Callee.builtin Builtin.append, args := #[s, x], argTypes := #[t, t] })
 (e : TypeId) (z : Value) (size bytes : Nat) (h1 : P.underlying t = some (.slice e)) (h2 : (P.info? e).map (fun i => (i.zero, i.size, i.bytes)) = some (some z, size, bytes))
 (b off sLen sCap : Nat) (ad : Addr) (m c : Nat) (news : List Value) (hs : a.eval s = .slice (some ⟨b, off, none⟩) sLen sCap) (hx : a.eval x = .slice (some ad) m c)
 (hl : news.length = m * size) (hnews : ∀ j u, news[j]? = some u -> w.cell? (ad.add j) = some u) (h1c : ∀ u ∈ news, u.oneCell' = true) (hroom : sLen + m <= sCap)
 (hc : ∀ j, j < news.length -> (w.cell? ⟨b, off + sLen * size + j, none⟩).isSome = true) (hf : ∀ j, j < news.length -> w.frozen? ⟨b, off + sLen * size + j, none⟩ = false)
 (hK : wpListIn F n P ops Q rest (a.put o.dst (.slice (some ⟨b, off, none⟩) (sLen + m) sCap)) (w.setCells b (off + sLen * size) news)) :
 wpListIn F n P ops Q (o :: rest) a w := by
 refine wpListIn_plain hg fun K hK' => ?_
 obtain ⟨i, hi, hz, hsz, hb⟩ := info_parts h2
 subst hsz
 have hrun := run_append_room_cells (P := P) (w := w) t o.type e i h1 hi b off sLen sCap ad m c news hl hnews h1c hroom hc hf
 unfold Oper.wpIn
 refine ⟨?_, ?_⟩
 · simp [Oper.about, hop, resolve, Target.leads, Sem.run_pure]
 · rw [Oper.semAt_plain F _ _ (by rw [hop]; intro c hc'; cases hc')]
   simp [execOp, hop, resolve, invoke, builtin, hs, hx, hrun, Result.andThen]
   exact hK' _ _ hK
theorem wpList_app {P : Program} {w : World} {ops : Array Oper} {rest : List Oper} {o : Oper} {a : Act} {Q : Exit -> Act -> World -> Prop}
 (hg : o.guard = none) (s x : Operand) (t : TypeId) (hop : o.op = Op.call { callee := Callee.builtin Builtin.append, args := #[s, x], argTypes := #[t, t] })
 (e : TypeId) (z : Value) (size bytes : Nat) (h1 : P.underlying t = some (.slice e)) (h2 : (P.info? e).map (fun i => (i.zero, i.size, i.bytes)) = some (some z, size, bytes))
 (b off sLen sCap : Nat) (ad : Addr) (m c : Nat) (news : List Value) (hs : a.eval s = .slice (some ⟨b, off, none⟩) sLen sCap) (hx : a.eval x = .slice (some ad) m c)
 (hl : news.length = m * size) (hnews : ∀ j u, news[j]? = some u -> w.cell? (ad.add j) = some u) (h1c : ∀ u ∈ news, u.oneCell' = true) (hroom : sLen + m <= sCap)
 (hc : ∀ j, j < news.length -> (w.cell? ⟨b, off + sLen * size + j, none⟩).isSome = true) (hf : ∀ j, j < news.length -> w.frozen? ⟨b, off + sLen * size + j, none⟩ = false)
 (hK : wpList P ops Q rest (a.put o.dst (.slice (some ⟨b, off, none⟩) (sLen + m) sCap)) (w.setCells b (off + sLen * size) news)) :
 wpList P ops Q (o :: rest) a w := by
 refine wpList_plain hg fun K hK' => ?_
 obtain ⟨i, hi, hz, hsz, hb⟩ := info_parts h2
 subst hsz
 have hrun := run_append_room_cells (P := P) (w := w) t o.type e i h1 hi b off sLen sCap ad m c news hl hnews h1c hroom hc hf
 simp [Oper.wp, Oper.about, hop, resolve, Target.leads, Sem.run_pure, execOp, invoke, builtin, hs, hx, hrun, Result.andThen]
 exact hK' _ _ hK
theorem made_hdrs (n : Nat) : (madeCells (Value.slice none 0 0).cells (n * 1)).toList = List.replicate n (.slice none 0 0) := by
 rw [madeCells_one _ rfl]
theorem mk_rows {w : World} {ops : Array Oper} {rest : List Oper} {o : Oper} {a : Act} {Q : Exit -> Act -> World -> Prop}
 (hg : o.guard = none) (l c : Operand) (hop : o.op = Op.makeSlice 82 l c)
 {kl kc : IntKind} {L C : Int} (n m : Nat) (hl : a.eval l = .int kl L) (hc : a.eval c = .int kc C) (hL : L = (n : Int)) (hC : C = (m : Int)) (hnm : n <= m) (b2 : m <= 1000000)
 (hK : ∀ b w', Made w w' b 22 (List.replicate m (.slice none 0 0)) -> wpList Tryz.prog ops Q rest (a.put o.dst (.slice (some ⟨b, 0, none⟩) n m)) w') :
 wpList Tryz.prog ops Q (o :: rest) a w :=
 wpList_make_row hg l c 82 hop 22 (.slice none 0 0) 1 24 Tryz.underlying82 info_row n m hl hc hL hC hnm (by omega) (by unfold maxLen; omega)
  (fun b w' h => hK b w' (by rw [made_hdrs] at h; exact h))
set_option maxRecDepth 100000 in
set_option maxHeartbeats 4000000 in
theorem lines_c (r c : Nat) (ao : Option Addr) (len cap : Nat) (xs : List Int) (w : World) (hr : r <= 64) (hc : c <= 64) (h : LsAt w 17592186044415 ao xs) (hL : ∀ x ∈ xs, wlen x.natAbs <= 17592186044415) (hl : len = xs.length) (hs : xs.length = r * c) :
 CallsIn Fence.wide 6 Tryz.prog 43 #[.agg #[.int .i64 (r : Int), .int .i64 (c : Int), .slice ao len cap]] w fun e w' => (∃ o R, e = .returned (.slice (some ⟨o, 0, none⟩) R.length r) /\ MatN w' o R /\ R.length = r /\ (∀ k (h : k < R.length), R[k].xs = rowOf xs c k) /\ w.heap.size <= o /\ (∀ x ∈ R, w.heap.size <= x.blk)) /\ Below w.heap.size w w' := by
 subst hl
 have HX := Lib.hid h; clear h
 have HS := Lib.hid hs; clear hs
 refine callsIn_of_wp_marks Tryz.func43 rfl trivial ?_ rfl
 simp only [Tryz.ntmps43, List.size_toArray, List.length_cons, List.length_nil, Nat.reduceAdd, Nat.reduceSub, Array.replicate_succ, Array.replicate_zero, List.push_toArray, List.append_toArray, List.nil_append, List.cons_append]
 refine wpIn_wide.2 ?_
 have hb0 : Below w.heap.size w (w.alloc (.cells #[.int .i64 (r : Int), .int .i64 (c : Int), .slice ao xs.length cap] 24)) := (Below.refl _ _).alloc (Nat.le_refl _) _
 have hr0 := RowAt.new w #[.int .i64 (r : Int), .int .i64 (c : Int), .slice ao xs.length cap] 24
 have HB0 := Lib.hid hb0; clear hb0
 have HR0 := Lib.hid hr0; clear hr0
 go_wp2_with (at_make; refine mk_rows rfl _ _ rfl 0 r rfl rfl rfl rfl (Nat.zero_le _) (by omega) ?_; intro o w1 hm1; have hr1 := (HR0.out.below hm1.below HR0.out.lt).alloc (.cells #[.slice (some ⟨o, 0, none⟩) 0 r] 82); have c0 := hr1.cell 0; have c1 := hr1.cell 1; have c2 := hr1.cell 2; have hm := Lib.hid hm1; clear hm1 hr1; simp only [List.getElem?_cons_zero, List.getElem?_cons_succ] at c0 c1 c2)
 have hr2 := hm.out.row.alloc (.cells #[.slice (some ⟨o, 0, none⟩) 0 r] 82)
 have hr3 := RowAt.new w1 #[.slice (some ⟨o, 0, none⟩) 0 r] 82
 have hb2 : Below w.heap.size w (w1.alloc (.cells #[.slice (some ⟨o, 0, none⟩) 0 r] 82)) := (HB0.out.trans (hm.out.below.mono HB0.out.size)).alloc (by have := HB0.out.size; have := hm.out.below.size; omega) _
 have hg1 : w.heap.size < w1.heap.size := Nat.lt_of_lt_of_le HR0.out.lt hm.out.below.size
 have ho1 : w.heap.size < o /\ o < w1.heap.size := by
  have h1 := hm.out.at_
  have h2 := HR0.out.lt
  have h3 := hm.out.size
  omega
 generalize hw2 : w1.alloc (.cells #[.slice (some ⟨o, 0, none⟩) 0 r] 82) = w2 at *
 have hs2 : w2.heap.size = w1.heap.size + 1 := by rw [<- hw2]; simp
 have HR2 := Lib.hid hr2; clear hr2
 have HR3 := Lib.hid hr3; clear hr3
 have HB2 := Lib.hid hb2; clear hb2
 clear hm hw2 HB0 HR0 c0 c1 c2
 have hsnd : soundM (r : Int) (c : Int) xs.length = true := by
  unfold soundM sideOk
  rw [HS.out]
  simp; omega
 refine (MLines_c (r : Int) (c : Int) ao xs.length cap xs w2 (by omega) (by omega) (HX.out.below HB2.out) rfl hsnd (by rw [HS.out]; have := Nat.mul_le_mul hr hc; omega)).mono ?_
 rintro e w3 ⟨⟨g, b, rfl, hg, hb, hRg, hRb⟩, hb3⟩
 have hs3 := hb3.size
 have HG := Lib.hid hRg; clear hRg
 have HRB := Lib.hid hRb; clear hRb
 have HR2' := Lib.hid (HR2.out.below hb3 HR2.out.lt)
 have HR3' := Lib.hid (HR3.out.below hb3 HR3.out.lt)
 have HB3 : Hid (Below w.heap.size w w3) := Lib.hid (HB2.out.trans (hb3.mono HB2.out.size))
 clear hb3 HR2 HR3 HB2
 go_wp2_with fail
 refine (wpIn_wide (n := 6)).1 ?_
 have hne : w1.heap.size ≠ o := by omega
 have hI0 : LinesI w3 w3.heap.size w1.heap.size o r [] w3 := ⟨HR3'.out, by simpa [hdrsTo] using HR2'.out, fun z hz => by simp at hz, by simp, Chg.refl _ _⟩
 have HI0 := Lib.hid hI0; clear hI0
 refine range_hand (S := fun k => k = w1.heap.size ∨ k = o) (N := r) (Sx := HandS r c xs) (E := HandE w3.heap.size) (I := LinesI w3 w3.heap.size w1.heap.size o r) (gf := 138) (lb := #[.pointer (some ⟨g, 0, none⟩)]) (encs := NR.enc) rfl (enters_of Tryz.func138 (by kernel_rfl) rfl) (fun _ => rfl) ?hE ?hIl ?hIb HI0.out
  (fun x => { tmps := #[.agg #[.int .i64 (r : Int), .int .i64 (c : Int), .slice ao xs.length cap], .pointer (some ⟨w.heap.size, 0, none⟩), .slice none 0 0, .pointer (some ⟨w1.heap.size, 0, none⟩), undef, .slice (some ⟨x.2.blk, 0, none⟩) x.2.xs.length x.2.cap, .pointer (some ⟨w.heap.size, 0, none⟩), .int .i64 (r : Int), .slice (some ⟨o, 0, none⟩) 0 r, .agg #[.int .i64 (r : Int), .int .i64 (c : Int), .slice ao xs.length cap], .func (.func 138) #[] #[.pointer (some ⟨g, 0, none⟩)], .int .i64 (x.1 : Int), .slice (some ⟨x.2.blk, 0, none⟩) x.2.xs.length x.2.cap, undef, undef, undef, undef, undef], defers := [] })
  ?hseq ?assign ?body ?done
 case hE =>
  intro s x W l o1 o2 h hl ho hn
  exact ⟨rowN_putObj ho hn h.1, h.2⟩
 case hIl =>
  intro s W l o1 o2 h hl ho hn
  exact ⟨row_putObj ho hn h.box, row_putObj ho hn h.row, fun z hz => ⟨rowN_putObj ho hn (h.nums z hz).1, (h.nums z hz).2⟩, h.nd, ⟨h.chg.os, h.chg.tape, h.chg.output, by have := h.chg.size; simpa using this, fun k hk hs => (World.putObj_heap_other (by omega)).trans (h.chg.block k hk hs)⟩⟩
 case hIb =>
  intro s A B h hb
  exact ⟨h.box.below hb h.box.lt, h.row.below hb h.row.lt, fun z hz => ⟨(h.nums z hz).1.below hb, (h.nums z hz).2⟩, h.nd, h.chg.below hb⟩
 case hseq =>
  intro l J W hW hJ hY hJ0
  refine (Lines1_hand 5 g b r c xs w3 (fun k => k = w1.heap.size ∨ k = o) ?_ HG.out (by omega) HRB.out (by omega) HS.out (by omega) (by omega) hL l J W hW hJ hY hJ0 (by omega))
  rintro q (rfl | rfl)
  · exact ⟨_, _, HR3'.out, NoW.slice NoW.nil⟩
  · exact ⟨_, _, HR2'.out, fun v hv n => by simp at hv; simp [hv.2]⟩
 case assign =>
  intro l x W K hK
  simp only [NR.enc]
  gi_wp2
  exact hK
 case body =>
  rintro l pre x W hI hE hlen
  have hoW := hI.row.lt
  have hbW := hI.box.lt
  have hlenR : (hdrsTo r pre).length = r := by simp [hdrsTo]; omega
  have hA : ∀ X : Obj, RowAt (W.alloc X) o 22 (hdrsTo r pre) := fun X => hI.row.alloc X
  have hAb : ∀ X : Obj, RowAt (W.alloc X) w1.heap.size 82 [.slice (some ⟨o, 0, none⟩) pre.length r] := fun X => hI.box.alloc X
  have c0 : W.cell? ⟨w1.heap.size, 0, none⟩ = some (.slice (some ⟨o, 0, none⟩) pre.length r) := hI.box.cell 0
  have f0 : W.frozen? ⟨w1.heap.size, 0, none⟩ = false := hI.box.free 0
  have HI := Lib.hid hI; clear hI
  have HE := Lib.hid hE; clear hE
  gi_wp2_with (gi_at_builtin; refine wpListIn_app rfl _ _ 82 rfl 22 (.slice none 0 0) 1 24 Tryz.underlying82 info_row o 0 pre.length r ⟨W.heap.size, 0, none⟩ 1 1 [x.2.hdr] rfl rfl rfl (cell_one_new _ _ _) (by simp [Value.oneCell', Hd.hdr]) (by omega) (fun j hj => by simp at hj; subst hj; rw [(hA _).cell]; simp [hlenR, hlen]) (fun j hj => by simp at hj; subst hj; exact (hA _).free _) ?_; simp only [Nat.zero_add, Nat.mul_one, World.setCells]; have hrW := (hA (.cells #[x.2.hdr] 22)).set pre.length x.2.hdr; have hrB := (hAb (.cells #[x.2.hdr] 22)).other (p := ⟨o, pre.length, none⟩) hne x.2.hdr; skip)
  have hI := HI.out
  have hE := HE.out
  have hsw := hI.chg.size
  have hrW' := hI.row.set pre.length x.2.hdr
  have hrB' := hI.box.other (p := ⟨o, pre.length, none⟩) hne x.2.hdr
  have hNo : NoW (hdrsTo r pre) := fun v hv n => by
   simp only [hdrsTo, List.mem_append, List.mem_map, List.mem_replicate] at hv
   rcases hv with ⟨z, _, rfl⟩ | ⟨_, rfl⟩ <;> simp [Hd.hdr]
  obtain ⟨Wf, hWf⟩ : ∃ Wf, (W.setCell ⟨o, pre.length, none⟩ x.2.hdr).setCell ⟨w1.heap.size, 0, none⟩ (.slice (some ⟨o, 0, none⟩) (pre.length + 1) r) = Wf := ⟨_, rfl⟩
  rw [hWf]
  have hsf : Wf.heap.size = W.heap.size := by rw [<- hWf]; simp
  have hbl : Below Wf.heap.size Wf (Wf.alloc (.cells #[.slice (some ⟨x.2.blk, 0, none⟩) x.2.xs.length x.2.cap] 22)) := (Below.refl _ _).alloc (Nat.le_refl _) _
  have hnum : ∀ y : NR, RowN W y.2.blk y.2.xs -> RowN Wf y.2.blk y.2.xs := by
   intro y hy
   rw [<- hWf]
   exact (hy.setFar hI.row (by decide) hNo pre.length x.2.hdr).setFar hrB' (by decide) (NoW.slice NoW.nil) 0 _
  refine ⟨?_, ?_, ?_⟩
  · rw [<- hWf]; exact ((KeepsOthers.setCell _ _ _).trans (KeepsOthers.setCell _ _ _)).trans (KeepsOthers.alloc _ _)
  · refine KeepS.trans (b := Wf) ?_ (KeepS.of_below (hbl.mono (by omega)))
    rw [<- hWf]
    refine ⟨rfl, rfl, rfl, by simp, fun k hk hs => ?_⟩
    exact (Below.heap_setCell _ _ _ _ (fun e => hs (.inl e))).trans (Below.heap_setCell _ _ _ _ (fun e => hs (.inr e)))
  · have hbx : RowAt Wf w1.heap.size 82 [.slice (some ⟨o, 0, none⟩) (pre.length + 1) r] := by
     rw [<- hWf]; exact hrB'.set 0 (.slice (some ⟨o, 0, none⟩) (pre.length + 1) r)
    have hrw : RowAt Wf o 22 (hdrsTo r (pre ++ [x])) := by
     have h1 := hrW'.other (p := ⟨w1.heap.size, 0, none⟩) (fun e => hne e.symm) (.slice (some ⟨o, 0, none⟩) (pre.length + 1) r)
     have e : (hdrsTo r pre).set pre.length x.2.hdr = hdrsTo r (pre ++ [x]) := by
      unfold hdrsTo
      obtain ⟨q, hq⟩ : ∃ q, r - pre.length = q + 1 := ⟨r - pre.length - 1, by omega⟩
      have hq2 : r - (pre ++ [x]).length = q := by simp; omega
      rw [hq, hq2, List.replicate_succ, List.set_append_right _ _ (by simp)]
      simp
     rw [<- e, <- hWf]; exact h1
    refine ⟨?_, hrw.below hbl hrw.lt, ?_, ?_, ?_⟩
    · have := hbx.below hbl hbx.lt
      simpa using this
    · intro z hz
      rcases List.mem_append.1 hz with hz | hz
      · exact ⟨(hnum z (hI.nums z hz).1).below hbl, (hI.nums z hz).2⟩
      · simp only [List.mem_singleton] at hz; subst hz
        exact ⟨(hnum z hE.1).below hbl, hE.2.1⟩
    · rw [List.map_append, List.nodup_append]
      refine ⟨hI.nd, by simp, fun u hu v hv => ?_⟩
      simp only [List.map_cons, List.map_nil, List.mem_singleton] at hv
      obtain ⟨y, hy, rfl⟩ := List.mem_map.1 hu
      subst hv
      exact hE.2.2 y hy
    · refine Chg.below ?_ hbl
      rw [<- hWf]
      exact (hI.chg.set (p := ⟨o, pre.length, none⟩) (.inr rfl) _).set (p := ⟨w1.heap.size, 0, none⟩) (.inl rfl) _
 case done =>
  rintro D zs W hD hS hI hK
  have hl : zs.length = r := hS.1
  have c0 : W.cell? ⟨w1.heap.size, 0, none⟩ = some (.slice (some ⟨o, 0, none⟩) zs.length r) := hI.box.cell 0
  have HI := Lib.hid hI; clear hI
  simp only [Exit.inBlock]
  go_wp2
  refine ⟨by simp, .inl ⟨_, _, rfl, run_takeDeferred hK, ?_⟩⟩
  refine ⟨_, results_tmp rfl _ _ _, ?_⟩
  have hI := HI.out
  have hS2 := hS.2
  have hrow : RowAt W o 22 (zs.map (fun z => z.2.hdr)) := by
   have := hI.row
   unfold hdrsTo at this
   rw [hl, Nat.sub_self] at this
   simpa using this
  refine ⟨⟨o, zs.map (fun z => z.2), ?_, ⟨?_, ?_, ?_⟩, by simp [hl], ?_, by omega, ?_⟩, ?_⟩
  · simp [hl]
  · rw [List.map_map]; exact row_putObj hK rfl hrow
  · intro h hh
    obtain ⟨z, hz, rfl⟩ := List.mem_map.1 hh
    exact rowN_putObj hK rfl (hI.nums z hz).1
  · rw [List.map_map]; exact hI.nd
  · intro k hk
    have hk' : k < zs.length := by simpa using hk
    have := hS2 k hk'
    rw [List.getElem_map, this]
  · intro x hx
    obtain ⟨z, hz, rfl⟩ := List.mem_map.1 hx
    have := (hI.nums z hz).2
    have := HB3.out.size
    omega
  · refine HB3.out.trans ?_
    refine (hI.chg.to_below (B := w.heap.size) ?_ HB3.out.size).trans ⟨rfl, rfl, rfl, by simp, fun k hk => World.putObj_heap_other (by have := HB3.out.size; omega)⟩
    rintro k (rfl | rfl) <;> omega
def DAt (w : World) (ao : Option Addr) (ds : List Nat) : Prop :=
 0 < ds.length -> ∃ b o, ao = some ⟨b, o, none⟩ /\ b < w.heap.size /\ ∀ i, i < ds.length -> w.cell? ⟨b, o + i, none⟩ = some (.int .i64 ((gw ds i : Nat) : Int))
theorem DAt.below {w w' : World} {ao : Option Addr} {ds : List Nat} (h : DAt w ao ds) (hb : Below w.heap.size w w') : DAt w' ao ds := by
 intro hl
 obtain ⟨b, o, e, hlt, hc⟩ := h hl
 exact ⟨b, o, e, Nat.lt_of_lt_of_le hlt hb.size, fun i hi => (hb.cell (p := ⟨b, o + i, none⟩) hlt).trans (hc i hi)⟩
theorem gw_tk {l : List Nat} {k i : Nat} (h : i < k) : gw (l.take k) i = gw l i := by
 unfold gw; rw [List.getD_eq_getElem?_getD, List.getElem?_take_of_lt h, <- List.getD_eq_getElem?_getD]
theorem DAt.take {w : World} {ao : Option Addr} {ds : List Nat} (h : DAt w ao ds) (k : Nat) : DAt w ao (ds.take k) := by
 intro hl
 have h1 : (ds.take k).length <= ds.length := by simp; omega
 have h2 : (ds.take k).length <= k := by simp; omega
 obtain ⟨b, o, e, hlt, hc⟩ := h (by omega)
 exact ⟨b, o, e, hlt, fun i hi => by rw [gw_tk (by omega)]; exact hc i (by omega)⟩
theorem DAt.row {w : World} {b : Nat} {ds : List Nat} {r : List Value} (h : RowAt w b 3 (ds.map iv ++ r)) : DAt w (some ⟨b, 0, none⟩) ds := by
 intro _
 refine ⟨b, 0, rfl, h.lt, fun i hi => ?_⟩
 rw [Nat.zero_add, h.cell, List.getElem?_append_left (by simpa using hi)]
 simp [iv, gw, hi]
set_option maxHeartbeats 1000000 in
theorem RTrim_c (ao : Option Addr) (len cap : Nat) (ds : List Nat) (w : World) (hA : DAt w ao ds) (hl : len = ds.length) (hcap : len <= cap) (hm : cap <= 70368744177664) :
 Calls Tryz.prog 145 #[.slice ao len cap] w fun e w' => e = .returned (.slice ao (tlen ds) cap) /\ w = w' := by
 subst hl
 have htl := tlen_le ds
 have HA := Lib.hid hA; clear hA
 go_enter Tryz.func145, Tryz.ntmps145
 go_wp2
 go_loop [3] (fun i => ∃ k : Nat, k <= ds.length /\ tlen ds <= k /\ i = .int .i64 k) (fun i => (intOf i).toNat)
 case atStart => exact ⟨ds.length, by omega, by omega, rfl⟩
 case round =>
  obtain ⟨k, hk, ht, rfl⟩ := hrel
  by_cases h0 : 0 < k
  · obtain ⟨b, o, rfl, hb, hc⟩ := HA.out (by omega)
    have hcell := hc (k - 1) (by omega)
    by_cases hz : gw ds (k - 1) = 0
    · have hzb : (((gw ds (k - 1) : Nat) : Int) == 0) = true := by rw [hz]; rfl
      have Hz := Lib.hid hz; clear hz hc
      go_wp2
      go_round
      case rel => exact ⟨k - 1, by omega, tlen_of_zeros ds (k - 1) (fun j hj => by
       by_cases hj' : j = k - 1
       · rw [hj']; exact Hz.out
       · exact zero_of_tlen ds j (by omega)), by go_num⟩
      case measure => simp [intOf]; omega
    · have hzb : (((gw ds (k - 1) : Nat) : Int) == 0) = false := by rw [beq_eq_false_iff_ne]; omega
      have h1 := lt_tlen ds (k - 1) hz
      clear hc hz
      have hke : k = tlen ds := by omega
      subst hke
      go_wp2
      go_ret
      exact ⟨rfl, rfl⟩
  · have hke : k = tlen ds := by omega
    subst hke
    go_wp2
    go_ret
    exact ⟨rfl, rfl⟩
theorem run_rem (ρ : Operand -> Value) (o : Oper) (p q : Operand) {w : World} (ho : o.op = .binOp .rem 49 p q 49) (x y : Nat) (hx : x < W) (hy : y ≠ 0) (hp : ρ p = .int .u64 (x : Int)) (hq : ρ q = .int .u64 (y : Int)) :
 (execOp ρ o).run Tryz.prog w = .ok (.value (.int .u64 ((remW x y : Nat) : Int))) w := by
 obtain ⟨dst, op, type, pos, after, guard⟩ := o
 simp only at ho; subst ho
 simp [go_sem, hp, hq, IntKind.wrap_u64, remW, hy]
 have h1 := Nat.mod_le x y
 unfold W at hx
 have e1 := Int.ofNat_tmod x y
 have e2 := Int.natCast_emod x y
 generalize x % y = z at *
 generalize (x : Int).tmod (y : Int) = u at *
 generalize (x : Int) % (y : Int) = v at *
 omega
theorem op_rem {w : World} {ops : Array Oper} {rest : List Oper} {o : Oper} {a : Act} {Q : Exit -> Act -> World -> Prop} (hg : o.guard = none) (p q : Operand) (ho : o.op = .binOp .rem 49 p q 49) {X Y : Int} (x y : Nat) (hx : x < W) (hy : y ≠ 0)
 (hp : a.eval p = .int .u64 X) (hq : a.eval q = .int .u64 Y) (hX : X = (x : Int)) (hY : Y = (y : Int))
 (h : wpList Tryz.prog ops Q rest (a.put o.dst (.int .u64 ((remW x y : Nat) : Int))) w) : wpList Tryz.prog ops Q (o :: rest) a w := by
 subst hX hY
 exact op_of_run hg (run_rem _ _ p q ho x y hx hy hp hq) h
theorem run_toI (ρ : Operand -> Value) (o : Oper) (p : Operand) {w : World} (ho : o.op = .convert 49 3 p) (x : Nat) (hx : x < 9223372036854775808) (hp : ρ p = .int .u64 (x : Int)) :
 (execOp ρ o).run Tryz.prog w = .ok (.value (.int .i64 (x : Int))) w := by
 obtain ⟨dst, op, type, pos, after, guard⟩ := o
 simp only at ho; subst ho
 simp [go_sem, hp]
 exact wrap_small (by omega) (by omega)
theorem run_toU (ρ : Operand -> Value) (o : Oper) (p : Operand) {w : World} (ho : o.op = .convert 3 49 p) (x : Nat) (hx : x < W) (hp : ρ p = .int .i64 (x : Int)) :
 (execOp ρ o).run Tryz.prog w = .ok (.value (.int .u64 (x : Int))) w := by
 obtain ⟨dst, op, type, pos, after, guard⟩ := o
 simp only at ho; subst ho
 simp [go_sem, hp]
 rw [IntKind.wrap_u64]; unfold W at hx; omega
structure RowI (w : World) (b N : Nat) (D : List Nat) (W' : World) : Prop where
 row : RowAt W' b 3 (D.map iv ++ List.replicate (N - D.length) (iv 0))
 bel : Below w.heap.size w W'
 ge : w.heap.size <= b
theorem RowI.spare {w : World} {b N n : Nat} {D : List Nat} {W' : World} (h : RowI w b N D W') (hn : D.length = n) (hN : n + 1 <= N) (X : Obj) : (∀ j, j < 1 -> ((W'.alloc X).cell? ⟨b, 0 + n * 1 + j, none⟩).isSome = true) /\ (∀ j, j < 1 -> (W'.alloc X).frozen? ⟨b, 0 + n * 1 + j, none⟩ = false) := by
 have hr := h.row.alloc X
 refine ⟨fun j hj => ?_, fun j _ => hr.free _⟩
 rw [hr.cell]
 have : 0 + n * 1 + j < (D.map iv ++ List.replicate (N - D.length) (iv 0)).length := by simp; omega
 simp only [List.getElem?_eq_getElem this]; rfl
theorem RowI.app {w : World} {b N n : Nat} {D : List Nat} {W' : World} (h : RowI w b N D W') (hn : D.length = n) (hN : n + 1 <= N) (x : Nat) (W2 : World)
 (e : (W'.alloc (.cells #[.int .i64 (x : Int)] 3)).setCells b n [.int .i64 (x : Int)] = W2) : RowI w b N (D ++ [x]) W2 := by
 subst hn
 have hb1 : Below W'.heap.size W' (W'.alloc (.cells #[.int .i64 (x : Int)] 3)) := (Below.refl _ _).alloc (Nat.le_refl _) _
 have h2 := (h.row.alloc (.cells #[.int .i64 (x : Int)] 3)).set D.length (.int .i64 (x : Int))
 have e2 : (W'.alloc (.cells #[.int .i64 (x : Int)] 3)).setCell ⟨b, D.length, none⟩ (.int .i64 (x : Int)) = W2 := by rw [<- e]; rfl
 rw [e2] at h2
 refine ⟨?_, ?_, h.ge⟩
 · have e3 : (D.map iv ++ List.replicate (N - D.length) (iv 0)).set D.length (.int .i64 (x : Int)) = (D ++ [x]).map iv ++ List.replicate (N - (D ++ [x]).length) (iv 0) := by
    obtain ⟨q, hq⟩ : ∃ q, N - D.length = q + 1 := ⟨N - D.length - 1, by omega⟩
    have hq2 : N - (D ++ [x]).length = q := by simp; omega
    rw [hq, hq2, List.replicate_succ, List.set_append_right _ _ (by simp)]
    simp [iv]
   rw [<- e3]; exact h2
 · rw [<- e2]; exact (h.bel.trans (hb1.mono h.bel.size)).setCell (p := ⟨b, D.length, none⟩) h.ge _
set_option maxRecDepth 100000 in
set_option maxHeartbeats 4000000 in
theorem RSplit_c (ao : Option Addr) (len cap : Nat) (ws : List Nat) (w : World) (hA : WAt w ao ws) (hl : len = ws.length) (hm : len <= 8796093022208) :
 Calls Tryz.prog 101 #[.slice ao len cap] w fun e w' => (∃ b ds, e = .returned (.slice (some ⟨b, 0, none⟩) ds.length (4 * len)) /\ w.heap.size <= b /\ Hex (nval ws) ds /\ DAt w' (some ⟨b, 0, none⟩) ds /\ ds.length <= 4 * len /\ b < w'.heap.size) /\ Below w.heap.size w w' := by
 subst hl
 have HA := Lib.hid hA; clear hA
 have hw4 : IntKind.i64.wrap (4 * (ws.length : Int)) = ((4 * ws.length : Nat) : Int) := by rw [wrap_small] <;> omega
 go_enter Tryz.func101, Tryz.ntmps101
 go_wp2_with (at_make; refine mk_ints rfl _ _ rfl 0 (4 * ws.length) rfl rfl rfl (by omega) (Nat.zero_le _) (by omega) ?_; intro b w1 hm1)
 have hI : RowI w b (4 * ws.length) [] w1 := ⟨by have := hm1.row; rw [List.map_replicate] at this; simpa using this, hm1.below, by have := hm1.at_; omega⟩
 have HI := Lib.hid hI; clear hI hm1
 clear hw4
 go_loopw [3, 4] (fun d_ i_ wr => ∃ (i : Nat), i <= ws.length /\ i_ = .int .i64 (i : Int) /\ d_ = .slice (some ⟨b, 0, none⟩) (4 * i) (4 * ws.length) /\ Hid (RowI w b (4 * ws.length) (spl (ws.take i)) wr)) (fun _ i_ _ => ws.length - (intOf i_).toNat)
 case atStart => exact ⟨0, Nat.zero_le _, rfl, rfl, Lib.hid (by simpa [spl] using HI.out)⟩
 case round =>
  obtain ⟨i, hi, rfl, rfl, hIr⟩ := hrel
  by_cases hin : i < ws.length
  · have hin1 : (i : Int) < (ws.length : Int) := by omega
    obtain ⟨ab, aoff, rfl, hab, hc⟩ := (HA.out.below hIr.out.bel).pos (by omega)
    have hcell := hc i hin
    have hgwW := HA.out.ok.gw i
    obtain ⟨x, hx⟩ : ∃ x, gw ws i = x := ⟨_, rfl⟩
    rw [hx] at hcell hgwW
    have Hx := Lib.hid hx; clear hx hc
    go_wp2
    go_loopw [3, 5, 6] (fun d_ x_ k_ wq => ∃ (k : Nat), k <= 4 /\ k_ = .int .i64 (k : Int) /\ x_ = .int .u64 ((x / HX ^ k : Nat) : Int) /\ d_ = .slice (some ⟨b, 0, none⟩) (4 * i + k) (4 * ws.length) /\ Hid (RowI w b (4 * ws.length) (spl (ws.take i) ++ (sp4 x).take k) wq)) (fun _ _ k_ _ => 4 - (intOf k_).toNat)
    case atStart => exact ⟨0, by omega, rfl, by simp, rfl, Lib.hid (by simpa using hIr.out)⟩
    case round =>
     obtain ⟨k, hk, rfl, rfl, rfl, hIq⟩ := hrel
     by_cases hk4 : k < 4
     · have hk41 : (k : Int) < 4 := by omega
       obtain ⟨y, hy⟩ : ∃ y, x / HX ^ k = y := ⟨_, rfl⟩
       have hyW : y < W := by rw [<- hy]; exact Nat.lt_of_le_of_lt (Nat.div_le_self ..) hgwW
       have hlen : (spl (ws.take i) ++ (sp4 x).take k).length = 4 * i + k := by
        rw [List.length_append, spl_length, List.length_take, List.length_take, sp4_length, Nat.min_eq_left (by omega), Nat.min_eq_left (by omega)]
       have hroom : 4 * i + k + 1 <= 4 * ws.length := by omega
       have hnext : spl (ws.take i) ++ (sp4 x).take (k + 1) = (spl (ws.take i) ++ (sp4 x).take k) ++ [y % HX] := by
        have hd : (sp4 x).take (k + 1) = (sp4 x).take k ++ [y % HX] := by
         rw [<- hy]
         match k, hk4 with
         | 0, _ => simp [sp4]
         | 1, _ => simp [sp4, HX]
         | 2, _ => simp [sp4, HX, Nat.div_div_eq_div_mul]
         | 3, _ => simp [sp4, HX, Nat.div_div_eq_div_mul]
        rw [hd, List.append_assoc]
       have hdiv : x / HX ^ (k + 1) = y / HX := by rw [<- hy, Nat.div_div_eq_div_mul, Nat.pow_succ]
       rw [hy]
       generalize spl (ws.take i) ++ (sp4 x).take k = D at *
       have HN := Lib.hid (And.intro hnext hdiv); clear hnext hdiv hy
       have hsp := fun X => hIq.out.spare hlen hroom X
       have hr1 : remW y 65536 < 9223372036854775808 := Nat.lt_of_lt_of_le (Nat.mod_lt _ (by omega)) (by omega)
       go_wp2_with (first
        | (with_reducible show wpList _ _ _ (⟨some 27, _, _, _, _, _⟩ :: _) _ _; refine op_rem rfl _ _ rfl y 65536 hyW (by omega) rfl rfl rfl rfl ?_)
        | (with_reducible show wpList _ _ _ (⟨some 28, _, _, _, _, _⟩ :: _) _ _; refine op_of_run rfl (run_toI _ _ _ rfl (remW y 65536) hr1 rfl) ?_)
        | (with_reducible show wpList _ _ _ (⟨some 32, _, _, _, _, _⟩ :: _) _ _; refine op_quo rfl _ _ rfl y 65536 hyW (by omega) rfl rfl rfl rfl ?_)
        | (at_builtin; refine wpList_app rfl _ _ 33 rfl 3 (.int .i64 0) 1 8 Tryz.underlying33 info_int b 0 (4 * i + k) (4 * ws.length) ⟨wr.heap.size, 0, none⟩ 1 1 [.int .i64 ((remW y 65536 : Nat) : Int)] rfl rfl rfl (cell_one_new _ _ _) (by simp [Value.oneCell']) hroom (hsp _).1 (hsp _).2 ?_; obtain ⟨w7, hw7⟩ : ∃ w7, (wr.alloc (.cells #[.int .i64 ((remW y 65536 : Nat) : Int)] 3)).setCells b (4 * i + k) [.int .i64 ((remW y 65536 : Nat) : Int)] = w7 := ⟨_, rfl⟩; have hI7 := hIq.out.app hlen hroom (remW y 65536) w7 hw7; simp only [Nat.zero_add, Nat.mul_one]; rw [hw7]; have HI7 := Lib.hid hI7; clear hI7 hw7))
       go_roundw
       case rel =>
        refine ⟨k + 1, by omega, by go_num, ?_, by go_num, Lib.hid ?_⟩
        · rw [HN.out.2]; rfl
        · rw [HN.out.1]; exact HI7.out
       case measure => simp [intOf]; omega
     · obtain rfl : k = 4 := by omega
       go_wp2
       go_roundw
       case rel =>
        have h9 := hIq.out
        refine ⟨i + 1, by omega, by go_num, by go_num, Lib.hid ?_⟩
        have e : spl (ws.take (i + 1)) = spl (ws.take i) ++ sp4 x := by
         rw [List.take_succ_eq_append_getElem hin]
         have : ws[i] = x := by rw [<- Hx.out]; simp [gw, hin]
         simp [spl, this]
        rw [e]; exact h9
       case measure => simp [intOf]; omega
  · obtain rfl : i = ws.length := by omega
    have hIe := hIr.out
    rw [List.take_length] at hIe
    have hval := spl_val HA.out.ok
    have hlen := spl_length ws
    have hH := Hex.of (spl_ok ws)
    rw [hval] at hH
    have htl := tlen_le (spl ws)
    have HH := Lib.hid (And.intro hH (And.intro hlen htl))
    have hD : DAt wr (some ⟨b, 0, none⟩) (spl ws) := DAt.row hIe.row
    have ht := RTrim_c (some ⟨b, 0, none⟩) (4 * ws.length) (4 * ws.length) (spl ws) wr hD hlen.symm (Nat.le_refl _) (by omega)
    have HT := Lib.hid ht
    have HD := Lib.hid hD
    clear hH hval hlen htl ht hD hIe
    go_wp2_with fail
    refine HT.out.mono ?_
    rintro e w9 ⟨rfl, rfl⟩
    go_wp2
    go_ret
    have hl2 : ((spl ws).take (tlen (spl ws))).length = tlen (spl ws) := by rw [List.length_take, Nat.min_eq_left HH.out.2.2]
    refine ⟨⟨b, (spl ws).take (tlen (spl ws)), ?_, hIr.out.ge, HH.out.1, HD.out.take _, by have := HH.out.2; omega, hIr.out.row.lt⟩, hIr.out.bel⟩
    rw [hl2]; rfl
theorem hval_drop_take (D : List Nat) (j m : Nat) : hval ((D.drop j).take (m + 1)) = gw D j + HX * hval ((D.drop (j + 1)).take m) := by
 by_cases hj : j < D.length
 · rw [List.drop_eq_getElem_cons hj, List.take_succ_cons, hval]
   simp [gw, hj]
 · rw [List.drop_of_length_le (by omega), List.drop_of_length_le (by omega)]
   simp [hval, gw, List.getElem?_eq_none (show D.length <= j by omega)]
theorem hval_part_lt {D : List Nat} (h : HOk D) (j m : Nat) : hval ((D.drop j).take m) < HX ^ m := by
 refine Nat.lt_of_lt_of_le (hval_lt ((h.drop j).take m)) (Nat.pow_le_pow_right HX_pos (by simp; omega))
structure RowW (w : World) (b N : Nat) (D : List Nat) (W' : World) : Prop where
 row : RowAt W' b 49 ((D ++ List.replicate (N - D.length) 0).map wv)
 bel : Below w.heap.size w W'
 ge : w.heap.size <= b
theorem RowW.spare {w : World} {b N n : Nat} {D : List Nat} {W' : World} (h : RowW w b N D W') (hn : D.length = n) (hN : n + 1 <= N) (X : Obj) : (∀ j, j < 1 -> ((W'.alloc X).cell? ⟨b, 0 + n * 1 + j, none⟩).isSome = true) /\ (∀ j, j < 1 -> (W'.alloc X).frozen? ⟨b, 0 + n * 1 + j, none⟩ = false) := by
 have hr := h.row.alloc X
 refine ⟨fun j hj => ?_, fun j _ => hr.free _⟩
 rw [hr.cell]
 have : 0 + n * 1 + j < ((D ++ List.replicate (N - D.length) 0).map wv).length := by simp; omega
 simp only [List.getElem?_eq_getElem this]; rfl
theorem RowW.app {w : World} {b N n : Nat} {D : List Nat} {W' : World} (h : RowW w b N D W') (hn : D.length = n) (hN : n + 1 <= N) (x : Nat) (W2 : World)
 (e : (W'.alloc (.cells #[.int .u64 (x : Int)] 49)).setCells b n [.int .u64 (x : Int)] = W2) : RowW w b N (D ++ [x]) W2 := by
 subst hn
 have hb1 : Below W'.heap.size W' (W'.alloc (.cells #[.int .u64 (x : Int)] 49)) := (Below.refl _ _).alloc (Nat.le_refl _) _
 have h2 := (h.row.alloc (.cells #[.int .u64 (x : Int)] 49)).setWord D.length x
 have e2 : (W'.alloc (.cells #[.int .u64 (x : Int)] 49)).setCell ⟨b, D.length, none⟩ (.int .u64 (x : Int)) = W2 := by rw [<- e]; rfl
 rw [e2] at h2
 refine ⟨?_, ?_, h.ge⟩
 · have e3 : (D ++ List.replicate (N - D.length) 0).set D.length x = (D ++ [x]) ++ List.replicate (N - (D ++ [x]).length) 0 := by
    obtain ⟨q, hq⟩ : ∃ q, N - D.length = q + 1 := ⟨N - D.length - 1, by omega⟩
    have hq2 : N - (D ++ [x]).length = q := by simp; omega
    rw [hq, hq2, List.replicate_succ, List.set_append_right _ _ (by simp)]
    simp
   rw [<- e3]; exact h2
 · rw [<- e2]; exact (h.bel.trans (hb1.mono h.bel.size)).setCell (p := ⟨b, D.length, none⟩) h.ge _
set_option maxRecDepth 100000 in
set_option maxHeartbeats 4000000 in
theorem RJoin_c (ao : Option Addr) (len cap : Nat) (ds : List Nat) (w : World) (hA : DAt w ao ds) (hok : HOk ds) (hl : len = ds.length) (hcap : len <= cap) (hm : cap <= 35184372088832) :
 Calls Tryz.prog 121 #[.slice ao len cap] w fun e w' => (∃ ao' cap', e = .returned (.slice ao' (wlen (hval ds)) cap') /\ OwnW w' w.heap.size ao' (wlen (hval ds)) cap' (dig (hval ds))) /\ Below w.heap.size w w' := by
 have hH := Hex.of hok
 have htl := tlen_le ds
 have ht := RTrim_c ao len cap ds w hA hl hcap (by omega)
 rw [<- hl] at htl
 have hl2 : (ds.take (tlen ds)).length = tlen ds := by rw [List.length_take, Nat.min_eq_left (tlen_le ds)]
 have hA2 := hA.take (tlen ds)
 obtain ⟨D, hD⟩ : ∃ D, ds.take (tlen ds) = D := ⟨_, rfl⟩
 obtain ⟨v, hv⟩ : ∃ v, hval ds = v := ⟨_, rfl⟩
 obtain ⟨L, hL⟩ : ∃ L, tlen ds = L := ⟨_, rfl⟩
 rw [hD] at hH hl2 hA2
 rw [hv] at hH ⊢
 rw [hL] at ht hl2 htl
 have HT := Lib.hid ht; clear ht
 have HH := Lib.hid hH; clear hH
 have HA2 := Lib.hid hA2; clear hA2
 have HL2 := Lib.hid hl2; clear hl2
 clear hA hD hv hL hok hl
 obtain ⟨N, hN⟩ : ∃ N, L / 4 + 1 = N := ⟨_, rfl⟩
 have hNb : N <= 35184372088832 := by omega
 have HN := Lib.hid hN; clear hN
 go_enter Tryz.func121, Tryz.ntmps121
 go_wp2_with fail
 refine HT.out.mono ?_
 rintro e w9 ⟨rfl, rfl⟩
 have hdv : IntKind.i64.wrap ((L : Int).tdiv 4) = ((L / 4 : Nat) : Int) := by
  rw [show (L : Int).tdiv 4 = ((L / 4 : Nat) : Int) from (Int.ofNat_tdiv L 4).symm]; exact wrap_small (by omega) (by omega)
 go_wp2_with (at_make; refine mk_words rfl _ _ rfl 0 N rfl rfl rfl (by have := HN.out; omega) (Nat.zero_le _) (by omega) ?_; intro b w1 hm1)
 have hI : RowW w b N [] w1 := ⟨by have := hm1.row; simpa using this, hm1.below, by have := hm1.at_; omega⟩
 have HI := Lib.hid hI; clear hI hm1 hdv
 go_loopw [3, 4] (fun l_ i_ wr => ∃ (q : Nat), 4 * q < L + 4 /\ i_ = .int .i64 (4 * (q : Int)) /\ l_ = .slice (some ⟨b, 0, none⟩) q N /\ Hid (RowW w b N ((List.range q).map (ch4 D)) wr)) (fun _ i_ _ => L + 4 - (intOf i_).toNat)
 case atStart => exact ⟨0, by omega, by simp, rfl, Lib.hid (by simpa using HI.out)⟩
 case round =>
  obtain ⟨q, hq, rfl, rfl, hIr⟩ := hrel
  by_cases hin : 4 * q < L
  · have hin1 : 4 * (q : Int) < (L : Int) := by omega
    have hroom : q + 1 <= N := by have := HN.out; omega
    have hqb : 4 * (q : Int) <= 140737488355328 := by omega
    go_wp2
    go_loopw [5, 6] (fun x_ k_ wq => ∃ (j : Nat), j <= 4 /\ k_ = .int .i64 ((j : Int) - 1) /\ x_ = .int .u64 ((hval ((D.drop (4 * q + j)).take (4 - j)) : Nat) : Int) /\ wq = wr) (fun _ k_ _ => (intOf k_ + 1).toNat)
    case atStart => exact ⟨4, Nat.le_refl _, rfl, by simp [hval], rfl⟩
    case round =>
     obtain ⟨j, hj, rfl, rfl, rfl⟩ := hrel
     rcases Nat.eq_zero_or_pos j with h0 | h0
     · subst h0
       have hx : hval ((D.drop (4 * q + 0)).take (4 - 0)) = ch4 D q := rfl
       rw [hx]
       have hlen : ((List.range q).map (ch4 D)).length = q := by simp
       have hsp := fun X => hIr.out.spare hlen hroom X
       have hnext : (List.range (q + 1)).map (ch4 D) = (List.range q).map (ch4 D) ++ [ch4 D q] := by rw [List.range_succ]; simp
       have HNX := Lib.hid hnext; clear hnext hx
       generalize ch4 D q = x at *
       go_wp2_with (at_builtin; refine wpList_app rfl _ _ 43 rfl 49 (.int .u64 0) 1 8 Tryz.underlying43 info_u64 b 0 q N ⟨wr.heap.size, 0, none⟩ 1 1 [.int .u64 (x : Int)] rfl rfl rfl (cell_one_new _ _ _) (by simp [Value.oneCell']) hroom (hsp _).1 (hsp _).2 ?_; obtain ⟨w7, hw7⟩ : ∃ w7, (wr.alloc (.cells #[.int .u64 (x : Int)] 49)).setCells b q [.int .u64 (x : Int)] = w7 := ⟨_, rfl⟩; have hI7 := hIr.out.app hlen hroom x w7 hw7; simp only [Nat.zero_add, Nat.mul_one]; rw [hw7]; have HI7 := Lib.hid hI7; clear hI7 hw7)
       go_roundw
       case rel =>
        refine ⟨q + 1, by omega, by go_num, by go_num, Lib.hid ?_⟩
        rw [HNX.out]; exact HI7.out
       case measure => simp [intOf]; omega
     · obtain ⟨j', rfl⟩ : ∃ j', j = j' + 1 := ⟨j - 1, by omega⟩
       have e1 : ((j' + 1 : Nat) : Int) - 1 = (j' : Int) := by omega
       rw [e1]; clear e1
       have hpos : (0 : Int) <= (j' : Int) := by omega
       obtain ⟨y, hy⟩ : ∃ y, hval ((D.drop (4 * q + (j' + 1))).take (4 - (j' + 1))) = y := ⟨_, rfl⟩
       have hyl : y < HX ^ 3 := by
        rw [<- hy]
        exact Nat.lt_of_lt_of_le (hval_part_lt HH.out.ok _ _) (Nat.pow_le_pow_right HX_pos (by omega))
       have hnx : hval ((D.drop (4 * q + j')).take (4 - j')) = gw D (4 * q + j') + HX * y := by
        rw [show 4 - j' = 4 - (j' + 1) + 1 by omega, hval_drop_take, <- hy]; rfl
       rw [hy]; clear hy
       have hdl := HH.out.ok.gw_ (4 * q + j')
       have hm1 : mullo y 65536 = HX * y := by
        unfold mullo; rw [Nat.mod_eq_of_lt]
        · exact Nat.mul_comm ..
        · unfold W; unfold HX at hyl; omega
       have hjb : (j' : Int) <= 3 := by omega
       have HNX := Lib.hid (And.intro hnx (And.intro hdl (And.intro hyl hm1))); clear hnx hdl hyl hm1
       by_cases hil : 4 * q + j' < L
       · have hil1 : 4 * (q : Int) + (j' : Int) < (L : Int) := by omega
         obtain ⟨ab, aoff, rfl, hab, hc⟩ := (HA2.out.below hIr.out.bel) (by have := HL2.out; omega)
         have hcell := hc (4 * q + j') (by have := HL2.out; omega)
         clear hc
         obtain ⟨d, hd⟩ : ∃ d, gw D (4 * q + j') = d := ⟨_, rfl⟩
         rw [hd] at HNX hcell
         clear hd
         have hdW : d < W := Nat.lt_trans HNX.out.2.1 (by unfold HX W; omega)
         go_wp2_with (first
          | (with_reducible show wpList _ _ _ (⟨some 25, _, _, _, _, _⟩ :: _) _ _; refine op_mul rfl _ _ rfl y 65536 rfl rfl rfl rfl ?_)
          | (with_reducible show wpList _ _ _ (⟨some 39, _, _, _, _, _⟩ :: _) _ _; refine op_of_run rfl (run_toU _ _ _ rfl d hdW rfl) ?_)
          | (with_reducible show wpList _ _ _ (⟨some 40, _, _, _, _, _⟩ :: _) _ _; refine op_add rfl _ _ rfl (mullo y 65536) d rfl rfl rfl rfl ?_))
         go_roundw
         case rel =>
          refine ⟨j', by omega, by go_num, ?_, trivial⟩
          rw [HNX.out.1, HNX.out.2.2.2]
          congr 2
          unfold addlo
          have h1 := HNX.out.2.1
          have h2 := HNX.out.2.2.1
          rw [Nat.mod_eq_of_lt]
          · omega
          · unfold W; unfold HX at *; omega
         case measure => (simp [intOf] <;> omega)
       · have hil1 : ¬ 4 * (q : Int) + (j' : Int) < (L : Int) := by omega
         have hd0 : gw D (4 * q + j') = 0 := by
          unfold gw; rw [List.getD_eq_getElem?_getD, List.getElem?_eq_none (by have := HL2.out; omega)]; rfl
         have HD0 := Lib.hid hd0; clear hd0
         go_wp2_with (first
          | (with_reducible show wpList _ _ _ (⟨some 25, _, _, _, _, _⟩ :: _) _ _; refine op_mul rfl _ _ rfl y 65536 rfl rfl rfl rfl ?_))
         go_roundw
         case rel =>
          refine ⟨j', by omega, by go_num, ?_, trivial⟩
          rw [HNX.out.1, HNX.out.2.2.2, HD0.out]; simp
         case measure => (simp [intOf] <;> omega)
  · have hin1 : ¬ 4 * (q : Int) < (L : Int) := by omega
    have hdig := ch4_dig (n := q) HH.out (by have := HL2.out; omega) (by have := HL2.out; omega)
    have hwl : wlen v = q := by
     have h2 := congrArg List.length hdig
     rw [List.length_map, List.length_range] at h2
     unfold wlen; exact h2.symm
    have hok2 := ch4_ok HH.out.ok q
    have HDW := Lib.hid (And.intro hdig (And.intro hwl hok2)); clear hdig hwl hok2
    go_wp2
    go_ret
    rw [HDW.out.2.1]
    refine ⟨⟨some ⟨b, 0, none⟩, N, rfl, ?_⟩, hIr.out.bel⟩
    have h1 := hIr.out.row.own (n := q) (B := w.heap.size) (cap := N) (HDW.out.2.2.append (Ok.replicate _)) hIr.out.ge (by simp) (by have := HN.out; simp; omega) (by unfold maxLen; omega)
    rw [List.take_left' (by simp), HDW.out.1] at h1
    exact h1
theorem run_remI (ρ : Operand -> Value) (o : Oper) (p q : Operand) {w : World} (ho : o.op = .binOp .rem 3 p q 3) (x y : Nat) (hx : x < 9223372036854775808) (hy : y ≠ 0) (hp : ρ p = .int .i64 (x : Int)) (hq : ρ q = .int .i64 (y : Int)) :
 (execOp ρ o).run Tryz.prog w = .ok (.value (.int .i64 ((x % y : Nat) : Int))) w := by
 obtain ⟨dst, op, type, pos, after, guard⟩ := o
 simp only at ho; subst ho
 have h1 := Nat.mod_le x y
 have e3 : IntKind.i64.wrap ((x : Int).tmod (y : Int)) = ((x % y : Nat) : Int) := by
  rw [<- Int.ofNat_tmod]
  generalize x % y = z at *
  exact wrap_small (by omega) (by omega)
 simp [go_sem, hp, hq, hy, e3]
 exact (Int.ofNat_tmod x y).symm.trans (Int.natCast_emod x y)
theorem run_quoI (ρ : Operand -> Value) (o : Oper) (p q : Operand) {w : World} (ho : o.op = .binOp .quo 3 p q 3) (x y : Nat) (hx : x < 9223372036854775808) (hy : y ≠ 0) (hp : ρ p = .int .i64 (x : Int)) (hq : ρ q = .int .i64 (y : Int)) :
 (execOp ρ o).run Tryz.prog w = .ok (.value (.int .i64 ((x / y : Nat) : Int))) w := by
 obtain ⟨dst, op, type, pos, after, guard⟩ := o
 simp only at ho; subst ho
 have h1 := Nat.div_le_self x y
 have e3 : IntKind.i64.wrap ((x : Int).tdiv (y : Int)) = ((x / y : Nat) : Int) := by
  rw [<- Int.ofNat_tdiv]
  generalize x / y = z at *
  exact wrap_small (by omega) (by omega)
 simp [go_sem, hp, hq, hy, e3]
 have e4 := Int.natCast_ediv x y
 rw [<- e4]
 generalize x / y = z at *
 exact wrap_small (by omega) (by omega)
theorem op_remI {w : World} {ops : Array Oper} {rest : List Oper} {o : Oper} {a : Act} {Q : Exit -> Act -> World -> Prop} (hg : o.guard = none) (p q : Operand) (ho : o.op = .binOp .rem 3 p q 3) {X Y : Int} (x y : Nat) (hx : x < 9223372036854775808) (hy : y ≠ 0)
 (hp : a.eval p = .int .i64 X) (hq : a.eval q = .int .i64 Y) (hX : X = (x : Int)) (hY : Y = (y : Int))
 (h : wpList Tryz.prog ops Q rest (a.put o.dst (.int .i64 ((x % y : Nat) : Int))) w) : wpList Tryz.prog ops Q (o :: rest) a w := by
 subst hX hY
 exact op_of_run hg (run_remI _ _ p q ho x y hx hy hp hq) h
theorem op_quoI {w : World} {ops : Array Oper} {rest : List Oper} {o : Oper} {a : Act} {Q : Exit -> Act -> World -> Prop} (hg : o.guard = none) (p q : Operand) (ho : o.op = .binOp .quo 3 p q 3) {X Y : Int} (x y : Nat) (hx : x < 9223372036854775808) (hy : y ≠ 0)
 (hp : a.eval p = .int .i64 X) (hq : a.eval q = .int .i64 Y) (hX : X = (x : Int)) (hY : Y = (y : Int))
 (h : wpList Tryz.prog ops Q rest (a.put o.dst (.int .i64 ((x / y : Nat) : Int))) w) : wpList Tryz.prog ops Q (o :: rest) a w := by
 subst hX hY
 exact op_of_run hg (run_quoI _ _ p q ho x y hx hy hp hq) h
set_option maxHeartbeats 1000000 in
theorem RLeast01_c (ao : Option Addr) (len cap : Nat) (ws : List Nat) (w : World) (hA : WAt w ao ws) (hl : len = ws.length) (hm : len <= 8796093022208) :
 Calls Tryz.prog 100 #[.slice ao len cap] w fun e w' => (∃ ao' cap', e = .returned (.slice ao' (wlen (nval ws)) cap') /\ OwnW w' w.heap.size ao' (wlen (nval ws)) cap' (dig (nval ws))) /\ Below w.heap.size w w' := by
 have HSp := Lib.hid (RSplit_c ao len cap ws w hA hl hm)
 clear hA hl
 go_enter Tryz.func100, Tryz.ntmps100
 go_wp2_with fail
 refine HSp.out.mono ?_
 rintro e w2 ⟨⟨b, ds, rfl, hb, hH, hD, hdl, _⟩, hb2⟩
 have hj := RJoin_c (some ⟨b, 0, none⟩) ds.length (4 * len) ds w2 hD hH.ok rfl hdl (by omega)
 rw [hH.val] at hj
 have HJ := Lib.hid hj; clear hj hH hD
 have HB2 := Lib.hid hb2; clear hb2
 go_wp2_with fail
 refine HJ.out.mono ?_
 rintro e w3 ⟨⟨ao', cap', rfl, hO⟩, hb3⟩
 have HO := Lib.hid (hO.mono HB2.out.size)
 have HB3 := Lib.hid (HB2.out.trans (hb3.mono HB2.out.size))
 clear hO hb3
 go_wp2
 go_ret
 exact ⟨⟨ao', cap', rfl, HO.out⟩, HB3.out⟩
theorem gw_out {l : List Nat} {i : Nat} (h : l.length <= i) : gw l i = 0 := by
 unfold gw; rw [List.getD_eq_getElem?_getD, List.getElem?_eq_none h]; rfl
set_option maxHeartbeats 1000000 in
theorem RAt_c (ao : Option Addr) (len cap : Nat) (ds : List Nat) (i : Nat) (w : World) (hA : DAt w ao ds) (hl : len = ds.length) (hm : len <= 35184372088832) (hi : i <= 35184372088832) :
 Calls Tryz.prog 120 #[.slice ao len cap, .int .i64 (i : Int)] w fun e w' => e = .returned (.int .i64 ((gw ds i : Nat) : Int)) /\ w' = w := by
 subst hl
 have HA := Lib.hid hA; clear hA
 go_enter Tryz.func120, Tryz.ntmps120
 by_cases h : ds.length <= i
 · rw [gw_out h]
   have h1 : (ds.length : Int) <= (i : Int) := by omega
   go_wp2
   go_ret
   exact ⟨rfl, rfl⟩
 · have h1 : ¬ (ds.length : Int) <= (i : Int) := by omega
   have h2 : (i : Int) < (ds.length : Int) := by omega
   obtain ⟨b, o, rfl, hb, hc⟩ := HA.out (by omega)
   have hcell := hc i (by omega)
   clear hc
   go_wp2
   go_ret
   exact ⟨rfl, rfl⟩
set_option maxHeartbeats 2000000 in
theorem ROrder_c (aoA aoB : Option Addr) (lA cA lB cB n m : Nat) (xs ys : List Nat) (w : World) (hA : DAt w aoA xs) (hB : DAt w aoB ys) (hx : Hex n xs) (hy : Hex m ys) (hlA : lA = xs.length) (hlB : lB = ys.length) (hmA : lA <= 35184372088832) (hmB : lB <= 35184372088832) :
 Calls Tryz.prog 102 #[.slice aoA lA cA, .slice aoB lB cB] w fun e w' => e = .returned (.int .i64 (ncmp n m)) /\ Below w.heap.size w w' := by
 subst hlA hlB
 have HX' := Lib.hid hx; clear hx
 have HY' := Lib.hid hy; clear hy
 have HA := Lib.hid hA; clear hA
 have HB := Lib.hid hB; clear hB
 by_cases hs : xs.length = ys.length
 · have hb : (((xs.length : Nat) : Int) != ((ys.length : Nat) : Int)) = false := by rw [hs]; simp
   have Hs := Lib.hid hs; clear hs
   go_enter Tryz.func102, Tryz.ntmps102
   go_wp2
   go_loopw [5] (fun i wr => ∃ k : Nat, k <= xs.length /\ i = .int .i64 ((k : Int) - 1) /\ Hid (∀ j, k <= j -> gw xs j = gw ys j) /\ Below w.heap.size w wr) (fun i _ => (intOf i + 1).toNat)
   case atStart => exact ⟨xs.length, Nat.le_refl _, rfl, Lib.hid (fun j hj => by rw [gw_out hj, gw_out (by have := Hs.out; omega)]), Below.refl _ _⟩
   case round =>
    obtain ⟨k, hk, rfl, hag, hbl⟩ := hrel
    by_cases h0 : 0 < k
    · have hk2 : k <= ys.length := by have := Hs.out; omega
      obtain ⟨b1, o1, rfl, hb1, hc1⟩ := (HA.out.below hbl) (by omega)
      obtain ⟨b2, o2, rfl, hb2, hc2⟩ := (HB.out.below hbl) (by omega)
      have e1 := hc1 (k - 1) (by omega)
      have e2 := hc2 (k - 1) (by omega)
      clear hc1 hc2
      have i1 : (k : Int) - 1 < (xs.length : Int) := by omega
      have i2 : (k : Int) - 1 < (ys.length : Int) := by omega
      have i3 : (0 : Int) <= (k : Int) - 1 := by omega
      by_cases hlt : gw xs (k - 1) < gw ys (k - 1)
      · have t1 : decide (((gw xs (k - 1) : Nat) : Int) < ((gw ys (k - 1) : Nat) : Int)) = true := by simp; omega
        go_wp2
        go_quiet (fail)
        go_wp2
        go_ret
        refine ⟨ret_int (ncmp_lt ?_).symm, below_drewN hbl _⟩
        rw [<- HX'.out.val, <- HY'.out.val]
        exact hval_lt_of HX'.out.ok Hs.out (k - 1) (by omega) (fun j hj => hag.out j (by omega)) hlt
      · have t1 : decide (((gw xs (k - 1) : Nat) : Int) < ((gw ys (k - 1) : Nat) : Int)) = false := by simp; omega
        by_cases hgt : gw ys (k - 1) < gw xs (k - 1)
        · have t2 : decide (((gw ys (k - 1) : Nat) : Int) < ((gw xs (k - 1) : Nat) : Int)) = true := by simp; omega
          go_wp2
          go_quiet (fail)
          go_wp2
          go_quiet (fail)
          go_wp2
          go_ret
          refine ⟨ret_int (ncmp_gt ?_).symm, below_drewN (below_drewN hbl _) _⟩
          rw [<- HX'.out.val, <- HY'.out.val]
          exact hval_lt_of HY'.out.ok Hs.out.symm (k - 1) (by omega) (fun j hj => (hag.out j (by omega)).symm) hgt
        · have t2 : decide (((gw ys (k - 1) : Nat) : Int) < ((gw xs (k - 1) : Nat) : Int)) = false := by simp; omega
          go_wp2
          go_quiet (fail)
          go_wp2
          go_quiet (fail)
          go_wp2
          go_roundw
          case rel => exact ⟨k - 1, by omega, by go_num, Lib.hid (fun j hj => by
           by_cases e : j = k - 1
           · subst e; omega
           · exact hag.out j (by omega)), below_drewN hbl _⟩
          case measure => simp [intOf]; omega
    · go_wp2
      go_ret
      refine ⟨ret_int (ncmp_eq ?_).symm, hbl⟩
      rw [<- HX'.out.val, <- HY'.out.val]
      exact hval_eq_of Hs.out (fun j => hag.out j (by omega))
 · have hb : (((xs.length : Nat) : Int) != ((ys.length : Nat) : Int)) = true := by rw [bne_iff_ne]; omega
   by_cases hlt : xs.length < ys.length
   all_goals
    go_enter Tryz.func102, Tryz.ntmps102
    go_wp2
    go_ret
   · exact ⟨ret_int (ncmp_lt (HX'.out.shorter HY'.out hlt)).symm, Below.refl _ _⟩
   · exact ⟨ret_int (ncmp_gt (HY'.out.shorter HX'.out (by omega))).symm, Below.refl _ _⟩
set_option maxHeartbeats 1000000 in
theorem RCmp01_c (aoA aoB : Option Addr) (lA cA lB cB : Nat) (xs ys : List Nat) (w : World) (hA : WAt w aoA xs) (hB : WAt w aoB ys) (hlA : lA = xs.length) (hlB : lB = ys.length) (hmA : lA <= 8796093022208) (hmB : lB <= 8796093022208) :
 Calls Tryz.prog 59 #[.slice aoA lA cA, .slice aoB lB cB] w fun e w' => e = .returned (.int .i64 (ncmp (nval xs) (nval ys))) /\ Below w.heap.size w w' := by
 have HS1 := Lib.hid (RSplit_c aoA lA cA xs w hA hlA hmA)
 have HB := Lib.hid hB; clear hB
 have HlB := Lib.hid hlB; clear hlB
 clear hA hlA
 go_enter Tryz.func59, Tryz.ntmps59
 go_wp2_with fail
 refine HS1.out.mono ?_
 rintro e w2 ⟨⟨b, ds, rfl, hb, hH, hD, hdl, _⟩, hb2⟩
 have HS2 := Lib.hid (RSplit_c aoB lB cB ys w2 (HB.out.below hb2) HlB.out hmB)
 have HH := Lib.hid hH; clear hH
 have HD := Lib.hid hD; clear hD
 have HB2 := Lib.hid hb2; clear hb2
 go_wp2_with fail
 refine HS2.out.mono ?_
 rintro e w3 ⟨⟨b', es, rfl, hb', hH', hD', hel, _⟩, hb3⟩
 have HO := Lib.hid (ROrder_c (some ⟨b, 0, none⟩) (some ⟨b', 0, none⟩) ds.length (4 * lA) es.length (4 * lB) _ _ ds es w3 (HD.out.below hb3) hD' HH.out hH' rfl rfl (by omega) (by omega))
 have HB3 := Lib.hid (HB2.out.trans (hb3.mono HB2.out.size))
 clear hH' hD' hb3
 go_wp2_with fail
 refine HO.out.mono ?_
 rintro e w4 ⟨rfl, hb4⟩
 have HB4 := Lib.hid (HB3.out.trans (hb4.mono HB3.out.size))
 clear hb4
 go_wp2
 go_ret
 exact ⟨rfl, HB4.out⟩
theorem hval_set_succ {l : List Nat} {k v : Nat} (hk : k < l.length) : hval ((l.set k v).take (k + 1)) = hval (l.take k) + HX ^ k * v := by
 rw [hval_take_succ, List.take_set_of_le (Nat.le_refl _)]
 congr 1
 unfold gw; simp [hk]
theorem RowAt.dat {w : World} {b : Nat} {ds : List Nat} (h : RowAt w b 3 (ds.map iv)) : DAt w (some ⟨b, 0, none⟩) ds := DAt.row (r := []) (by simpa using h)
theorem RowAt.setI {w : World} {b : Nat} {ds : List Nat} (h : RowAt w b 3 (ds.map iv)) (i v : Nat) : RowAt (w.setCell ⟨b, i, none⟩ (.int .i64 (v : Int))) b 3 ((ds.set i v).map iv) := by
 rw [<- map_iv_set]; exact h.set i _
theorem RowAt.getI {w : World} {b : Nat} {ds : List Nat} (h : RowAt w b 3 (ds.map iv)) {i : Nat} (hi : i < ds.length) : w.cell? ⟨b, i, none⟩ = some (.int .i64 ((gw ds i : Nat) : Int)) :=
 (h.cell i).trans (map_iv_get ds hi)
structure Two (w : World) (b1 b2 n m : Nat) (xs ys : List Nat) : Prop where
 h1 : Hex n xs
 h2 : Hex m ys
 d1 : DAt w (some ⟨b1, 0, none⟩) xs
 d2 : DAt w (some ⟨b2, 0, none⟩) ys
theorem Two.below {w w' : World} {b1 b2 n m : Nat} {xs ys : List Nat} (h : Two w b1 b2 n m xs ys) (hb : Below w.heap.size w w') : Two w' b1 b2 n m xs ys := ⟨h.h1, h.h2, h.d1.below hb, h.d2.below hb⟩
theorem DAt.other {w : World} {b g : Nat} {ds : List Nat} (h : DAt w (some ⟨b, 0, none⟩) ds) (hne : b ≠ g) (i : Nat) (v : Value) : DAt (w.setCell ⟨g, i, none⟩ v) (some ⟨b, 0, none⟩) ds := by
 intro hl
 obtain ⟨b', o, e, hlt, hc⟩ := h hl
 simp only [Option.some.injEq, Addr.mk.injEq, and_true] at e
 obtain ⟨rfl, rfl⟩ := e
 exact ⟨b, 0, rfl, by simpa using hlt, fun i hi => (World.cell?_setCell_far _ _ _ _ (fun e => hne e.symm)).trans (hc i hi)⟩
theorem Two.setI {w : World} {b1 b2 n m b : Nat} {xs ys cu : List Nat} (h : Two w b1 b2 n m xs ys) (_ : RowAt w b 3 (cu.map iv)) (hb : b1 < b /\ b2 < b) (i : Nat) (v : Value) : Two (w.setCell ⟨b, i, none⟩ v) b1 b2 n m xs ys :=
 ⟨h.h1, h.h2, h.d1.other (by omega) i v, h.d2.other (by omega) i v⟩
structure SumI (w : World) (b n i c : Nat) (xs ys cu : List Nat) (W' : World) : Prop where
 len : cu.length = n + 1
 ok : HOk cu
 c1 : c <= 1
 val : hval (cu.take i) + HX ^ i * c = hval (xs.take i) + hval (ys.take i)
 row : RowAt W' b 3 (cu.map iv)
 bel : Below w.heap.size w W'
set_option maxRecDepth 100000 in
set_option maxHeartbeats 4000000 in
theorem RAdd01_c (aoA aoB : Option Addr) (lA cA lB cB : Nat) (xs ys : List Nat) (w : World) (hA : WAt w aoA xs) (hB : WAt w aoB ys) (hlA : lA = xs.length) (hlB : lB = ys.length) (hmA : lA <= 1099511627776) (hmB : lB <= 1099511627776) :
 Calls Tryz.prog 73 #[.slice aoA lA cA, .slice aoB lB cB] w fun e w' => (∃ ao' cap', e = .returned (.slice ao' (wlen (nval xs + nval ys)) cap') /\ OwnW w' w.heap.size ao' (wlen (nval xs + nval ys)) cap' (dig (nval xs + nval ys))) /\ Below w.heap.size w w' := by
 have HS1 := Lib.hid (RSplit_c aoA lA cA xs w hA hlA (by omega))
 have HB := Lib.hid hB; clear hB
 have HlB := Lib.hid hlB; clear hlB
 clear hA hlA
 go_enter Tryz.func73, Tryz.ntmps73
 go_wp2_with fail
 refine HS1.out.mono ?_
 rintro e w2 ⟨⟨b1, ds, rfl, hb1, hH, hD, hdl, hlt1⟩, hb2⟩
 have HS2 := Lib.hid (RSplit_c aoB lB cB ys w2 (HB.out.below hb2) HlB.out (by omega))
 have HH := Lib.hid hH; clear hH
 have HD := Lib.hid hD; clear hD
 have HB2 := Lib.hid hb2; clear hb2
 go_wp2_with fail
 refine HS2.out.mono ?_
 rintro e w3 ⟨⟨b2, es, rfl, hb', hH', hD', hel, hlt2⟩, hb3⟩
 have HT : Hid (Two w3 b1 b2 (nval xs) (nval ys) ds es) := Lib.hid ⟨HH.out, hH', HD.out.below hb3, hD'⟩
 have HB3 := Lib.hid (HB2.out.trans (hb3.mono HB2.out.size))
 have hTB : b1 < w3.heap.size /\ b2 < w3.heap.size := ⟨Nat.lt_of_lt_of_le hlt1 hb3.size, hlt2⟩
 clear hH' hD' hb3 HH HD HB2 HS1 HS2 hb1 hb' hlt1 hlt2
 have HTB := Lib.hid hTB; clear hTB
 by_cases hcmp : (ds.length : Int) < (es.length : Int)
 · have hv1 : hval (ds.take es.length) = nval xs := by rw [List.take_of_length_le (by omega), HT.out.h1.val]
   have hv2 : hval (es.take es.length) = nval ys := by rw [List.take_of_length_le (by omega), HT.out.h2.val]
   have HV := Lib.hid (And.intro hv1 hv2); clear hv1 hv2
   go_wp2_with (at_make; refine mk_ints rfl _ _ rfl (es.length + 1) (es.length + 1) rfl rfl (by omega) (by omega) (Nat.le_refl _) (by omega) ?_; intro b w4 hm4)
   have hbg : w.heap.size <= b := by have := hm4.at_; have := HB3.out.size; omega
   have hbb : b1 < b /\ b2 < b := by have := hm4.at_; have := HTB.out; omega
   have HI : Hid (SumI w b es.length 0 0 ds es (List.replicate (es.length + 1) 0) w4) := Lib.hid ⟨by simp, HOk.replicate _, by omega, by simp [hval], hm4.row, HB3.out.trans (hm4.below.mono HB3.out.size)⟩
   have HT4 := Lib.hid (HT.out.below hm4.below)
   clear hm4 HT hcmp
   go_loopw [9, 10] (fun c_ i_ wr => ∃ (i c : Nat) (cu : List Nat), i <= es.length /\ i_ = .int .i64 (i : Int) /\ c_ = .int .i64 (c : Int) /\ Hid (SumI w b es.length i c ds es cu wr) /\ Hid (Two wr b1 b2 (nval xs) (nval ys) ds es)) (fun _ i_ _ => es.length - (intOf i_).toNat)
   case atStart => exact ⟨0, 0, _, Nat.zero_le _, rfl, rfl, HI, HT4⟩
   case round =>
    obtain ⟨i, c, cu, hi, rfl, rfl, hI, hT⟩ := hrel
    by_cases hin : i < es.length
    · have hin1 : (i : Int) < (es.length : Int) := by omega
      have hA1 := Lib.hid (RAt_c (some ⟨b1, 0, none⟩) ds.length (4 * lA) ds i wr hT.out.d1 rfl (by omega) (by omega))
      have hA2 := Lib.hid (RAt_c (some ⟨b2, 0, none⟩) es.length (4 * lB) es i wr hT.out.d2 rfl (by omega) (by omega))
      have hx := hT.out.h1.ok.gw_ i
      have hy := hT.out.h2.ok.gw_ i
      have hv := hval_take_succ ds i
      have hv' := hval_take_succ es i
      obtain ⟨x, hxe⟩ : ∃ x, gw ds i = x := ⟨_, rfl⟩
      obtain ⟨y, hye⟩ : ∃ y, gw es i = y := ⟨_, rfl⟩
      rw [hxe] at hx hv hA1
      rw [hye] at hy hv' hA2
      have hc := hI.out.c1
      have hxb : x <= 65535 := by unfold HX at hx; omega
      have hyb : y <= 65535 := by unfold HX at hy; omega
      have HVV := Lib.hid (And.intro hv hv')
      clear hx hy hv hv' hxe hye
      obtain ⟨s, hs⟩ : ∃ s, x + y + c = s := ⟨_, rfl⟩
      have hsb : s <= 131071 := by omega
      have hsi : (x : Int) + (y : Int) + (c : Int) = (s : Int) := by omega
      have HSI := Lib.hid hsi; clear hsi
      have HSS := Lib.hid hs; clear hs
      have g0 := hI.out.row.getI (i := i) (by rw [hI.out.len]; omega)
      have f0 := hI.out.row.free i
      go_wp2_with fail
      refine hA1.out.mono ?_
      rintro e w' ⟨rfl, rfl⟩
      go_wp2_with fail
      refine hA2.out.mono ?_
      rintro e w' ⟨rfl, rfl⟩
      go_wp2_with (first
       | (with_reducible show wpList _ _ _ (⟨some 44, _, _, _, _, _⟩ :: _) _ _; refine op_remI rfl _ _ rfl s 65536 (by omega) (by omega) rfl rfl HSI.out rfl ?_)
       | (with_reducible show wpList _ _ _ (⟨some 47, _, _, _, _, _⟩ :: _) _ _; refine op_quoI rfl _ _ rfl s 65536 (by omega) (by omega) rfl rfl HSI.out rfl ?_))
      go_roundw
      case rel =>
       have hI' := hI.out
       refine ⟨i + 1, s / 65536, cu.set i (s % 65536), by omega, by go_num, rfl, Lib.hid ⟨by rw [List.length_set]; exact hI'.len, hI'.ok.set _ _ (by unfold HX; omega), by omega, ?_, hI'.row.setI i _, hI'.bel.setCell (p := ⟨b, i, none⟩) hbg _⟩, Lib.hid (hT.out.setI hI'.row hbb i _)⟩
       rw [hval_set_succ (by rw [hI'.len]; omega), HVV.out.1, HVV.out.2]
       have e1 := hI'.val
       have e2 : HX ^ (i + 1) * (s / 65536) = HX ^ i * (65536 * (s / 65536)) := by rw [Nat.pow_succ, Nat.mul_assoc]; rfl
       have e3 : HX ^ i * (s % 65536) + HX ^ i * (65536 * (s / 65536)) = HX ^ i * s := by
        rw [<- Nat.mul_add, Nat.mod_add_div]
       have e4 : HX ^ i * s = HX ^ i * x + HX ^ i * y + HX ^ i * c := by rw [<- HSS.out, Nat.mul_add, Nat.mul_add]
       omega
      case measure => simp [intOf]; omega
    · obtain rfl : i = es.length := by omega
      have hI' := hI.out
      have g0 := hI'.row.getI (i := es.length) (by rw [hI'.len]; omega)
      have f0 := hI'.row.free es.length
      have hfin : hval (cu.set es.length c) = nval xs + nval ys := by
       have h1 := hval_set_succ (l := cu) (k := es.length) (v := c) (by rw [hI'.len]; omega)
       rw [List.take_of_length_le (by rw [List.length_set, hI'.len]; exact Nat.le_refl _)] at h1
       rw [h1, hI'.val, HV.out.1, HV.out.2]
      have hrow := hI'.row.setI es.length c
      have hbl := hI'.bel.setCell (p := ⟨b, es.length, none⟩) hbg (.int .i64 (c : Int))
      have hj := RJoin_c (some ⟨b, 0, none⟩) (es.length + 1) (es.length + 1) (cu.set es.length c) _ hrow.dat (hI'.ok.set _ _ (by have := hI'.c1; unfold HX; omega)) (by rw [List.length_set, hI'.len]) (Nat.le_refl _) (by omega)
      rw [hfin] at hj
      have HJ := Lib.hid hj
      have HBL := Lib.hid hbl
      clear hj hbl hrow hfin hI' hi hin
      go_wp2_with fail
      refine HJ.out.mono ?_
      rintro e w9 ⟨⟨ao', cap', rfl, hO⟩, hb9⟩
      have HO := Lib.hid (hO.mono HBL.out.size)
      have HB9 := Lib.hid (HBL.out.trans (hb9.mono HBL.out.size))
      clear hO hb9
      go_wp2
      go_ret
      exact ⟨⟨ao', cap', rfl, HO.out⟩, HB9.out⟩
 · have hv1 : hval (ds.take ds.length) = nval xs := by rw [List.take_of_length_le (by omega), HT.out.h1.val]
   have hv2 : hval (es.take ds.length) = nval ys := by rw [List.take_of_length_le (by omega), HT.out.h2.val]
   have HV := Lib.hid (And.intro hv1 hv2); clear hv1 hv2
   go_wp2_with (at_make; refine mk_ints rfl _ _ rfl (ds.length + 1) (ds.length + 1) rfl rfl (by omega) (by omega) (Nat.le_refl _) (by omega) ?_; intro b w4 hm4)
   have hbg : w.heap.size <= b := by have := hm4.at_; have := HB3.out.size; omega
   have hbb : b1 < b /\ b2 < b := by have := hm4.at_; have := HTB.out; omega
   have HI : Hid (SumI w b ds.length 0 0 ds es (List.replicate (ds.length + 1) 0) w4) := Lib.hid ⟨by simp, HOk.replicate _, by omega, by simp [hval], hm4.row, HB3.out.trans (hm4.below.mono HB3.out.size)⟩
   have HT4 := Lib.hid (HT.out.below hm4.below)
   clear hm4 HT hcmp
   go_loopw [9, 10] (fun c_ i_ wr => ∃ (i c : Nat) (cu : List Nat), i <= ds.length /\ i_ = .int .i64 (i : Int) /\ c_ = .int .i64 (c : Int) /\ Hid (SumI w b ds.length i c ds es cu wr) /\ Hid (Two wr b1 b2 (nval xs) (nval ys) ds es)) (fun _ i_ _ => ds.length - (intOf i_).toNat)
   case atStart => exact ⟨0, 0, _, Nat.zero_le _, rfl, rfl, HI, HT4⟩
   case round =>
    obtain ⟨i, c, cu, hi, rfl, rfl, hI, hT⟩ := hrel
    by_cases hin : i < ds.length
    · have hin1 : (i : Int) < (ds.length : Int) := by omega
      have hA1 := Lib.hid (RAt_c (some ⟨b1, 0, none⟩) ds.length (4 * lA) ds i wr hT.out.d1 rfl (by omega) (by omega))
      have hA2 := Lib.hid (RAt_c (some ⟨b2, 0, none⟩) es.length (4 * lB) es i wr hT.out.d2 rfl (by omega) (by omega))
      have hx := hT.out.h1.ok.gw_ i
      have hy := hT.out.h2.ok.gw_ i
      have hv := hval_take_succ ds i
      have hv' := hval_take_succ es i
      obtain ⟨x, hxe⟩ : ∃ x, gw ds i = x := ⟨_, rfl⟩
      obtain ⟨y, hye⟩ : ∃ y, gw es i = y := ⟨_, rfl⟩
      rw [hxe] at hx hv hA1
      rw [hye] at hy hv' hA2
      have hc := hI.out.c1
      have hxb : x <= 65535 := by unfold HX at hx; omega
      have hyb : y <= 65535 := by unfold HX at hy; omega
      have HVV := Lib.hid (And.intro hv hv')
      clear hx hy hv hv' hxe hye
      obtain ⟨s, hs⟩ : ∃ s, x + y + c = s := ⟨_, rfl⟩
      have hsb : s <= 131071 := by omega
      have hsi : (x : Int) + (y : Int) + (c : Int) = (s : Int) := by omega
      have HSI := Lib.hid hsi; clear hsi
      have HSS := Lib.hid hs; clear hs
      have g0 := hI.out.row.getI (i := i) (by rw [hI.out.len]; omega)
      have f0 := hI.out.row.free i
      go_wp2_with fail
      refine hA1.out.mono ?_
      rintro e w' ⟨rfl, rfl⟩
      go_wp2_with fail
      refine hA2.out.mono ?_
      rintro e w' ⟨rfl, rfl⟩
      go_wp2_with (first
       | (with_reducible show wpList _ _ _ (⟨some 44, _, _, _, _, _⟩ :: _) _ _; refine op_remI rfl _ _ rfl s 65536 (by omega) (by omega) rfl rfl HSI.out rfl ?_)
       | (with_reducible show wpList _ _ _ (⟨some 47, _, _, _, _, _⟩ :: _) _ _; refine op_quoI rfl _ _ rfl s 65536 (by omega) (by omega) rfl rfl HSI.out rfl ?_))
      go_roundw
      case rel =>
       have hI' := hI.out
       refine ⟨i + 1, s / 65536, cu.set i (s % 65536), by omega, by go_num, rfl, Lib.hid ⟨by rw [List.length_set]; exact hI'.len, hI'.ok.set _ _ (by unfold HX; omega), by omega, ?_, hI'.row.setI i _, hI'.bel.setCell (p := ⟨b, i, none⟩) hbg _⟩, Lib.hid (hT.out.setI hI'.row hbb i _)⟩
       rw [hval_set_succ (by rw [hI'.len]; omega), HVV.out.1, HVV.out.2]
       have e1 := hI'.val
       have e2 : HX ^ (i + 1) * (s / 65536) = HX ^ i * (65536 * (s / 65536)) := by rw [Nat.pow_succ, Nat.mul_assoc]; rfl
       have e3 : HX ^ i * (s % 65536) + HX ^ i * (65536 * (s / 65536)) = HX ^ i * s := by
        rw [<- Nat.mul_add, Nat.mod_add_div]
       have e4 : HX ^ i * s = HX ^ i * x + HX ^ i * y + HX ^ i * c := by rw [<- HSS.out, Nat.mul_add, Nat.mul_add]
       omega
      case measure => simp [intOf]; omega
    · obtain rfl : i = ds.length := by omega
      have hI' := hI.out
      have g0 := hI'.row.getI (i := ds.length) (by rw [hI'.len]; omega)
      have f0 := hI'.row.free ds.length
      have hfin : hval (cu.set ds.length c) = nval xs + nval ys := by
       have h1 := hval_set_succ (l := cu) (k := ds.length) (v := c) (by rw [hI'.len]; omega)
       rw [List.take_of_length_le (by rw [List.length_set, hI'.len]; exact Nat.le_refl _)] at h1
       rw [h1, hI'.val, HV.out.1, HV.out.2]
      have hrow := hI'.row.setI ds.length c
      have hbl := hI'.bel.setCell (p := ⟨b, ds.length, none⟩) hbg (.int .i64 (c : Int))
      have hj := RJoin_c (some ⟨b, 0, none⟩) (ds.length + 1) (ds.length + 1) (cu.set ds.length c) _ hrow.dat (hI'.ok.set _ _ (by have := hI'.c1; unfold HX; omega)) (by rw [List.length_set, hI'.len]) (Nat.le_refl _) (by omega)
      rw [hfin] at hj
      have HJ := Lib.hid hj
      have HBL := Lib.hid hbl
      clear hj hbl hrow hfin hI' hi hin
      go_wp2_with fail
      refine HJ.out.mono ?_
      rintro e w9 ⟨⟨ao', cap', rfl, hO⟩, hb9⟩
      have HO := Lib.hid (hO.mono HBL.out.size)
      have HB9 := Lib.hid (HBL.out.trans (hb9.mono HBL.out.size))
      clear hO hb9
      go_wp2
      go_ret
      exact ⟨⟨ao', cap', rfl, HO.out⟩, HB9.out⟩
structure DifI (w : World) (b i c : Nat) (xs ys cu : List Nat) (W' : World) : Prop where
 len : cu.length = xs.length
 ok : HOk cu
 c1 : c <= 1
 val : hval (cu.take i) + hval (ys.take i) = hval (xs.take i) + HX ^ i * c
 row : RowAt W' b 3 (cu.map iv)
 bel : Below w.heap.size w W'
set_option maxRecDepth 100000 in
set_option maxHeartbeats 4000000 in
theorem RSub01_c (aoA aoB : Option Addr) (lA cA lB cB : Nat) (xs ys : List Nat) (w : World) (hA : WAt w aoA xs) (hB : WAt w aoB ys) (hlA : lA = xs.length) (hlB : lB = ys.length) (hmA : lA <= 1099511627776) (hmB : lB <= 1099511627776) (hle : nval ys <= nval xs) :
 Calls Tryz.prog 74 #[.slice aoA lA cA, .slice aoB lB cB] w fun e w' => (∃ ao' cap', e = .returned (.tuple #[.slice ao' (wlen (nval xs - nval ys)) cap', .int .i64 0]) /\ OwnW w' w.heap.size ao' (wlen (nval xs - nval ys)) cap' (dig (nval xs - nval ys))) /\ Below w.heap.size w w' := by
 have HS1 := Lib.hid (RSplit_c aoA lA cA xs w hA hlA (by omega))
 have HB := Lib.hid hB; clear hB
 have HlB := Lib.hid hlB; clear hlB
 have HLE := Lib.hid hle; clear hle
 clear hA hlA
 go_enter Tryz.func74, Tryz.ntmps74
 go_wp2_with fail
 refine HS1.out.mono ?_
 rintro e w2 ⟨⟨b1, ds, rfl, hb1, hH, hD, hdl, hlt1⟩, hb2⟩
 have HS2 := Lib.hid (RSplit_c aoB lB cB ys w2 (HB.out.below hb2) HlB.out (by omega))
 have HH := Lib.hid hH; clear hH
 have HD := Lib.hid hD; clear hD
 have HB2 := Lib.hid hb2; clear hb2
 go_wp2_with fail
 refine HS2.out.mono ?_
 rintro e w3 ⟨⟨b2, es, rfl, hb', hH', hD', hel, hlt2⟩, hb3⟩
 have hT : Two w3 b1 b2 (nval xs) (nval ys) ds es := ⟨HH.out, hH', HD.out.below hb3, hD'⟩
 have HO := Lib.hid (ROrder_c (some ⟨b1, 0, none⟩) (some ⟨b2, 0, none⟩) ds.length (4 * lA) es.length (4 * lB) _ _ ds es w3 hT.d1 hT.d2 hT.h1 hT.h2 rfl rfl (by omega) (by omega))
 have HT := Lib.hid hT
 have HB3 := Lib.hid (HB2.out.trans (hb3.mono HB2.out.size))
 have hTB : b1 < w3.heap.size /\ b2 < w3.heap.size := ⟨Nat.lt_of_lt_of_le hlt1 hb3.size, hlt2⟩
 have hes : es.length <= ds.length := by
  by_cases h : es.length <= ds.length
  · exact h
  · have := hT.h1.shorter hT.h2 (by omega)
    have := HLE.out; omega
 have hnc : 0 <= ncmp (nval xs) (nval ys) := by
  unfold ncmp; have := HLE.out
  rw [if_neg (by omega)]; split <;> omega
 obtain ⟨cc, hcc⟩ : ∃ cc, ncmp (nval xs) (nval ys) = cc := ⟨_, rfl⟩
 rw [hcc] at HO hnc
 clear hH' hD' hb3 HH HD HB2 HS1 HS2 hb1 hb' hlt1 hlt2 hT hcc
 go_wp2_with fail
 refine HO.out.mono ?_
 rintro e w4 ⟨rfl, hb4⟩
 have HT4 := Lib.hid (HT.out.below hb4)
 have HB4 := Lib.hid (HB3.out.trans (hb4.mono HB3.out.size))
 have hTB4 : b1 < w4.heap.size /\ b2 < w4.heap.size := by have := hb4.size; omega
 clear hb4 HT HB3 hTB HO
 have hcc1 : ¬ cc < 0 := by omega
 go_wp2_with (at_make; refine mk_ints rfl _ _ rfl ds.length ds.length rfl rfl rfl rfl (Nat.le_refl _) (by omega) ?_; intro b w5 hm5)
 have hbg : w.heap.size <= b := by have := hm5.at_; have := HB4.out.size; omega
 have hbb : b1 < b /\ b2 < b := by have := hm5.at_; omega
 have HI : Hid (DifI w b 0 0 ds es (List.replicate ds.length 0) w5) := Lib.hid ⟨by simp, HOk.replicate _, by omega, by simp [hval], hm5.row, HB4.out.trans (hm5.below.mono HB4.out.size)⟩
 have HT5 := Lib.hid (HT4.out.below hm5.below)
 clear hm5 HT4 HB4
 go_loopw [9, 10] (fun c_ i_ wr => ∃ (i c : Nat) (cu : List Nat), i <= ds.length /\ i_ = .int .i64 (i : Int) /\ c_ = .int .i64 (c : Int) /\ Hid (DifI w b i c ds es cu wr) /\ Hid (Two wr b1 b2 (nval xs) (nval ys) ds es)) (fun _ i_ _ => ds.length - (intOf i_).toNat)
 case atStart => exact ⟨0, 0, _, Nat.zero_le _, rfl, rfl, HI, HT5⟩
 case round =>
  obtain ⟨i, c, cu, hi, rfl, rfl, hI, hT⟩ := hrel
  by_cases hin : i < ds.length
  · have hin1 : (i : Int) < (ds.length : Int) := by omega
    have hA2 := fun m => RAt_c (some ⟨b2, 0, none⟩) es.length (4 * lB) es i (wr.drewN m) (DAt.below (w := wr) hT.out.d2 (below_drewN (Below.refl _ _) m)) rfl (by omega) (by omega)
    obtain ⟨b1', o1', e1', hlt1', hc1'⟩ := hT.out.d1 (by omega)
    simp only [Option.some.injEq, Addr.mk.injEq, and_true] at e1'
    obtain ⟨rfl, rfl⟩ := e1'
    have hcell := hc1' i hin
    rw [Nat.zero_add] at hcell
    have hx := hT.out.h1.ok.gw_ i
    have hy := hT.out.h2.ok.gw_ i
    have hv := hval_take_succ ds i
    have hv' := hval_take_succ es i
    obtain ⟨x, hxe⟩ : ∃ x, gw ds i = x := ⟨_, rfl⟩
    obtain ⟨y, hye⟩ : ∃ y, gw es i = y := ⟨_, rfl⟩
    rw [hxe] at hx hv hcell
    rw [hye] at hy hv'
    have hA3 : ∀ m, Calls Tryz.prog 120 #[.slice (some ⟨b2, 0, none⟩) es.length (4 * lB), .int .i64 (i : Int)] (wr.drewN m) fun e w' => e = .returned (.int .i64 (y : Int)) /\ ∃ k, w' = (wr.drewN m).drewN k := fun m => by
     have := hA2 m
     rw [hye] at this
     exact this.mono (fun e w' h => ⟨h.1, 0, h.2⟩)
    have HA3 := Lib.hid hA3; clear hA2 hA3
    have hc := hI.out.c1
    have hxb : x <= 65535 := by unfold HX at hx; omega
    have hyb : y <= 65535 := by unfold HX at hy; omega
    have HVV := Lib.hid (And.intro hv hv')
    clear hx hy hv hv' hxe hye hc1'
    have g0 := hI.out.row.getI (i := i) (by rw [hI.out.len]; exact hin)
    have f0 := hI.out.row.free i
    go_wp2
    go_quiet ((go_at_call 120; refine Calls.quiet_of (HA3.out _)))
    have hT2 := Two.below (w := wr) hT.out (below_drewN (Below.refl _ _) nq)
    have hI2 : DifI w b i c ds es cu (wr.drewN nq) := ⟨hI.out.len, hI.out.ok, hI.out.c1, hI.out.val, hI.out.row.below (below_drewN (Below.refl _ _) nq) hI.out.row.lt, below_drewN hI.out.bel nq⟩
    generalize wr.drewN nq = w6 at *
    have HT2 := Lib.hid hT2; clear hT2
    have g0 := hI2.row.getI (i := i) (by rw [hI2.len]; exact hin)
    have f0 := hI2.row.free i
    have HI2 := Lib.hid hI2; clear hI2
    have fin : ∀ (z c' : Nat), z < HX -> c' <= 1 -> (z : Int) = (x : Int) - (y : Int) - (c : Int) + 65536 * (c' : Int) -> DifI w b (i + 1) c' ds es (cu.set i z) (w6.setCell ⟨b, i, none⟩ (.int .i64 (z : Int))) := by
     intro z c' hz hc' he
     have hI' := HI2.out
     refine ⟨by rw [List.length_set]; exact hI'.len, hI'.ok.set _ _ hz, hc', ?_, hI'.row.setI i _, hI'.bel.setCell (p := ⟨b, i, none⟩) hbg _⟩
     rw [hval_set_succ (by rw [hI'.len]; exact hin), HVV.out.1, HVV.out.2]
     have e1 := hI'.val
     have e2 : z + y + c = x + 65536 * c' := by omega
     have e3 : HX ^ (i + 1) * c' = HX ^ i * (65536 * c') := by rw [Nat.pow_succ, Nat.mul_assoc]; rfl
     have e4 : HX ^ i * z + HX ^ i * y + HX ^ i * c = HX ^ i * x + HX ^ i * (65536 * c') := by
      rw [<- Nat.mul_add, <- Nat.mul_add, <- Nat.mul_add, e2]
     omega
    have HF := Lib.hid fin; clear fin
    by_cases hneg : (x : Int) - (y : Int) - (c : Int) < 0
    · have hsum : (x : Int) - (y : Int) - (c : Int) + 65536 = ((x + 65536 - y - c : Nat) : Int) := by omega
      obtain ⟨z, hz⟩ : ∃ z, x + 65536 - y - c = z := ⟨_, rfl⟩
      rw [hz] at hsum
      have hF := HF.out z 1 (by unfold HX; omega) (Nat.le_refl _) (by omega)
      have HF2 := Lib.hid hF; clear hF
      have hzb : z <= 65535 := by omega
      have HSUM := Lib.hid hsum; clear hsum hz
      go_wp2
      go_roundw
      case rel =>
       have e5 := HSUM.out
       refine ⟨i + 1, 1, cu.set i z, by omega, by go_num, rfl, Lib.hid ?_, Lib.hid (HT2.out.setI HI2.out.row hbb i _)⟩
       rw [e5]; exact HF2.out
      case measure => simp [intOf]; omega
    · have hsum : (x : Int) - (y : Int) - (c : Int) = ((x - y - c : Nat) : Int) := by omega
      obtain ⟨z, hz⟩ : ∃ z, x - y - c = z := ⟨_, rfl⟩
      rw [hz] at hsum
      have hF := HF.out z 0 (by unfold HX; omega) (Nat.zero_le _) (by omega)
      have HF2 := Lib.hid hF; clear hF
      have HSUM := Lib.hid hsum; clear hsum hz
      go_wp2
      go_roundw
      case rel =>
       have e5 := HSUM.out
       refine ⟨i + 1, 0, cu.set i z, by omega, by go_num, rfl, Lib.hid ?_, Lib.hid (HT2.out.setI HI2.out.row hbb i _)⟩
       rw [e5]; exact HF2.out
      case measure => simp [intOf]; omega
  · obtain rfl : i = ds.length := by omega
    have hI' := hI.out
    have hfin : hval cu = nval xs - nval ys := by
     have h1 := hI'.val
     rw [List.take_of_length_le (by rw [hI'.len]; exact Nat.le_refl _), List.take_of_length_le hes, List.take_length, hT.out.h1.val, hT.out.h2.val] at h1
     have h2 := hval_lt hI'.ok
     rw [hI'.len] at h2
     have h3 := hI'.c1
     have h4 := HLE.out
     have h5 : c = 0 := by
      rcases Nat.eq_zero_or_pos c with h | h
      · exact h
      · obtain rfl : c = 1 := by omega
        omega
     subst h5
     omega
    have hj := RJoin_c (some ⟨b, 0, none⟩) ds.length ds.length cu _ hI'.row.dat hI'.ok hI'.len.symm (Nat.le_refl _) (by omega)
    rw [hfin] at hj
    have HJ := Lib.hid hj
    have HBL := Lib.hid hI'.bel
    clear hj hfin hI' hi hin
    go_wp2_with fail
    refine HJ.out.mono ?_
    rintro e w9 ⟨⟨ao', cap', rfl, hO⟩, hb9⟩
    have HO := Lib.hid (hO.mono HBL.out.size)
    have HB9 := Lib.hid (HBL.out.trans (hb9.mono HBL.out.size))
    clear hO hb9
    go_wp2
    go_ret2
    exact ⟨⟨ao', cap', rfl, HO.out⟩, HB9.out⟩
theorem RowI.put {w : World} {b N n : Nat} {D : List Nat} {W' : World} (h : RowI w b N D W') (hn : D.length = n) (hN : n + 1 <= N) (x : Nat) : RowI w b N (D ++ [x]) (W'.setCell ⟨b, n, none⟩ (.int .i64 (x : Int))) := by
 subst hn
 refine ⟨?_, h.bel.setCell (p := ⟨b, D.length, none⟩) h.ge _, h.ge⟩
 have e3 : (D.map iv ++ List.replicate (N - D.length) (iv 0)).set D.length (.int .i64 (x : Int)) = (D ++ [x]).map iv ++ List.replicate (N - (D ++ [x]).length) (iv 0) := by
  obtain ⟨q, hq⟩ : ∃ q, N - D.length = q + 1 := ⟨N - D.length - 1, by omega⟩
  have hq2 : N - (D ++ [x]).length = q := by simp; omega
  rw [hq, hq2, List.replicate_succ, List.set_append_right _ _ (by simp)]
  simp [iv]
 rw [<- e3]; exact h.row.set D.length (.int .i64 (x : Int))
theorem RowI.at0 {w : World} {b N n : Nat} {D : List Nat} {W' : World} (h : RowI w b N D W') (hn : D.length = n) (hN : n + 1 <= N) : W'.cell? ⟨b, n, none⟩ = some (.int .i64 0) := by
 subst hn
 rw [h.row.cell, List.getElem?_append_right (by simp)]
 have : 0 < N - D.length := by omega
 simp [iv, this]
set_option maxRecDepth 100000 in
set_option maxHeartbeats 4000000 in
theorem RDigits_c (ao : Option Addr) (len cap : Nat) (ws : List Nat) (w : World) (hA : WAt w ao ws) (hl : len = ws.length) (hm : len <= 8796093022208) :
 Calls Tryz.prog 98 #[.slice ao len cap] w fun e w' => (∃ b ds, e = .returned (.slice (some ⟨b, 0, none⟩) ds.length (4 * len)) /\ w.heap.size <= b /\ Hex (nval ws) ds /\ DAt w' (some ⟨b, 0, none⟩) ds /\ ds.length <= 4 * len /\ b < w'.heap.size) /\ Below w.heap.size w w' := by
 subst hl
 have HA := Lib.hid hA; clear hA
 have hw4 : IntKind.i64.wrap (4 * (ws.length : Int)) = ((4 * ws.length : Nat) : Int) := by rw [wrap_small] <;> omega
 go_enter Tryz.func98, Tryz.ntmps98
 go_wp2_with (at_make; refine mk_ints rfl _ _ rfl (4 * ws.length) (4 * ws.length) rfl rfl (by omega) (by omega) (Nat.le_refl _) (by omega) ?_; intro b w1 hm1)
 have hI : RowI w b (4 * ws.length) [] w1 := ⟨by have := hm1.row; rw [List.map_replicate] at this; simpa using this, hm1.below, by have := hm1.at_; omega⟩
 have HI := Lib.hid hI; clear hI hm1
 clear hw4
 go_loopw [4] (fun i_ wr => ∃ (i : Nat), i <= ws.length /\ i_ = .int .i64 (i : Int) /\ Hid (RowI w b (4 * ws.length) (spl (ws.take i)) wr)) (fun i_ _ => ws.length - (intOf i_).toNat)
 case atStart => exact ⟨0, Nat.zero_le _, rfl, Lib.hid (by simpa [spl] using HI.out)⟩
 case round =>
  obtain ⟨i, hi, rfl, hIr⟩ := hrel
  by_cases hin : i < ws.length
  · have hin1 : (i : Int) < (ws.length : Int) := by omega
    obtain ⟨ab, aoff, rfl, hab, hc⟩ := (HA.out.below hIr.out.bel).pos (by omega)
    have hcell := hc i hin
    have hgwW := HA.out.ok.gw i
    obtain ⟨x, hx⟩ : ∃ x, gw ws i = x := ⟨_, rfl⟩
    rw [hx] at hcell hgwW
    have Hx := Lib.hid hx; clear hx hc
    go_wp2
    go_loopw [5, 6] (fun x_ k_ wq => ∃ (k : Nat), k <= 4 /\ k_ = .int .i64 (k : Int) /\ x_ = .int .u64 ((x / HX ^ k : Nat) : Int) /\ Hid (RowI w b (4 * ws.length) (spl (ws.take i) ++ (sp4 x).take k) wq)) (fun _ k_ _ => 4 - (intOf k_).toNat)
    case atStart => exact ⟨0, by omega, rfl, by simp, Lib.hid (by simpa using hIr.out)⟩
    case round =>
     obtain ⟨k, hk, rfl, rfl, hIq⟩ := hrel
     by_cases hk4 : k < 4
     · have hk41 : (k : Int) < 4 := by omega
       obtain ⟨y, hy⟩ : ∃ y, x / HX ^ k = y := ⟨_, rfl⟩
       have hyW : y < W := by rw [<- hy]; exact Nat.lt_of_le_of_lt (Nat.div_le_self ..) hgwW
       have hlen : (spl (ws.take i) ++ (sp4 x).take k).length = 4 * i + k := by
        rw [List.length_append, spl_length, List.length_take, List.length_take, sp4_length, Nat.min_eq_left (by omega), Nat.min_eq_left (by omega)]
       have hroom : 4 * i + k + 1 <= 4 * ws.length := by omega
       have hnext : spl (ws.take i) ++ (sp4 x).take (k + 1) = (spl (ws.take i) ++ (sp4 x).take k) ++ [y % HX] := by
        have hd : (sp4 x).take (k + 1) = (sp4 x).take k ++ [y % HX] := by
         rw [<- hy]
         match k, hk4 with
         | 0, _ => simp [sp4]
         | 1, _ => simp [sp4, HX]
         | 2, _ => simp [sp4, HX, Nat.div_div_eq_div_mul]
         | 3, _ => simp [sp4, HX, Nat.div_div_eq_div_mul]
        rw [hd, List.append_assoc]
       have hdiv : x / HX ^ (k + 1) = y / HX := by rw [<- hy, Nat.div_div_eq_div_mul, Nat.pow_succ]
       rw [hy]
       generalize spl (ws.take i) ++ (sp4 x).take k = D at *
       have HN := Lib.hid (And.intro hnext hdiv); clear hnext hdiv hy
       have hr1 : remW y 65536 < 9223372036854775808 := Nat.lt_of_lt_of_le (Nat.mod_lt _ (by omega)) (by omega)
       have c0 := hIq.out.at0 hlen hroom
       have f0 := hIq.out.row.free (4 * i + k)
       have HL := Lib.hid hlen; clear hlen
       have hi1 : 4 * (i : Int) + (k : Int) < 4 * (ws.length : Int) := by omega
       go_wp2_with (first
        | (with_reducible show wpList _ _ _ (⟨some 32, _, _, _, _, _⟩ :: _) _ _; refine op_rem rfl _ _ rfl y 65536 hyW (by omega) rfl rfl rfl rfl ?_)
        | (with_reducible show wpList _ _ _ (⟨some 33, _, _, _, _, _⟩ :: _) _ _; refine op_of_run rfl (run_toI _ _ _ rfl (remW y 65536) hr1 rfl) ?_)
        | (with_reducible show wpList _ _ _ (⟨some 36, _, _, _, _, _⟩ :: _) _ _; refine op_quo rfl _ _ rfl y 65536 hyW (by omega) rfl rfl rfl rfl ?_))
       go_roundw
       case rel =>
        refine ⟨k + 1, by omega, by go_num, ?_, Lib.hid ?_⟩
        · rw [HN.out.2]; rfl
        · rw [HN.out.1]; exact hIq.out.put HL.out hroom (remW y 65536)
       case measure => simp [intOf]; omega
     · obtain rfl : k = 4 := by omega
       go_wp2
       go_roundw
       case rel =>
        have h9 := hIq.out
        refine ⟨i + 1, by omega, by go_num, Lib.hid ?_⟩
        have e : spl (ws.take (i + 1)) = spl (ws.take i) ++ sp4 x := by
         rw [List.take_succ_eq_append_getElem hin]
         have : ws[i] = x := by rw [<- Hx.out]; simp [gw, hin]
         simp [spl, this]
        rw [e]; exact h9
       case measure => simp [intOf]; omega
  · obtain rfl : i = ws.length := by omega
    have hIe := hIr.out
    rw [List.take_length] at hIe
    have hval := spl_val HA.out.ok
    have hlen := spl_length ws
    have hH := Hex.of (spl_ok ws)
    rw [hval] at hH
    have htl := tlen_le (spl ws)
    have HD := Lib.hid (show DAt wr (some ⟨b, 0, none⟩) (spl ws) from DAt.row hIe.row)
    have HH := Lib.hid (And.intro hH (And.intro hlen htl))
    have hlt := hIe.row.lt
    obtain ⟨t, ht⟩ : ∃ t, tlen (spl ws) = t := ⟨_, rfl⟩
    rw [ht] at HH
    have hlen2 : t <= 4 * ws.length := by have := HH.out.2; omega
    have HTL := Lib.hid ht; clear ht
    clear hH hval hlen htl hIe
    go_wp2
    go_loop [7] (fun n_ => ∃ k : Nat, k <= 4 * ws.length /\ t <= k /\ n_ = .int .i64 k) (fun i => (intOf i).toNat)
    case atStart => exact ⟨4 * ws.length, by omega, by omega, by go_num⟩
    case round =>
     obtain ⟨k, hk, ht, rfl⟩ := hrel
     by_cases h0 : 0 < k
     · obtain ⟨b', o', e', hb', hc'⟩ := HD.out (by rw [HH.out.2.1]; omega)
       simp only [Option.some.injEq, Addr.mk.injEq, and_true] at e'
       obtain ⟨rfl, rfl⟩ := e'
       have hcell := hc' (k - 1) (by rw [HH.out.2.1]; omega)
       rw [Nat.zero_add] at hcell
       have hkb : (k : Int) - 1 < 4 * (ws.length : Int) := by omega
       by_cases hz : gw (spl ws) (k - 1) = 0
       · have hzb : (((gw (spl ws) (k - 1) : Nat) : Int) == 0) = true := by rw [hz]; rfl
         have hnk : t <= k - 1 := by
          rw [<- HTL.out]
          exact tlen_of_zeros (spl ws) (k - 1) (fun j hj => by
           by_cases hj' : j = k - 1
           · rw [hj']; exact hz
           · exact zero_of_tlen (spl ws) j (by have := HTL.out; omega))
         clear hz hc'
         go_wp2
         go_round
         case rel => exact ⟨k - 1, by omega, hnk, by go_num⟩
         case measure => simp [intOf]; omega
       · have hzb : (((gw (spl ws) (k - 1) : Nat) : Int) == 0) = false := by rw [beq_eq_false_iff_ne]; omega
         have h1 := lt_tlen (spl ws) (k - 1) hz
         have hke : k = t := by have := HTL.out; omega
         clear hc' hz h1
         subst hke
         go_wp2
         go_ret
         have hl2 : ((spl ws).take k).length = k := by rw [List.length_take, Nat.min_eq_left HH.out.2.2]
         have hH := HH.out.1
         refine ⟨⟨b, (spl ws).take k, ?_, hIr.out.ge, hH, HD.out.take _, by omega, hlt⟩, hIr.out.bel⟩
         rw [hl2]; rfl
     · have hke : k = t := by omega
       subst hke
       go_wp2
       go_ret
       have hl2 : ((spl ws).take k).length = k := by rw [List.length_take, Nat.min_eq_left HH.out.2.2]
       have hH := HH.out.1
       refine ⟨⟨b, (spl ws).take k, ?_, hIr.out.ge, hH, HD.out.take _, by omega, hlt⟩, hIr.out.bel⟩
       rw [hl2]; rfl
def pw (ds : List Nat) (j q : Nat) : Nat := hval ((ds.take (4 * q + 4)).drop (max j (4 * q)))
theorem hval_drop (l : List Nat) {j : Nat} (hj : j < l.length) : hval (l.drop j) = gw l j + HX * hval (l.drop (j + 1)) := by
 rw [List.drop_eq_getElem_cons hj, hval]; simp [gw, hj]
theorem pw_step {ds : List Nat} {j : Nat} (hj : j < ds.length) : pw ds j (j / 4) = gw ds j + HX * pw ds (j + 1) (j / 4) := by
 unfold pw
 rw [Nat.max_eq_left (by omega), Nat.max_eq_left (by omega), hval_drop _ (by simp; omega), gw_tk (by omega)]
theorem pw_same {ds : List Nat} {j q : Nat} (h : q ≠ j / 4) : pw ds j q = pw ds (j + 1) q := by
 unfold pw
 by_cases h1 : j < 4 * q
 · rw [Nat.max_eq_right (by omega), Nat.max_eq_right (by omega)]
 · rw [List.drop_of_length_le (by simp; omega), List.drop_of_length_le (by simp; omega)]
theorem pw_top {ds : List Nat} {q : Nat} : pw ds ds.length q = 0 := by
 unfold pw
 rw [List.drop_of_length_le (by simp; omega)]; rfl
theorem pw_zero (ds : List Nat) (q : Nat) : pw ds 0 q = ch4 ds q := by
 unfold pw ch4
 rw [Nat.max_eq_right (by omega), List.drop_take]
 congr 2; omega
theorem pwd_lt3 {ds : List Nat} (h : HOk ds) (j : Nat) : pw ds (j + 1) (j / 4) < HX ^ 3 := by
 unfold pw
 refine Nat.lt_of_lt_of_le (hval_lt ((h.take _).drop _)) (Nat.pow_le_pow_right HX_pos ?_)
 rw [Nat.max_eq_left (by omega)]
 simp; omega
theorem pw_set {ds : List Nat} {j Q : Nat} (hj : j < ds.length) (hQ : j / 4 < Q) : ((List.range Q).map (pw ds (j + 1))).set (j / 4) (gw ds j + HX * pw ds (j + 1) (j / 4)) = (List.range Q).map (pw ds j) := by
 refine List.ext_getElem (by simp) fun q h1 h2 => ?_
 rw [List.getElem_set]
 by_cases e : j / 4 = q
 · rw [if_pos e]; subst e; simp [pw_step hj]
 · rw [if_neg e]; simp [pw_same (fun h => e h.symm)]
set_option maxRecDepth 100000 in
set_option maxHeartbeats 4000000 in
theorem RWords_c (b0 len cap : Nat) (ds : List Nat) (w : World) (hA : RowAt w b0 3 (ds.map iv)) (hok : HOk ds) (hl : len = ds.length) (hm : len <= 70368744177664) :
 Calls Tryz.prog 99 #[.slice (some ⟨b0, 0, none⟩) len cap] w fun e w' => (∃ ao' cap', e = .returned (.slice ao' (wlen (hval ds)) cap') /\ OwnW w' w.heap.size ao' (wlen (hval ds)) cap' (dig (hval ds))) /\ Below w.heap.size w w' := by
 subst hl
 have HA := Lib.hid hA; clear hA
 have HO := Lib.hid hok; clear hok
 obtain ⟨Q, hQ⟩ : ∃ Q, (ds.length + 3) / 4 = Q := ⟨_, rfl⟩
 have hQd : ds.length <= 4 * Q := by omega
 have hQb : Q <= 17592186044417 := by omega
 have hdv : IntKind.i64.wrap (((ds.length : Int) + 3).tdiv 4) = (Q : Int) := by
  have e : ((ds.length : Int) + 3).tdiv 4 = (((ds.length + 3) / 4 : Nat) : Int) := by
   rw [show ((ds.length : Int) + 3) = ((ds.length + 3 : Nat) : Int) by omega]
   exact (Int.ofNat_tdiv (ds.length + 3) 4).symm
  rw [e, hQ]; exact wrap_small (by omega) (by omega)
 have HQ := Lib.hid hQ; clear hQ
 go_enter Tryz.func99, Tryz.ntmps99
 go_wp2_with (at_make; refine mk_words rfl _ _ rfl Q Q rfl rfl rfl rfl (Nat.le_refl _) (by omega) ?_; intro b w1 hm1)
 have hrow : RowAt w1 b 49 (((List.range Q).map (pw ds ds.length)).map wv) := by
  have e : (List.range Q).map (pw ds ds.length) = List.replicate Q 0 := by
   refine List.ext_getElem (by simp) fun q h1 h2 => by simp [pw_top]
  rw [e]; exact hm1.row
 have hbg : w.heap.size <= b /\ b0 < b := by have := hm1.at_; have := HA.out.lt; omega
 have HR := Lib.hid hrow; clear hrow
 have HB := Lib.hid hm1.below
 clear hm1 hdv
 go_loopw [4] (fun i_ wr => ∃ (j : Nat), j <= ds.length /\ i_ = .int .i64 ((j : Int) - 1) /\ Hid (RowAt wr b 49 (((List.range Q).map (pw ds j)).map wv)) /\ Hid (Below w.heap.size w wr)) (fun i_ _ => (intOf i_ + 1).toNat)
 case atStart => exact ⟨ds.length, Nat.le_refl _, rfl, HR, HB⟩
 case round =>
  obtain ⟨j', hj, rfl, hR, hBl⟩ := hrel
  rcases Nat.eq_zero_or_pos j' with h0 | h0
  · subst h0
    have hL : (List.range Q).map (pw ds 0) = (List.range Q).map (ch4 ds) := List.map_congr_left (fun q _ => pw_zero ds q)
    have hR' := hR.out
    rw [hL] at hR'
    have hv := nval_ch4 Q ds hQd
    have hok := ch4_ok HO.out Q
    obtain ⟨ls, hls⟩ : ∃ ls, (List.range Q).map (ch4 ds) = ls := ⟨_, rfl⟩
    have hll : ls.length = Q := by rw [<- hls]; simp
    rw [hls] at hR' hv hok
    have hdig := dig_nval hok
    have htl := tlen_le ls
    rw [hv] at hdig
    have hwl : wlen (hval ds) = tlen ls := by unfold wlen; rw [hdig, List.length_take, Nat.min_eq_left htl]
    obtain ⟨t, ht⟩ : ∃ t, tlen ls = t := ⟨_, rfl⟩
    have HT := Lib.hid ht
    have HR2 := Lib.hid hR'
    have HOK := Lib.hid hok
    have HD := Lib.hid hdig
    rw [ht] at htl hwl
    have HWL := Lib.hid hwl
    have HLL := Lib.hid hll
    have htQ : t <= Q := by omega
    clear hR' hok hdig ht htl hwl hll hv hls hL
    go_wp2
    go_loop [5] (fun n_ => ∃ k : Nat, k <= Q /\ t <= k /\ n_ = .int .i64 k) (fun i => (intOf i).toNat)
    case atStart => exact ⟨Q, Nat.le_refl _, htQ, rfl⟩
    case round =>
     obtain ⟨k, hk, ht, rfl⟩ := hrel
     by_cases h0 : 0 < k
     · have hcell := HR2.out.word (i := k - 1) (by rw [HLL.out]; omega)
       have hkb : (k : Int) - 1 < (Q : Int) := by omega
       by_cases hz : gw ls (k - 1) = 0
       · have hzb : (((gw ls (k - 1) : Nat) : Int) == 0) = true := by rw [hz]; rfl
         have hnk : t <= k - 1 := by
          rw [<- HT.out]
          exact tlen_of_zeros ls (k - 1) (fun j hj => by
           by_cases hj' : j = k - 1
           · rw [hj']; exact hz
           · exact zero_of_tlen ls j (by have := HT.out; omega))
         clear hz
         go_wp2
         go_round
         case rel => exact ⟨k - 1, by omega, hnk, by go_num⟩
         case measure => simp [intOf]; omega
       · have hzb : (((gw ls (k - 1) : Nat) : Int) == 0) = false := by rw [beq_eq_false_iff_ne]; omega
         have h1 := lt_tlen ls (k - 1) hz
         have hke : k = t := by have := HT.out; omega
         clear hz h1
         subst hke
         go_wp2
         go_ret
         rw [HWL.out]
         refine ⟨⟨some ⟨b, 0, none⟩, Q, rfl, ?_⟩, hBl.out⟩
         have h1 := HR2.out.own (n := k) (B := w.heap.size) (cap := Q) HOK.out hbg.1 (by rw [HLL.out]; exact hk) HLL.out.symm (by unfold maxLen; omega)
         rw [HD.out, HT.out]; exact h1
     · have hke : k = t := by omega
       subst hke
       go_wp2
       go_ret
       rw [HWL.out]
       refine ⟨⟨some ⟨b, 0, none⟩, Q, rfl, ?_⟩, hBl.out⟩
       have h1 := HR2.out.own (n := k) (B := w.heap.size) (cap := Q) HOK.out hbg.1 (by rw [HLL.out]; exact hk) HLL.out.symm (by unfold maxLen; omega)
       rw [HD.out, HT.out]; exact h1
  · obtain ⟨j, rfl⟩ : ∃ j, j' = j + 1 := ⟨j' - 1, by omega⟩
    have e1 : ((j + 1 : Nat) : Int) - 1 = (j : Int) := by omega
    rw [e1]; clear e1
    have hpos : (0 : Int) <= (j : Int) := by omega
    have hjl : (j : Int) < (ds.length : Int) := by omega
    have hq : j / 4 < Q := by omega
    have hc := (HA.out.below hBl.out HA.out.lt).getI (i := j) (by omega)
    have hg := hR.out.word (i := j / 4) (by simp; exact hq)
    have hg2 : gw ((List.range Q).map (pw ds (j + 1))) (j / 4) = pw ds (j + 1) (j / 4) := by
     unfold gw; simp [hq]
    rw [hg2] at hg
    have hset := pw_set (ds := ds) (j := j) (Q := Q) (by omega) hq
    have hp3 := pwd_lt3 HO.out j
    have hd := HO.out.gw_ j
    obtain ⟨v, hv⟩ : ∃ v, pw ds (j + 1) (j / 4) = v := ⟨_, rfl⟩
    obtain ⟨d, hde⟩ : ∃ d, gw ds j = d := ⟨_, rfl⟩
    rw [hv] at hset hp3 hg
    rw [hde] at hset hd hc
    have hv3 : v <= 281474976710655 := by unfold HX at hp3; omega
    have hd3 : d <= 65535 := by unfold HX at hd; omega
    have hw1 : IntKind.u64.wrap ((v : Int) * 65536) = (v : Int) * 65536 := by rw [IntKind.wrap_u64]; omega
    have hw2 : IntKind.u64.wrap ((d : Int)) = (d : Int) := by rw [IntKind.wrap_u64]; omega
    have hw3 : IntKind.u64.wrap ((v : Int) * 65536 + (d : Int)) = (v : Int) * 65536 + (d : Int) := by rw [IntKind.wrap_u64]; omega
    have hf := hR.out.free (j / 4)
    have hjq : IntKind.i64.wrap ((j : Int) / 4) = (j : Int) / 4 := wrap_small (by omega) (by omega)
    have hqi : (j : Int) / 4 < (Q : Int) := by omega
    have hqp : 0 <= (j : Int) / 4 := by omega
    have hqn : ((j : Int) / 4).toNat = j / 4 := by omega
    have HS := Lib.hid hset; clear hset hg2 hv hde hp3 hd
    go_wp2
    go_region
    go_wp2
    go_roundw
    case rel =>
     refine ⟨j, by omega, by go_num, Lib.hid ?_, Lib.hid ?_⟩
     · have h9 := (hR.out.setWord (j / 4) (d + HX * v))
       rw [HS.out] at h9
       have e : ((d + HX * v : Nat) : Int) = (v : Int) * 65536 + (d : Int) := by unfold HX; omega
       rw [e] at h9
       exact h9
     · exact (hBl.out.setCell (p := ⟨b, j / 4, none⟩) hbg.1 _).drew
    case measure => simp only [intOf]; omega
end Go.Proofs.YtknkkceioockjaaGreat
