/- Part 4 of 9 of the proof that the law HnfTransforms returns true for every input of bulk at most 1048576 and leaves its arguments as they were: here the contracts of the functions that it calls, and plain lemmas. -/
import Derived.Test.YtknkkceioockjaaGreatRows
import Derived.WalkKit
import Derived.ProofKit
import Derived.OpenShut
import Derived.JoinedCond
import Derived.Carry
import Derived.Deep.Slices
import Derived.Lib.SmallJoins
import Derived.RangeFuncNested
import Derived.RangeFuncBound
import Derived.RangeFuncCalls
import Derived.RangeFuncLeaves
import Derived.Shelf.Abstract
import Derived.Shelf.RegionOpen
import Derived.OwnWalkIn
import Derived.TacticsInMore
import Derived.LoopNIn
import Derived.LoopIn
import Derived.Maps.AppendAt
import Derived.Deep.RegionLaw
import Derived.Test.YtknkkceioockjaaGreatPtC
set_option linter.all false
namespace Go.Proofs.YtknkkceioockjaaGreat
open Go.RowKit
theorem zdJ (v u : Value) (a b : Int) (w : World) (hA : z03 w 4398046511103 v a) (hB : z03 w 4398046511103 u b) :
 Calls Tryz.prog 172 #[v, u] w fun e w' => (∃ vg vx vy, e = .returned (.tuple #[vg, vx, vy]) /\ z05 w' w.heap.size vg (z1j a b) /\ z05 w' w.heap.size vx (z2t a b) /\ z05 w' w.heap.size vy (z4h a b)) /\ Below w.heap.size w w' := by
 refine (IExt_c v u a b w hA hB).mono ?_;rintro e w' ⟨⟨g, x, y, vg, vx, vy, rfl, hE, h1, h2, h3⟩, hb⟩;obtain ⟨rfl, rfl, rfl⟩ := hE.unique (z5U a b);exact ⟨⟨vg, vx, vy, rfl, h1, h2, h3⟩, hb⟩
theorem zbw {x y : Int} {B : Nat} (hy : y ≠ 0) (h : z04 y.natAbs <= B) : z04 (x.fmod y).natAbs <= B := by
 refine Nat.le_trans (z0p ?_) h;have h1 := Int.emod_nonneg x hy;have h2 := Int.emod_lt x hy;rw [Int.fmod_eq_emod];split <;> omega
theorem z4q (a b : Int) : z1j a b ∣ a /\ z1j a b ∣ b /\ (a ≠ 0 -> z1j a b ≠ 0) /\ 0 <= z1j a b := by
 have h := z5U a b;unfold z2B at h;by_cases hb : b = 0
 · rw [if_pos hb] at h;rw [h.1, hb];refine ⟨Int.natAbs_dvd.2 (Int.dvd_refl a), Int.dvd_zero _, fun ha => by omega, by omega⟩
 · rw [if_neg hb] at h;rw [h.1];refine ⟨Int.gcd_dvd_left .., Int.gcd_dvd_right .., fun ha h0 => ?_, by omega⟩;have : Int.gcd a b = 0 := by omega
   exact ha (Int.gcd_eq_zero_iff.1 this).1
theorem zd9 (a b : Int) (hg : z1j a b ≠ 0) : z2t a b * (a / z1j a b) + z4h a b * (b / z1j a b) = 1 := by
 have h := z5U a b;have hd := z4q a b;have key : a * z2t a b + b * z4h a b = z1j a b := by
  unfold z2B at h;split at h
  · rename_i hb;rw [h.1, h.2.1, h.2.2, hb, Int.zero_mul, Int.add_zero, Int.mul_comm];rcases Int.lt_trichotomy a 0 with e | e | e
    · rw [Int.sign_eq_neg_one_of_neg e]; omega
    · subst e; rfl
    · rw [Int.sign_eq_one_of_pos e]; omega
  · exact h.2.2.2
 have ha : z1j a b * (a / z1j a b) = a := Int.mul_ediv_cancel' hd.1;have hb : z1j a b * (b / z1j a b) = b := Int.mul_ediv_cancel' hd.2.1;refine Int.eq_of_mul_eq_mul_left hg ?_;rw [Int.mul_add, Int.mul_left_comm, ha, Int.mul_left_comm, hb, Int.mul_one, Int.mul_comm (z2t a b), Int.mul_comm (z4h a b)];exact key
theorem z8H (a b : Int) : (z2t a b).natAbs <= b.natAbs + 1 := by
 have h := z5U a b;have hg := z4q a b;unfold z2B at h;by_cases hb : b = 0
 · rw [if_pos hb] at h;rw [h.2.1];have := Int.natAbs_sign a;rcases Int.lt_trichotomy a 0 with h1 | h1 | h1
   · rw [Int.sign_eq_neg_one_of_neg h1]; simp
   · subst h1; simp
   · rw [Int.sign_eq_one_of_pos h1]; simp
 · rw [if_neg hb] at h;obtain ⟨h1, h2, h3, h4⟩ := h;have hg1 : 1 <= z1j a b := by
    have h0 : z1j a b ≠ 0 := by
     rw [h1]; intro h0;have : Int.gcd a b = 0 := by omega
     exact hb (Int.gcd_eq_zero_iff.1 this).2
    have := hg.2.2.2;omega
   have : z2t a b * 1 <= z2t a b * z1j a b := Int.mul_le_mul_of_nonneg_left hg1 h2;omega
theorem zaQ (a b : Int) : (z4h a b).natAbs <= a.natAbs + 1 := by
 have h := z5U a b;have hx := z8H a b;unfold z2B at h;by_cases hb : b = 0
 · rw [if_pos hb] at h;rw [h.2.2]; simp
 · rw [if_neg hb] at h;obtain ⟨h1, h2, h3, h4⟩ := h;have hg := (z4q a b).2.2.2;have hgb : (z1j a b).natAbs <= b.natAbs := by
    rw [h1];simp only [Int.natAbs_natCast];exact Nat.le_of_dvd (by omega) (Int.natAbs_dvd_natAbs.2 (Int.gcd_dvd_right a b) |> fun h => by simpa using h)
   have hg1 : 1 <= z1j a b := by
    have h0 : z1j a b ≠ 0 := by
     rw [h1]; intro h0;have : Int.gcd a b = 0 := by omega
     exact hb (Int.gcd_eq_zero_iff.1 this).2
    omega
   have hxl : (z2t a b).natAbs <= b.natAbs := by
    have : z2t a b * 1 <= z2t a b * z1j a b := Int.mul_le_mul_of_nonneg_left hg1 h2;omega
   have h5 : b * z4h a b = z1j a b - a * z2t a b := by omega
   have h6 : b.natAbs * (z4h a b).natAbs <= b.natAbs * (a.natAbs + 1) := by
    rw [<- Int.natAbs_mul, h5];have h7 : (z1j a b - a * z2t a b).natAbs <= (z1j a b).natAbs + (a * z2t a b).natAbs := Int.natAbs_sub_le ..;have h8 : (a * z2t a b).natAbs <= a.natAbs * b.natAbs := by rw [Int.natAbs_mul]; exact Nat.mul_le_mul_left _ hxl
    rw [Nat.mul_add, Nat.mul_one, Nat.mul_comm b.natAbs a.natAbs];omega
   exact Nat.le_of_mul_le_mul_left h6 (by omega)
theorem z7Y {n m B : Nat} (h : n <= m + 1) (hm : z04 m <= B) : z04 n <= B + 2 := by
 have h3 := z0p h;have h4 := z3V m 1;have h5 : z04 1 <= 1 := z0a (by decide);have h6 : max (z04 m) (z04 1) <= B + 1 := Nat.max_le.2 ⟨by omega, by omega⟩;omega
def z4G (R : List Hd) (i j : Nat) (a b c d : Int) : List Hd := if h : i < R.length /\ j < R.length then z2i R i j a b c d h.1 h.2 else R
theorem z4u {R : List Hd} {i j : Nat} {a b c d : Int} (hi : i < R.length) (hj : j < R.length) : z4G R i j a b c d = z2i R i j a b c d hi hj := by unfold z4G; rw [dif_pos ⟨hi, hj⟩]
def z0A (R : List Hd) (k n j : Nat) : List Hd := z32 R n k (-((ent R n j).fdiv (ent R k j)))
def z1m (R : List Hd) (k n j : Nat) : List Hd :=
 if (ent R n j).fmod (ent R k j) = 0 then z0A R k n j
 else z4G (z0A R k n j) k n (z2t (ent (z0A R k n j) k j) (ent (z0A R k n j) n j)) (z4h (ent (z0A R k n j) k j) (ent (z0A R k n j) n j))
  (-(ent (z0A R k n j) n j / z1j (ent (z0A R k n j) k j) (ent (z0A R k n j) n j))) (ent (z0A R k n j) k j / z1j (ent (z0A R k n j) k j) (ent (z0A R k n j) n j))
def AV.int4 (B : Nat) (a b c d : Int) : AV := AV.free (fun w v => ∃ p q r s : P4, v = .agg #[.bool p.1, .slice p.2.1 p.2.2.1 p.2.2.2, .bool q.1, .slice q.2.1 q.2.2.1 q.2.2.2, .bool r.1, .slice r.2.1 r.2.2.1 r.2.2.2, .bool s.1, .slice s.2.1 s.2.2.1 s.2.2.2] /\ z05 w B (av p) a /\ z05 w B (av q) b /\ z05 w B (av r) c /\ z05 w B (av s) d) (fun ⟨p, q, r, s, e, h1, h2, h3, h4⟩ hb => ⟨p, q, r, s, e, z05.below h1 hb, z05.below h2 hb, z05.below h3 hb, z05.below h4 hb⟩) (fun ⟨p, q, r, s, e, h1, h2, h3, h4⟩ hr _ ht k u _ => ⟨p, q, r, s, e, z05.setRow h1 hr ht k u, z05.setRow h2 hr ht k u, z05.setRow h3 hr ht k u, z05.setRow h4 hr ht k u⟩)
theorem z00.ownBlock {w : World} {g : Nat} {t : TypeId} {cs : List Value} (h : z00 w g t cs) {g' : Nat} {cur : Array Value} (hg : w.heap[g']? = some (.cells cur 49 (0, 0))) (ht : t ≠ 49) : g' ≠ g := by
 rintro rfl;unfold z00 at h;rw [hg] at h;simp only [Option.some.injEq, Obj.cells.injEq] at h;exact ht h.2.1.symm
theorem z1i.typed {w : World} {S : LSt} (h : z1i w S) : ∀ g, S.rws g -> ∃ t cs, z00 w g t cs /\ t ≠ 49 := by
 intro g hg;rcases hg with rfl | ⟨r, hr, rfl⟩
 · obtain ⟨tl, n, ho⟩ := h.mat.out; exact ⟨_, _, ho, by decide⟩
 · obtain ⟨ps, tl, nt, hp, _⟩ := h.mat.row r hr;exact ⟨_, _, hp, by decide⟩
theorem z0b.zbH {w : World} {S : LSt} (h : z0b w S) : ∀ g, S.own g -> ∃ t cs, z00 w g t cs /\ t ≠ 49 := by
 rintro g (e | ⟨t, ht, e⟩)
 · exact h.sd.typed g e
 · obtain ⟨V, hV⟩ := h.ext t ht;exact hV.sd.typed g ((hV.own g).1 e)
theorem Chg.ownI {S : Nat -> Prop} {w w' : World} (h : Chg S w w') (hS : ∀ g, S g -> ∃ t cs, z00 w g t cs /\ t ≠ 49) {B : Nat} {v : Value} {x : Int} (hx : z05 w B v x) : z05 w' B v x := by
 obtain ⟨ao, cap, rfl, h1, h2, h3, h4⟩ := hx;refine ⟨ao, cap, rfl, h1, h2, h3, ?_⟩;rcases h4 with h0 | ⟨g, c, cur, hv, hbb, hg, r⟩
 · exact .inl h0
 · refine .inr ⟨g, c, cur, hv, hbb, ?_, r⟩;rw [h.block g (Array.getElem?_eq_some_iff.1 hg).1 (fun hs => by obtain ⟨t, cs, hr, ht⟩ := hS g hs; exact hr.ownBlock hg ht rfl)];exact hg
set_option maxRecDepth 100000 in
set_option maxHeartbeats 8000000 in
theorem Meet_c (S : LSt) (k n j B c : Nat) (w : World) (h : z0b w S) (hk : k < S.R.length) (hn : n < S.R.length) (hkn : k ≠ n) (hj : j < c) (hB : B <= 4000000000000) (hF : Fit B c S.R) (hF1 : Fit B c (z0A S.R k n j)) (hp : ent S.R k j ≠ 0) (hp1 : ent (z0A S.R k n j) k j ≠ 0) (hR : S.R.length <= 1000000) (hc : c <= 1000000) (hT : S.sat B c) :
 Calls Tryz.prog 152 #[.pointer (some ⟨S.lb, 0, none⟩), .int .i64 (k : Int), .int .i64 (n : Int), .int .i64 (j : Int)] w fun e w' => e = .returned (.tuple #[]) /\ z0b w' (S.z09 (z1m S.R k n j)) /\ Chg S.own w w' := by
 have HL := Lib.hid h; clear h;have HF := Lib.hid hF; clear hF;have HF1 := Lib.hid hF1; clear hF1;have HP := Lib.hid hp; clear hp;have HP1 := Lib.hid hp1; clear hp1;have HT := Lib.hid hT; clear hT;go_enter Tryz.func152, Tryz.ntmps152;have cb : w.cell? ⟨S.lb, 0, none⟩ = some (.slice (some ⟨S.o, 0, none⟩) S.R.length S.cap) := HL.out.lad.cell 0;have ci : w.cell? ⟨S.o, n, none⟩ = some (.slice (some ⟨S.R[n].blk, 0, none⟩) S.R[n].xs.length S.R[n].cap) := HL.out.mat.hdr (i := n) hn;have ck : w.cell? ⟨S.o, k, none⟩ = some (.slice (some ⟨S.R[k].blk, 0, none⟩) S.R[k].xs.length S.R[k].cap) := HL.out.mat.hdr (i := k) hk;have hXi := HL.out.mat.row _ (List.getElem_mem (l := S.R) hn);have hXk := HL.out.mat.row _ (List.getElem_mem (l := S.R) hk);have hjl : j < S.R[n].xs.length := by rw [HF.out.len _ (List.getElem_mem hn)]; exact hj
 have hjk : j < S.R[k].xs.length := by rw [HF.out.len _ (List.getElem_mem hk)]; exact hj
 have hjl1 : (j : Int) < (S.R[n].xs.length : Int) := by omega
 have hjk1 : (j : Int) < (S.R[k].xs.length : Int) := by omega
 have hi1 : (n : Int) < (S.R.length : Int) := by omega
 have hk1 : (k : Int) < (S.R.length : Int) := by omega
 obtain ⟨pi, ci0, ci1, hni⟩ := hXi.get hjl;obtain ⟨pk, ck0, ck1, hnk⟩ := hXk.get hjk;have hwi : z04 (S.R[n].xs[j]).natAbs <= B := HF.out.fit _ (List.getElem_mem hn) _ (List.getElem_mem hjl);have hwk : z04 (S.R[k].xs[j]).natAbs <= B := HF.out.fit _ (List.getElem_mem hk) _ (List.getElem_mem hjk);obtain ⟨xi, hxi⟩ : ∃ xi, S.R[n].xs[j] = xi := ⟨_, rfl⟩;obtain ⟨xk, hxk⟩ : ∃ xk, S.R[k].xs[j] = xk := ⟨_, rfl⟩;rw [hxi] at hni hwi;rw [hxk] at hnk hwk;have Hxi := Lib.hid ((z2x hn hjl).trans hxi); clear hxi;have Hxk := Lib.hid ((z2x hk hjk).trans hxk); clear hxk;have sb1 := hXi.lt;have sb2 := hXk.lt;have sb3 : S.lb < w.heap.size := HL.out.lad.lt;have sb4 : S.o < w.heap.size := HL.out.mat.out.lt;clear hXi hXk;have hpz : xk ≠ 0 := by have := HP.out; rw [Hxk.out] at this; exact this
 have Hpz := Lib.hid hpz; clear hpz;have Hni := Lib.hid (hni.int (L := 17592186044415) (by omega));have Hnk := Lib.hid (hnk.int (L := 17592186044415) (by omega));clear hni hnk;go_wp2;refine z0S ⟨30, fun q_ => [21, 22, 23, 24, 25, 26, 27, 28, 29, 30, 31, 32, 33, 34, 35, 36, 37, 38, 39, 40, 41, 20, 42, 43, 44, 8, 9, 1027, 1028, 10].getD q_ 0,
  fun q_ => [.val (.pointer (some ⟨S.lb, 0, none⟩)), .val (.pointer (some ⟨S.lb, 0, none⟩)), .val (.pointer (some ⟨S.lb, 0, none⟩)), .val (.slice (some ⟨S.o, 0, none⟩) S.R.length S.cap), .val (.int .i64 (n : Int)), .val (.pointer (some ⟨S.o, n, none⟩)), .val (.slice (some ⟨S.R[n].blk, 0, none⟩) S.R[n].xs.length S.R[n].cap), .val (.int .i64 (j : Int)), .val (.pointer (some ⟨S.R[n].blk, j * 2, none⟩)), .val (.agg #[.bool pi.1, .slice pi.2.1 pi.2.2.1 pi.2.2.2]), .val (.pointer (some ⟨S.lb, 0, none⟩)), .val (.pointer (some ⟨S.lb, 0, none⟩)), .val (.pointer (some ⟨S.lb, 0, none⟩)), .val (.slice (some ⟨S.o, 0, none⟩) S.R.length S.cap), .val (.int .i64 (k : Int)), .val (.pointer (some ⟨S.o, k, none⟩)), .val (.slice (some ⟨S.R[k].blk, 0, none⟩) S.R[k].xs.length S.R[k].cap), .val (.int .i64 (j : Int)), .val (.pointer (some ⟨S.R[k].blk, j * 2, none⟩)), .val (.agg #[.bool pk.1, .slice pk.2.1 pk.2.2.1 pk.2.2.2]), .tup2 0 (xi.fdiv xk) (xi.fmod xk), .tup2 0 (xi.fdiv xk) (xi.fmod xk), .int 0 (xi.fdiv xk), .int 0 (xi.fmod xk), .val (.int .i64 0), .ptr w.heap.size 45 2, .ptr w.heap.size 45 2, .any, .any, .val (.int .i64 0)].getD q_ .any,
  [],
  [(.agg #[.bool pi.1, .slice pi.2.1 pi.2.2.1 pi.2.2.2], .at_ 17592186044415 xi), (.agg #[.bool pk.1, .slice pk.2.1 pk.2.2.1 pk.2.2.2], .at_ 17592186044415 xk)],
  [],
  [(27, 8, 45, .int 0 (xi.fdiv xk)), (28, 9, 45, .int 0 (xi.fmod xk))], [(⟨S.lb, 0, none⟩, .slice (some ⟨S.o, 0, none⟩) S.R.length S.cap), (⟨S.o, n, none⟩, .slice (some ⟨S.R[n].blk, 0, none⟩) S.R[n].xs.length S.R[n].cap), (⟨S.o, k, none⟩, .slice (some ⟨S.R[k].blk, 0, none⟩) S.R[k].xs.length S.R[k].cap), (⟨S.R[n].blk, j * 2, none⟩, .bool pi.1), (⟨S.R[n].blk, j * 2 + 1, none⟩, .slice pi.2.1 pi.2.2.1 pi.2.2.2), (⟨S.R[k].blk, j * 2, none⟩, .bool pk.1), (⟨S.R[k].blk, j * 2 + 1, none⟩, .slice pk.2.1 pk.2.2.1 pk.2.2.2)], [(25, 8), (26, 9)]⟩ [21, 22, 23, 24, 25, 26, 27, 28, 29, 30, 31, 32, 33, 34, 35, 36, 37, 38, 39, 40, 41, 20, 42, 43, 44, 8, 9, 10] (w.heap.size) (by kernel_rfl) (by kernel_rfl) (by kernel_rfl) (by kernel_rfl) ?_ ?_ ?_ ?_ ?_ ?_
 · exact z0q (Hni.out) (z0q (Hnk.out) z0h)
 · exact z0h
 · exact z0q (⟨cb, by dsimp only; omega, z0h⟩) (z0q (⟨ci, by dsimp only; omega, z0h⟩) (z0q (⟨ck, by dsimp only; omega, z0h⟩) (z0q (⟨ci0, by dsimp only; omega, z0h⟩) (z0q (⟨ci1, by dsimp only; omega, z0h⟩) (z0q (⟨ck0, by dsimp only; omega, z0h⟩) (z0q (⟨ck1, by dsimp only; omega, z0h⟩) z0h))))))
 · exact z0h
 · refine z02 ?_ (z02 ?_ (z02 ?_ (z02 ?_ (z02 ?_ (z02 ?_ (z02 ?_ (z02 ?_ (z02 ?_ (z02 ?_ (z02 ?_ (z02 ?_ (z02 ?_ (z02 ?_ (z02 ?_ (z02 ?_ (z02 ?_ (z02 ?_ (z02 ?_ (z02 ?_ (z02 ?_ (z02 ?_ (z02 ?_ (z02 ?_ (z02 ?_ (z02 ?_ (z02 ?_ (z02 ?_ (z02 ?_ (z02 ?_ z2v)))))))))))))))))))))))))))));any_goals (first | (intro L fx w' hJ hL hp hcl; have _ := hp0 hp (by decide +kernel); refine wps rfl fun K hK => ?_; go_simp; exact hJ.q hK (by kernel_rfl) rfl) | fail)
   · intro L fx w' hJ hL hp hcl;have e0 := hJ.pt 0 21 (.pointer (some ⟨S.lb, 0, none⟩)) rfl rfl rfl (hp 0 (by decide));rw [e0] at hJ ⊢; clear e0;refine wps rfl fun K hK => ?_;go_simp;exact hJ.q hK (by kernel_rfl) rfl
   · intro L fx w' hJ hL hp hcl;have e1 := hJ.pt 1 22 (.pointer (some ⟨S.lb, 0, none⟩)) rfl rfl rfl (hp 1 (by decide));rw [e1] at hJ ⊢; clear e1;refine wps rfl fun K hK => ?_;go_simp;exact hJ.q hK (by kernel_rfl) rfl
   · intro L fx w' hJ hL hp hcl;have e2 := hJ.pt 2 23 (.pointer (some ⟨S.lb, 0, none⟩)) rfl rfl rfl (hp 2 (by decide));rw [e2] at hJ ⊢; clear e2;refine wps rfl fun K hK => ?_;have cl0 := (hJ.cells _ mm0).1;try dsimp only at cl0
     go_simp;exact hJ.q hK (by kernel_rfl) rfl
   · intro L fx w' hJ hL hp hcl;have e3 := hJ.pt 3 24 (.slice (some ⟨S.o, 0, none⟩) S.R.length S.cap) rfl rfl rfl (hp 3 (by decide));rw [e3] at hJ ⊢; clear e3;have e4 := hJ.pt 4 25 (.int .i64 (n : Int)) rfl rfl rfl (hp 4 (by decide));rw [e4] at hJ ⊢; clear e4;refine wps rfl fun K hK => ?_;go_simp;exact hJ.q hK (by kernel_rfl) rfl
   · intro L fx w' hJ hL hp hcl;have e5 := hJ.pt 5 26 (.pointer (some ⟨S.o, n, none⟩)) rfl rfl rfl (hp 5 (by decide));rw [e5] at hJ ⊢; clear e5;refine wps rfl fun K hK => ?_;have cl0 := (hJ.cells _ mm1).1;try dsimp only at cl0
     go_simp;exact hJ.q hK (by kernel_rfl) rfl
   · intro L fx w' hJ hL hp hcl;have e6 := hJ.pt 6 27 (.slice (some ⟨S.R[n].blk, 0, none⟩) S.R[n].xs.length S.R[n].cap) rfl rfl rfl (hp 6 (by decide));rw [e6] at hJ ⊢; clear e6;have e7 := hJ.pt 7 28 (.int .i64 (j : Int)) rfl rfl rfl (hp 7 (by decide));rw [e7] at hJ ⊢; clear e7;refine wps rfl fun K hK => ?_;go_simp;exact hJ.q hK (by kernel_rfl) rfl
   · intro L fx w' hJ hL hp hcl;have e8 := hJ.pt 8 29 (.pointer (some ⟨S.R[n].blk, j * 2, none⟩)) rfl rfl rfl (hp 8 (by decide));rw [e8] at hJ ⊢; clear e8;refine wps rfl fun K hK => ?_;have cl0 := (hJ.cells _ mm3).1;have cl1 := (hJ.cells _ mm4).1;try dsimp only at cl0 cl1
     go_simp;exact hJ.q hK (by kernel_rfl) rfl
   · intro L fx w' hJ hL hp hcl;have e10 := hJ.pt 10 31 (.pointer (some ⟨S.lb, 0, none⟩)) rfl rfl rfl (hp 10 (by decide));rw [e10] at hJ ⊢; clear e10;refine wps rfl fun K hK => ?_;go_simp;exact hJ.q hK (by kernel_rfl) rfl
   · intro L fx w' hJ hL hp hcl;have e11 := hJ.pt 11 32 (.pointer (some ⟨S.lb, 0, none⟩)) rfl rfl rfl (hp 11 (by decide));rw [e11] at hJ ⊢; clear e11;refine wps rfl fun K hK => ?_;go_simp;exact hJ.q hK (by kernel_rfl) rfl
   · intro L fx w' hJ hL hp hcl;have e12 := hJ.pt 12 33 (.pointer (some ⟨S.lb, 0, none⟩)) rfl rfl rfl (hp 12 (by decide));rw [e12] at hJ ⊢; clear e12;refine wps rfl fun K hK => ?_;have cl0 := (hJ.cells _ mm0).1;try dsimp only at cl0
     go_simp;exact hJ.q hK (by kernel_rfl) rfl
   · intro L fx w' hJ hL hp hcl;have e13 := hJ.pt 13 34 (.slice (some ⟨S.o, 0, none⟩) S.R.length S.cap) rfl rfl rfl (hp 13 (by decide));rw [e13] at hJ ⊢; clear e13;have e14 := hJ.pt 14 35 (.int .i64 (k : Int)) rfl rfl rfl (hp 14 (by decide));rw [e14] at hJ ⊢; clear e14;refine wps rfl fun K hK => ?_;go_simp;exact hJ.q hK (by kernel_rfl) rfl
   · intro L fx w' hJ hL hp hcl;have e15 := hJ.pt 15 36 (.pointer (some ⟨S.o, k, none⟩)) rfl rfl rfl (hp 15 (by decide));rw [e15] at hJ ⊢; clear e15;refine wps rfl fun K hK => ?_;have cl0 := (hJ.cells _ mm2).1;try dsimp only at cl0
     go_simp;exact hJ.q hK (by kernel_rfl) rfl
   · intro L fx w' hJ hL hp hcl;have e16 := hJ.pt 16 37 (.slice (some ⟨S.R[k].blk, 0, none⟩) S.R[k].xs.length S.R[k].cap) rfl rfl rfl (hp 16 (by decide));rw [e16] at hJ ⊢; clear e16;have e17 := hJ.pt 17 38 (.int .i64 (j : Int)) rfl rfl rfl (hp 17 (by decide));rw [e17] at hJ ⊢; clear e17;refine wps rfl fun K hK => ?_;go_simp;exact hJ.q hK (by kernel_rfl) rfl
   · intro L fx w' hJ hL hp hcl;have e18 := hJ.pt 18 39 (.pointer (some ⟨S.R[k].blk, j * 2, none⟩)) rfl rfl rfl (hp 18 (by decide));rw [e18] at hJ ⊢; clear e18;refine wps rfl fun K hK => ?_;have cl0 := (hJ.cells _ mm5).1;have cl1 := (hJ.cells _ mm6).1;try dsimp only at cl0 cl1
     go_simp;exact hJ.q hK (by kernel_rfl) rfl
   · intro L fx w' hJ hL hp hcl;have e9 := hJ.pt 9 30 (.agg #[.bool pi.1, .slice pi.2.1 pi.2.2.1 pi.2.2.2]) rfl rfl rfl (hp 9 (by decide));rw [e9] at hJ ⊢; clear e9;have e19 := hJ.pt 19 40 (.agg #[.bool pk.1, .slice pk.2.1 pk.2.2.1 pk.2.2.2]) rfl rfl rfl (hp 19 (by decide));rw [e19] at hJ ⊢; clear e19;refine wps rfl fun K hK => ?_;go_simp;go_at_call 70;refine (z9v _ _ xi xk _ (show z03 w' _ _ _ from hJ.base _ mm0) (show z03 w' _ _ _ from hJ.base _ mm1) Hpz.out).mono ?_;rintro e w4 ⟨⟨v5, v6, rfl, h5, h6⟩, hb4⟩;try dsimp only
     exact hK _ _ ⟨_, by kernel_rfl, hJ.gC 20 rfl (by kernel_rfl) hb4 ⟨_, _, rfl, z05.mono h5 (Nat.zero_le _), z05.mono h6 (Nat.zero_le _)⟩ (by omega)⟩
   · intro L fx w' hJ hL hp hcl;have e20 := hJ.slot 20 (by show 20 < 30; decide) (hp 20 (by decide));refine wps rfl fun K hK => ?_;go_simp;exact hJ.q hK (by kernel_rfl) e20
   · intro L fx w' hJ hL hp hcl;have e21 := hJ.slot 21 (by show 21 < 30; decide) (hp 21 (by decide));obtain ⟨vq, vr, hvt, hq1, hr1⟩ := e21;rw [z07 (x := fx) (d := 20) (v := (.tuple #[vq, vr, .int .i64 0])) hvt] at hJ ⊢;refine wps rfl fun K hK => ?_;go_simp;exact hJ.q hK (by kernel_rfl) hq1
   · intro L fx w' hJ hL hp hcl;have e21 := hJ.slot 21 (by show 21 < 30; decide) (hp 21 (by decide));obtain ⟨vq, vr, hvt, hq1, hr1⟩ := e21;rw [z07 (x := fx) (d := 20) (v := (.tuple #[vq, vr, .int .i64 0])) hvt] at hJ ⊢;refine wps rfl fun K hK => ?_;go_simp;exact hJ.q hK (by kernel_rfl) hr1
   · intro L fx w' hJ hL hp hcl;have e21 := hJ.slot 21 (by show 21 < 30; decide) (hp 21 (by decide));obtain ⟨vq, vr, hvt, hq1, hr1⟩ := e21;rw [z07 (x := fx) (d := 20) (v := (.tuple #[vq, vr, .int .i64 0])) hvt] at hJ ⊢;refine wps rfl fun K hK => ?_;go_simp;exact hJ.q hK (by kernel_rfl) rfl
   · intro L fx w' hJ hL hp hcl;have hg0 : w.heap.size <= w'.heap.size := Nat.le_trans (by omega : w.heap.size <= w.heap.size) hJ.size;refine wps rfl fun K hK => ?_;go_simp;exact hK _ _ ⟨_, by kernel_rfl, hJ.grow 25 (by show 25 < 30; decide) _ (by kernel_rfl) (by kernel_rfl) (by intro t ht; rcases mc ht with rfl | ht; exact ⟨by show 27 ≠ 25; decide, fun _ => by cases hh : L 27 with | false => rfl | true => have := hcl 27 (by show 27 < 30; decide) hh 25 (by decide); rw [hL] at this; cases this⟩; rcases mc ht with rfl | ht; exact ⟨by show 28 ≠ 25; decide, fun h => absurd (show 9 = 8 from h) (by decide)⟩; cases ht) (by intro p hp; rcases mc hp with rfl | hp; exact ⟨⟨fun _ => rfl, fun _ => rfl⟩, fun _ q hq hne hLq => (by rcases mc hq with rfl | hq; exact absurd rfl hne; rcases mc hq with rfl | hq; (obtain ⟨g9, cs9, hx9, _, hr9, _⟩ := hJ.slot 26 (by show 26 < 30; decide) hLq; have hx9 : fx 9 = _ := hx9; show _ ≠ fx 9; rw [hx9]; intro e9; injection e9 with e9; injection e9 with e9; injection e9 with e9; exact absurd e9 (Nat.ne_of_gt hr9.lt)); cases hq)⟩; rcases mc hp with rfl | hp; exact ⟨⟨fun h => absurd (show 26 = 25 from h) (by decide), fun h => absurd (show 9 = 8 from h) (by decide)⟩, fun h => absurd (show 26 = 25 from h) (by decide)⟩; cases hp) ((Below.refl _ _).alloc (Nat.le_refl _) _) ⟨w'.heap.size, _, rfl, hJ.size, z00.new _ _ _, NoW.two _ _ _ _, rfl⟩ hg0⟩
   · intro L fx w' hJ hL hp hcl;have hg0 : w.heap.size <= w'.heap.size := Nat.le_trans (by omega : w.heap.size <= w.heap.size) hJ.size;refine wps rfl fun K hK => ?_;go_simp;exact hK _ _ ⟨_, by kernel_rfl, hJ.grow 26 (by show 26 < 30; decide) _ (by kernel_rfl) (by kernel_rfl) (by intro t ht; rcases mc ht with rfl | ht; exact ⟨by show 27 ≠ 26; decide, fun h => absurd (show 8 = 9 from h) (by decide)⟩; rcases mc ht with rfl | ht; exact ⟨by show 28 ≠ 26; decide, fun _ => by cases hh : L 28 with | false => rfl | true => have := hcl 28 (by show 28 < 30; decide) hh 26 (by decide); rw [hL] at this; cases this⟩; cases ht) (by intro p hp; rcases mc hp with rfl | hp; exact ⟨⟨fun h => absurd (show 25 = 26 from h) (by decide), fun h => absurd (show 8 = 9 from h) (by decide)⟩, fun h => absurd (show 25 = 26 from h) (by decide)⟩; rcases mc hp with rfl | hp; exact ⟨⟨fun _ => rfl, fun _ => rfl⟩, fun _ q hq hne hLq => (by rcases mc hq with rfl | hq; (obtain ⟨g9, cs9, hx9, _, hr9, _⟩ := hJ.slot 25 (by show 25 < 30; decide) hLq; have hx9 : fx 8 = _ := hx9; show _ ≠ fx 8; rw [hx9]; intro e9; injection e9 with e9; injection e9 with e9; injection e9 with e9; exact absurd e9 (Nat.ne_of_gt hr9.lt)); rcases mc hq with rfl | hq; exact absurd rfl hne; cases hq)⟩; cases hp) ((Below.refl _ _).alloc (Nat.le_refl _) _) ⟨w'.heap.size, _, rfl, hJ.size, z00.new _ _ _, NoW.two _ _ _ _, rfl⟩ hg0⟩
   · intro L fx w' hJ hL hp hcl;have e25 := hJ.slot 25 (by show 25 < 30; decide) (hp 25 (by decide));have e22 := hJ.slot 22 (by show 22 < 30; decide) (hp 22 (by decide));have e22' := e22;obtain ⟨b7, o7, l7, k7, hv0⟩ := z05.parts e22;rw [hv0] at e22';rw [z07 (x := fx) (d := 42) (v := (.agg #[.bool b7, .slice o7 l7 k7])) hv0] at hJ ⊢;obtain ⟨g, cs, hx, hgB, hr0, hn0, hl0⟩ := e25;obtain ⟨z0, z1, rfl⟩ : ∃ z0 z1, cs = [z0, z1] := z6g hl0;have hf0 := z00.free hr0 0;have hc0 := z00.cell hr0 0;have hf1 := z00.free hr0 1;have hc1 := z00.cell hr0 1;try dsimp only at hf0 hc0 hf1 hc1
     have hx1 := hx;rw [z07 (x := (z0k fx 42 (.agg #[.bool b7, .slice o7 l7 k7]))) (d := 8) hx] at hJ ⊢;refine wps rfl fun K hK => ?_;go_simp;exact hK _ _ ⟨_, by kernel_rfl, hJ.z1N (us := [.bool b7, .slice o7 l7 k7]) 27 8 _ _ (by show 27 < 30; decide) rfl mm0 (by intro t ht h; rcases mc ht with rfl | ht; rfl; rcases mc ht with rfl | ht; exact absurd (show 28 = 27 from h) (by decide); cases ht) (by intro t ht hne hLt; rcases mc ht with rfl | ht; exact absurd rfl hne; rcases mc ht with rfl | ht; exact hJ.apart (26, 9) mm1 (25, 8) mm0 (by show 26 ≠ 25; decide) (hcl 28 (by show 28 < 30; decide) hLt 26 (by decide)) (hp 25 (by decide)); cases ht) (by kernel_rfl) (by kernel_rfl) (by decide) (by rfl) hgB hr0 hn0 rfl (NoW.two _ _ _ _) ⟨_, _, _, _, rfl, e22'⟩ (by omega)⟩
   · intro L fx w' hJ hL hp hcl;have e26 := hJ.slot 26 (by show 26 < 30; decide) (hp 26 (by decide));have e23 := hJ.slot 23 (by show 23 < 30; decide) (hp 23 (by decide));have e23' := e23;obtain ⟨b7, o7, l7, k7, hv0⟩ := z05.parts e23;rw [hv0] at e23';rw [z07 (x := fx) (d := 43) (v := (.agg #[.bool b7, .slice o7 l7 k7])) hv0] at hJ ⊢;obtain ⟨g, cs, hx, hgB, hr0, hn0, hl0⟩ := e26;obtain ⟨z0, z1, rfl⟩ : ∃ z0 z1, cs = [z0, z1] := z6g hl0;have hf0 := z00.free hr0 0;have hc0 := z00.cell hr0 0;have hf1 := z00.free hr0 1;have hc1 := z00.cell hr0 1;try dsimp only at hf0 hc0 hf1 hc1
     have hx1 := hx;rw [z07 (x := (z0k fx 43 (.agg #[.bool b7, .slice o7 l7 k7]))) (d := 9) hx] at hJ ⊢;refine wps rfl fun K hK => ?_;go_simp;exact hK _ _ ⟨_, by kernel_rfl, hJ.z1N (us := [.bool b7, .slice o7 l7 k7]) 28 9 _ _ (by show 28 < 30; decide) rfl mm1 (by intro t ht h; rcases mc ht with rfl | ht; exact absurd (show 27 = 28 from h) (by decide); rcases mc ht with rfl | ht; rfl; cases ht) (by intro t ht hne hLt; rcases mc ht with rfl | ht; exact hJ.apart (25, 8) mm0 (26, 9) mm1 (by show 25 ≠ 26; decide) (hcl 27 (by show 27 < 30; decide) hLt 25 (by decide)) (hp 26 (by decide)); rcases mc ht with rfl | ht; exact absurd rfl hne; cases ht) (by kernel_rfl) (by kernel_rfl) (by decide) (by rfl) hgB hr0 hn0 rfl (NoW.two _ _ _ _) ⟨_, _, _, _, rfl, e23'⟩ (by omega)⟩
   · intro L fx w' hJ hL hp hcl;have e24 := hJ.pt 24 44 (.int .i64 0) rfl rfl rfl (hp 24 (by decide));rw [e24] at hJ ⊢; clear e24;refine wps rfl fun K hK => ?_;go_simp;exact hJ.q hK (by kernel_rfl) rfl
 · intro L x' w3 hL hJ;have hfr : Below w.drew.heap.size w.drew w3 := hJ.fr;obtain ⟨g8, cs8, hx8, hg8, hr8, b8, o8, l8, k8, hcs8, hI8⟩ := hJ.new _ mm0 (hL 27 (by show 27 < 30; decide));obtain ⟨g9, cs9, hx9, hg9, hr9, b9, o9, l9, k9, hcs9, hI9⟩ := hJ.new _ mm1 (hL 28 (by show 28 < 30; decide));subst hcs8;subst hcs9;have hx8 : x' 8 = _ := hx8;have hx9 : x' 9 = _ := hx9;rw [z07 (x := x') (d := 8) hx8];rw [z07 (x := z0k x' 8 (.pointer (some ⟨g8, 0, none⟩))) (d := 9) (v := .pointer (some ⟨g9, 0, none⟩)) hx9];have hg8 : w.heap.size <= g8 := hg8;have hg9 : w.heap.size <= g9 := hg9;have G8 : Hid (z00 w3 g8 45 [.bool b8, .slice o8 l8 k8]) := Lib.hid hr8;have G9 : Hid (z00 w3 g9 45 [.bool b9, .slice o9 l9 k9]) := Lib.hid hr9;have I8 : Hid (z05 w3 0 (.agg #[.bool b8, .slice o8 l8 k8]) (xi.fdiv xk)) := Lib.hid hI8;have I9 : Hid (z05 w3 0 (.agg #[.bool b9, .slice o9 l9 k9]) (xi.fmod xk)) := Lib.hid hI9;clear hJ hL hx8 hx9 hr8 hr9 hI8 hI9 cb ci ck ci0 ci1 ck0 ck1;have L3 := Lib.hid (z0b.below (w := w.drew) HL.out.drew hfr);have C3 := Lib.hid ((Chg.refl S.own w).drew.below hfr);simp only [pN, Nat.reduceEqDiff, ↓reduceIte];have q0 : w3.cell? ⟨g8, 0, none⟩ = some (.bool b8) := G8.out.cell 0;have q1 : w3.cell? ⟨g8, 1, none⟩ = some (.slice o8 l8 k8) := G8.out.cell 1;go_wp2_with fail
   clear q0 q1;have hqw : z04 ((xi.fdiv xk)).natAbs <= B + 2 := z8r Hpz.out hwi;refine (z4r _ (xi.fdiv xk) _ (z05.int I8.out (by omega))).mono ?_;rintro e w4 ⟨⟨vn, rfl, hn4⟩, hb4⟩;have L4 := Lib.hid (L3.out.below hb4);have C4 := Lib.hid (C3.out.below hb4);have G4 := Lib.hid (G9.out.below hb4 G9.out.lt);have I4 := Lib.hid (I9.out.below hb4);have N4 := Lib.hid (z05.int (L := B + 2) hn4 (by rw [Int.natAbs_neg]; exact hqw));clear hb4 hn4 L3 C3 G9 I9 G8 I8;go_wp2_with fail
   have hlx : S.R[n].xs.length = S.R[k].xs.length := by rw [HF.out.len _ (List.getElem_mem hn), HF.out.len _ (List.getElem_mem hk)]
   have hlen2 : S.R[n].xs.length <= 4611686018427387903 := by rw [HF.out.len _ (List.getElem_mem hn)]; omega
   refine (zcz S n k vn (-(xi.fdiv xk)) (B + 2) B _ L4.out hn hk (fun e => hkn e.symm) N4.out hlx (fun x hx => by have := HF.out.fit _ (List.getElem_mem hn) x hx; omega) (fun y hy => HF.out.fit _ (List.getElem_mem hk) y hy) (by omega) hlen2 (HT.out.z4H S.R) (HT.out.okR HF.out) (by omega)).mono ?_;rintro e w5 ⟨rfl, hL5, hC5⟩;have hA : z1P S.R n k (-(xi.fdiv xk)) hn hk = z0A S.R k n j := by unfold z0A; rw [Hxi.out, Hxk.out, z3d hn hk]
   rw [hA] at hL5;have hns : ¬ S.own g9 := by
    intro e;have := HL.out.z6a _ e;omega
   have G5 := Lib.hid (hC5.row G4.out hns);have I5 := Lib.hid (hC5.ownI L4.out.zbH I4.out);have C5 := Lib.hid (C4.out.trans hC5);have L5 := Lib.hid hL5;clear hC5 hL5 L4 C4 G4 I4 N4 hlx hlen2 hA;have q0 : w5.cell? ⟨g9, 0, none⟩ = some (.bool b9) := G5.out.cell 0;have q1 : w5.cell? ⟨g9, 1, none⟩ = some (.slice o9 l9 k9) := G5.out.cell 1;go_wp2_with fail
   clear q0 q1;refine (z2H _ (xi.fmod xk) _ (z05.int I5.out (by have := zbw (x := xi) Hpz.out hwk; omega))).mono ?_;rintro e w6 ⟨rfl, hb6⟩;have L6 := Lib.hid (L5.out.below hb6);have C6 := Lib.hid (C5.out.below hb6);clear hb6 L5 C5 G5 I5;by_cases hr0 : xi.fmod xk = 0
   · have hz : z0o (xi.fmod xk) = 0 := z13.2 hr0;rw [hz];have HR0 := Lib.hid hr0;clear hz hr0;go_wp2;refine bodyPost_ret (results_none (by kernel_rfl) _ _ _) rfl ?_;have e : z1m S.R k n j = z0A S.R k n j := by unfold z1m; rw [Hxi.out, Hxk.out, if_pos HR0.out]
     rw [e];exact ⟨rfl, L6.out, C6.out⟩
   have hz0 : ¬ z0o (xi.fmod xk) = 0 := fun h => hr0 (z13.1 h);have HR0 := Lib.hid hr0;obtain ⟨sg, hsg⟩ : ∃ s, z0o (xi.fmod xk) = s := ⟨_, rfl⟩;rw [hsg] at hz0 ⊢;have hzb : (sg == 0) = false := by simpa using hz0
   clear hsg hr0;have hlenA : (z0A S.R k n j).length = S.R.length := z1n ..;have hmT : z1m S.R k n j = z4G (z0A S.R k n j) k n (z2t (ent (z0A S.R k n j) k j) (ent (z0A S.R k n j) n j)) (z4h (ent (z0A S.R k n j) k j) (ent (z0A S.R k n j) n j)) (-(ent (z0A S.R k n j) n j / z1j (ent (z0A S.R k n j) k j) (ent (z0A S.R k n j) n j))) (ent (z0A S.R k n j) k j / z1j (ent (z0A S.R k n j) k j) (ent (z0A S.R k n j) n j)) := by
    unfold z1m; rw [Hxi.out, Hxk.out, if_neg HR0.out]
   obtain ⟨R1, hR1⟩ : ∃ R1, z0A S.R k n j = R1 := ⟨_, rfl⟩;rw [hR1] at hmT hlenA L6 HF1 HP1;have hkA : k < R1.length := by omega
   have hnA : n < R1.length := by omega
   have HMT := Lib.hid hmT; clear hmT;have HLA := Lib.hid hlenA; clear hlenA;have HR1 := Lib.hid hR1; clear hR1;clear hjl hjk hjl1 hjk1 hi1 hk1 sb1 sb2 sb3 sb4;go_wp2_with fail
   clear hzb hz0;have cb : w6.cell? ⟨S.lb, 0, none⟩ = some (.slice (some ⟨S.o, 0, none⟩) R1.length S.cap) := L6.out.lad.cell 0;have ci : w6.cell? ⟨S.o, k, none⟩ = some (.slice (some ⟨R1[k].blk, 0, none⟩) R1[k].xs.length R1[k].cap) := L6.out.mat.hdr (i := k) hkA;have ck : w6.cell? ⟨S.o, n, none⟩ = some (.slice (some ⟨R1[n].blk, 0, none⟩) R1[n].xs.length R1[n].cap) := L6.out.mat.hdr (i := n) hnA;have hXi := L6.out.mat.row _ (List.getElem_mem (l := R1) hkA);have hXk := L6.out.mat.row _ (List.getElem_mem (l := R1) hnA);have hjl : j < R1[k].xs.length := by rw [HF1.out.len _ (List.getElem_mem hkA)]; exact hj
   have hjk : j < R1[n].xs.length := by rw [HF1.out.len _ (List.getElem_mem hnA)]; exact hj
   have hjl1 : (j : Int) < (R1[k].xs.length : Int) := by omega
   have hjk1 : (j : Int) < (R1[n].xs.length : Int) := by omega
   have hi1 : (k : Int) < (R1.length : Int) := by omega
   have hk1 : (n : Int) < (R1.length : Int) := by omega
   obtain ⟨pp, ci0, ci1, hni⟩ := hXi.get hjl;obtain ⟨pv, ck0, ck1, hnk⟩ := hXk.get hjk;have hwi : z04 (R1[k].xs[j]).natAbs <= B := HF1.out.fit _ (List.getElem_mem hkA) _ (List.getElem_mem hjl);have hwk : z04 (R1[n].xs[j]).natAbs <= B := HF1.out.fit _ (List.getElem_mem hnA) _ (List.getElem_mem hjk);obtain ⟨xp, hxi⟩ : ∃ xp, R1[k].xs[j] = xp := ⟨_, rfl⟩;obtain ⟨xv, hxk⟩ : ∃ xv, R1[n].xs[j] = xv := ⟨_, rfl⟩;rw [hxi] at hni hwi;rw [hxk] at hnk hwk;have Hxp := Lib.hid ((z2x hkA hjl).trans hxi); clear hxi;have Hxv := Lib.hid ((z2x hnA hjk).trans hxk); clear hxk;have sb1 := hXi.lt;have sb2 := hXk.lt;have sb3 : S.lb < w6.heap.size := L6.out.lad.lt;have sb4 : S.o < w6.heap.size := L6.out.mat.out.lt;clear hXi hXk;have Hnp := Lib.hid (hni.int (L := 4398046511103) (by omega));have Hnv := Lib.hid (hnk.int (L := 4398046511103) (by omega));clear hni hnk;have hxp0 : xp ≠ 0 := by have := HP1.out; rw [Hxp.out] at this; exact this
   have Hxp0 := Lib.hid hxp0; clear hxp0;refine z0S ⟨24, fun q_ => [54, 55, 56, 57, 58, 59, 60, 61, 62, 63, 64, 65, 66, 67, 68, 69, 70, 71, 72, 73, 11, 12, 1022, 1023].getD q_ 0,
    fun q_ => [.val (.pointer (some ⟨S.lb, 0, none⟩)), .val (.pointer (some ⟨S.lb, 0, none⟩)), .val (.pointer (some ⟨S.lb, 0, none⟩)), .val (.slice (some ⟨S.o, 0, none⟩) R1.length S.cap), .val (.int .i64 (k : Int)), .val (.pointer (some ⟨S.o, k, none⟩)), .val (.slice (some ⟨R1[k].blk, 0, none⟩) R1[k].xs.length R1[k].cap), .val (.int .i64 (j : Int)), .val (.pointer (some ⟨R1[k].blk, j * 2, none⟩)), .val (.agg #[.bool pp.1, .slice pp.2.1 pp.2.2.1 pp.2.2.2]), .val (.pointer (some ⟨S.lb, 0, none⟩)), .val (.pointer (some ⟨S.lb, 0, none⟩)), .val (.pointer (some ⟨S.lb, 0, none⟩)), .val (.slice (some ⟨S.o, 0, none⟩) R1.length S.cap), .val (.int .i64 (n : Int)), .val (.pointer (some ⟨S.o, n, none⟩)), .val (.slice (some ⟨R1[n].blk, 0, none⟩) R1[n].xs.length R1[n].cap), .val (.int .i64 (j : Int)), .val (.pointer (some ⟨R1[n].blk, j * 2, none⟩)), .val (.agg #[.bool pv.1, .slice pv.2.1 pv.2.2.1 pv.2.2.2]), .ptr w6.heap.size 45 2, .ptr w6.heap.size 45 2, .any, .any].getD q_ .any,
    [],
    [],
    [],
    [(22, 11, 45, .cells [.bool pp.1, .slice pp.2.1 pp.2.2.1 pp.2.2.2]), (23, 12, 45, .cells [.bool pv.1, .slice pv.2.1 pv.2.2.1 pv.2.2.2])], [(⟨S.lb, 0, none⟩, .slice (some ⟨S.o, 0, none⟩) R1.length S.cap), (⟨S.o, k, none⟩, .slice (some ⟨R1[k].blk, 0, none⟩) R1[k].xs.length R1[k].cap), (⟨S.o, n, none⟩, .slice (some ⟨R1[n].blk, 0, none⟩) R1[n].xs.length R1[n].cap), (⟨R1[k].blk, j * 2, none⟩, .bool pp.1), (⟨R1[k].blk, j * 2 + 1, none⟩, .slice pp.2.1 pp.2.2.1 pp.2.2.2), (⟨R1[n].blk, j * 2, none⟩, .bool pv.1), (⟨R1[n].blk, j * 2 + 1, none⟩, .slice pv.2.1 pv.2.2.1 pv.2.2.2)], [(20, 11), (21, 12)]⟩ [54, 55, 56, 57, 58, 59, 60, 61, 62, 63, 64, 65, 66, 67, 68, 69, 70, 71, 72, 73, 11, 12] (w6.heap.size) (by kernel_rfl) (by kernel_rfl) (by kernel_rfl) (by kernel_rfl) ?_ ?_ ?_ ?_ ?_ ?_
   · exact z0h
   · exact z0h
   · exact z0q (⟨cb, by dsimp only; omega, z0h⟩) (z0q (⟨ci, by dsimp only; omega, z0h⟩) (z0q (⟨ck, by dsimp only; omega, z0h⟩) (z0q (⟨ci0, by dsimp only; omega, z0h⟩) (z0q (⟨ci1, by dsimp only; omega, z0h⟩) (z0q (⟨ck0, by dsimp only; omega, z0h⟩) (z0q (⟨ck1, by dsimp only; omega, z0h⟩) z0h))))))
   · exact z0h
   · refine z02 ?_ (z02 ?_ (z02 ?_ (z02 ?_ (z02 ?_ (z02 ?_ (z02 ?_ (z02 ?_ (z02 ?_ (z02 ?_ (z02 ?_ (z02 ?_ (z02 ?_ (z02 ?_ (z02 ?_ (z02 ?_ (z02 ?_ (z02 ?_ (z02 ?_ (z02 ?_ (z02 ?_ (z02 ?_ (z02 ?_ (z02 ?_ z2v)))))))))))))))))))))));any_goals (first | (intro L fx w' hJ hL hp hcl; have _ := hp0 hp (by decide +kernel); refine wps rfl fun K hK => ?_; go_simp; exact hJ.q hK (by kernel_rfl) rfl) | fail)
     · intro L fx w' hJ hL hp hcl;have e0 := hJ.pt 0 54 (.pointer (some ⟨S.lb, 0, none⟩)) rfl rfl rfl (hp 0 (by decide));rw [e0] at hJ ⊢; clear e0;refine wps rfl fun K hK => ?_;go_simp;exact hJ.q hK (by kernel_rfl) rfl
     · intro L fx w' hJ hL hp hcl;have e1 := hJ.pt 1 55 (.pointer (some ⟨S.lb, 0, none⟩)) rfl rfl rfl (hp 1 (by decide));rw [e1] at hJ ⊢; clear e1;refine wps rfl fun K hK => ?_;go_simp;exact hJ.q hK (by kernel_rfl) rfl
     · intro L fx w' hJ hL hp hcl;have e2 := hJ.pt 2 56 (.pointer (some ⟨S.lb, 0, none⟩)) rfl rfl rfl (hp 2 (by decide));rw [e2] at hJ ⊢; clear e2;refine wps rfl fun K hK => ?_;have cl0 := (hJ.cells _ mm0).1;try dsimp only at cl0
       go_simp;exact hJ.q hK (by kernel_rfl) rfl
     · intro L fx w' hJ hL hp hcl;have e3 := hJ.pt 3 57 (.slice (some ⟨S.o, 0, none⟩) R1.length S.cap) rfl rfl rfl (hp 3 (by decide));rw [e3] at hJ ⊢; clear e3;have e4 := hJ.pt 4 58 (.int .i64 (k : Int)) rfl rfl rfl (hp 4 (by decide));rw [e4] at hJ ⊢; clear e4;refine wps rfl fun K hK => ?_;go_simp;exact hJ.q hK (by kernel_rfl) rfl
     · intro L fx w' hJ hL hp hcl;have e5 := hJ.pt 5 59 (.pointer (some ⟨S.o, k, none⟩)) rfl rfl rfl (hp 5 (by decide));rw [e5] at hJ ⊢; clear e5;refine wps rfl fun K hK => ?_;have cl0 := (hJ.cells _ mm1).1;try dsimp only at cl0
       go_simp;exact hJ.q hK (by kernel_rfl) rfl
     · intro L fx w' hJ hL hp hcl;have e6 := hJ.pt 6 60 (.slice (some ⟨R1[k].blk, 0, none⟩) R1[k].xs.length R1[k].cap) rfl rfl rfl (hp 6 (by decide));rw [e6] at hJ ⊢; clear e6;have e7 := hJ.pt 7 61 (.int .i64 (j : Int)) rfl rfl rfl (hp 7 (by decide));rw [e7] at hJ ⊢; clear e7;refine wps rfl fun K hK => ?_;go_simp;exact hJ.q hK (by kernel_rfl) rfl
     · intro L fx w' hJ hL hp hcl;have e8 := hJ.pt 8 62 (.pointer (some ⟨R1[k].blk, j * 2, none⟩)) rfl rfl rfl (hp 8 (by decide));rw [e8] at hJ ⊢; clear e8;refine wps rfl fun K hK => ?_;have cl0 := (hJ.cells _ mm3).1;have cl1 := (hJ.cells _ mm4).1;try dsimp only at cl0 cl1
       go_simp;exact hJ.q hK (by kernel_rfl) rfl
     · intro L fx w' hJ hL hp hcl;have e10 := hJ.pt 10 64 (.pointer (some ⟨S.lb, 0, none⟩)) rfl rfl rfl (hp 10 (by decide));rw [e10] at hJ ⊢; clear e10;refine wps rfl fun K hK => ?_;go_simp;exact hJ.q hK (by kernel_rfl) rfl
     · intro L fx w' hJ hL hp hcl;have e11 := hJ.pt 11 65 (.pointer (some ⟨S.lb, 0, none⟩)) rfl rfl rfl (hp 11 (by decide));rw [e11] at hJ ⊢; clear e11;refine wps rfl fun K hK => ?_;go_simp;exact hJ.q hK (by kernel_rfl) rfl
     · intro L fx w' hJ hL hp hcl;have e12 := hJ.pt 12 66 (.pointer (some ⟨S.lb, 0, none⟩)) rfl rfl rfl (hp 12 (by decide));rw [e12] at hJ ⊢; clear e12;refine wps rfl fun K hK => ?_;have cl0 := (hJ.cells _ mm0).1;try dsimp only at cl0
       go_simp;exact hJ.q hK (by kernel_rfl) rfl
     · intro L fx w' hJ hL hp hcl;have e13 := hJ.pt 13 67 (.slice (some ⟨S.o, 0, none⟩) R1.length S.cap) rfl rfl rfl (hp 13 (by decide));rw [e13] at hJ ⊢; clear e13;have e14 := hJ.pt 14 68 (.int .i64 (n : Int)) rfl rfl rfl (hp 14 (by decide));rw [e14] at hJ ⊢; clear e14;refine wps rfl fun K hK => ?_;go_simp;exact hJ.q hK (by kernel_rfl) rfl
     · intro L fx w' hJ hL hp hcl;have e15 := hJ.pt 15 69 (.pointer (some ⟨S.o, n, none⟩)) rfl rfl rfl (hp 15 (by decide));rw [e15] at hJ ⊢; clear e15;refine wps rfl fun K hK => ?_;have cl0 := (hJ.cells _ mm2).1;try dsimp only at cl0
       go_simp;exact hJ.q hK (by kernel_rfl) rfl
     · intro L fx w' hJ hL hp hcl;have e16 := hJ.pt 16 70 (.slice (some ⟨R1[n].blk, 0, none⟩) R1[n].xs.length R1[n].cap) rfl rfl rfl (hp 16 (by decide));rw [e16] at hJ ⊢; clear e16;have e17 := hJ.pt 17 71 (.int .i64 (j : Int)) rfl rfl rfl (hp 17 (by decide));rw [e17] at hJ ⊢; clear e17;refine wps rfl fun K hK => ?_;go_simp;exact hJ.q hK (by kernel_rfl) rfl
     · intro L fx w' hJ hL hp hcl;have e18 := hJ.pt 18 72 (.pointer (some ⟨R1[n].blk, j * 2, none⟩)) rfl rfl rfl (hp 18 (by decide));rw [e18] at hJ ⊢; clear e18;refine wps rfl fun K hK => ?_;have cl0 := (hJ.cells _ mm5).1;have cl1 := (hJ.cells _ mm6).1;try dsimp only at cl0 cl1
       go_simp;exact hJ.q hK (by kernel_rfl) rfl
     · intro L fx w' hJ hL hp hcl;have hg0 : w6.heap.size <= w'.heap.size := Nat.le_trans (by omega : w6.heap.size <= w6.heap.size) hJ.size;refine wps rfl fun K hK => ?_;go_simp;exact hK _ _ ⟨_, by kernel_rfl, hJ.grow 20 (by show 20 < 24; decide) _ (by kernel_rfl) (by kernel_rfl) (by intro t ht; rcases mc ht with rfl | ht; exact ⟨by show 22 ≠ 20; decide, fun _ => by cases hh : L 22 with | false => rfl | true => have := hcl 22 (by show 22 < 24; decide) hh 20 (by decide); rw [hL] at this; cases this⟩; rcases mc ht with rfl | ht; exact ⟨by show 23 ≠ 20; decide, fun h => absurd (show 12 = 11 from h) (by decide)⟩; cases ht) (by intro p hp; rcases mc hp with rfl | hp; exact ⟨⟨fun _ => rfl, fun _ => rfl⟩, fun _ q hq hne hLq => (by rcases mc hq with rfl | hq; exact absurd rfl hne; rcases mc hq with rfl | hq; (obtain ⟨g9, cs9, hx9, _, hr9, _⟩ := hJ.slot 21 (by show 21 < 24; decide) hLq; have hx9 : fx 12 = _ := hx9; show _ ≠ fx 12; rw [hx9]; intro e9; injection e9 with e9; injection e9 with e9; injection e9 with e9; exact absurd e9 (Nat.ne_of_gt hr9.lt)); cases hq)⟩; rcases mc hp with rfl | hp; exact ⟨⟨fun h => absurd (show 21 = 20 from h) (by decide), fun h => absurd (show 12 = 11 from h) (by decide)⟩, fun h => absurd (show 21 = 20 from h) (by decide)⟩; cases hp) ((Below.refl _ _).alloc (Nat.le_refl _) _) ⟨w'.heap.size, _, rfl, hJ.size, z00.new _ _ _, NoW.two _ _ _ _, rfl⟩ hg0⟩
     · intro L fx w' hJ hL hp hcl;have hg0 : w6.heap.size <= w'.heap.size := Nat.le_trans (by omega : w6.heap.size <= w6.heap.size) hJ.size;refine wps rfl fun K hK => ?_;go_simp;exact hK _ _ ⟨_, by kernel_rfl, hJ.grow 21 (by show 21 < 24; decide) _ (by kernel_rfl) (by kernel_rfl) (by intro t ht; rcases mc ht with rfl | ht; exact ⟨by show 22 ≠ 21; decide, fun h => absurd (show 11 = 12 from h) (by decide)⟩; rcases mc ht with rfl | ht; exact ⟨by show 23 ≠ 21; decide, fun _ => by cases hh : L 23 with | false => rfl | true => have := hcl 23 (by show 23 < 24; decide) hh 21 (by decide); rw [hL] at this; cases this⟩; cases ht) (by intro p hp; rcases mc hp with rfl | hp; exact ⟨⟨fun h => absurd (show 20 = 21 from h) (by decide), fun h => absurd (show 11 = 12 from h) (by decide)⟩, fun h => absurd (show 20 = 21 from h) (by decide)⟩; rcases mc hp with rfl | hp; exact ⟨⟨fun _ => rfl, fun _ => rfl⟩, fun _ q hq hne hLq => (by rcases mc hq with rfl | hq; (obtain ⟨g9, cs9, hx9, _, hr9, _⟩ := hJ.slot 20 (by show 20 < 24; decide) hLq; have hx9 : fx 11 = _ := hx9; show _ ≠ fx 11; rw [hx9]; intro e9; injection e9 with e9; injection e9 with e9; injection e9 with e9; exact absurd e9 (Nat.ne_of_gt hr9.lt)); rcases mc hq with rfl | hq; exact absurd rfl hne; cases hq)⟩; cases hp) ((Below.refl _ _).alloc (Nat.le_refl _) _) ⟨w'.heap.size, _, rfl, hJ.size, z00.new _ _ _, NoW.two _ _ _ _, rfl⟩ hg0⟩
     · intro L fx w' hJ hL hp hcl;have e20 := hJ.slot 20 (by show 20 < 24; decide) (hp 20 (by decide));have e9 := hJ.pt 9 63 (.agg #[.bool pp.1, .slice pp.2.1 pp.2.2.1 pp.2.2.2]) rfl rfl rfl (hp 9 (by decide));rw [e9] at hJ ⊢; clear e9;obtain ⟨g, cs, hx, hgB, hr0, hn0, hl0⟩ := e20;obtain ⟨z0, z1, rfl⟩ : ∃ z0 z1, cs = [z0, z1] := z6g hl0;have hf0 := z00.free hr0 0;have hc0 := z00.cell hr0 0;have hf1 := z00.free hr0 1;have hc1 := z00.cell hr0 1;try dsimp only at hf0 hc0 hf1 hc1
       have hx1 := hx;rw [z07 (x := (z0k fx 63 (.agg #[.bool pp.1, .slice pp.2.1 pp.2.2.1 pp.2.2.2]))) (d := 11) hx] at hJ ⊢;refine wps rfl fun K hK => ?_;go_simp;exact hK _ _ ⟨_, by kernel_rfl, hJ.z1N (us := [.bool pp.1, .slice pp.2.1 pp.2.2.1 pp.2.2.2]) 22 11 _ _ (by show 22 < 24; decide) rfl mm0 (by intro t ht h; rcases mc ht with rfl | ht; rfl; rcases mc ht with rfl | ht; exact absurd (show 23 = 22 from h) (by decide); cases ht) (by intro t ht hne hLt; rcases mc ht with rfl | ht; exact absurd rfl hne; rcases mc ht with rfl | ht; exact hJ.apart (21, 12) mm1 (20, 11) mm0 (by show 21 ≠ 20; decide) (hcl 23 (by show 23 < 24; decide) hLt 21 (by decide)) (hp 20 (by decide)); cases ht) (by kernel_rfl) (by kernel_rfl) (by decide) (by rfl) hgB hr0 hn0 rfl (NoW.two _ _ _ _) rfl (by omega)⟩
     · intro L fx w' hJ hL hp hcl;have e21 := hJ.slot 21 (by show 21 < 24; decide) (hp 21 (by decide));have e19 := hJ.pt 19 73 (.agg #[.bool pv.1, .slice pv.2.1 pv.2.2.1 pv.2.2.2]) rfl rfl rfl (hp 19 (by decide));rw [e19] at hJ ⊢; clear e19;obtain ⟨g, cs, hx, hgB, hr0, hn0, hl0⟩ := e21;obtain ⟨z0, z1, rfl⟩ : ∃ z0 z1, cs = [z0, z1] := z6g hl0;have hf0 := z00.free hr0 0;have hc0 := z00.cell hr0 0;have hf1 := z00.free hr0 1;have hc1 := z00.cell hr0 1;try dsimp only at hf0 hc0 hf1 hc1
       have hx1 := hx;rw [z07 (x := (z0k fx 73 (.agg #[.bool pv.1, .slice pv.2.1 pv.2.2.1 pv.2.2.2]))) (d := 12) hx] at hJ ⊢;refine wps rfl fun K hK => ?_;go_simp;exact hK _ _ ⟨_, by kernel_rfl, hJ.z1N (us := [.bool pv.1, .slice pv.2.1 pv.2.2.1 pv.2.2.2]) 23 12 _ _ (by show 23 < 24; decide) rfl mm1 (by intro t ht h; rcases mc ht with rfl | ht; exact absurd (show 22 = 23 from h) (by decide); rcases mc ht with rfl | ht; rfl; cases ht) (by intro t ht hne hLt; rcases mc ht with rfl | ht; exact hJ.apart (20, 11) mm0 (21, 12) mm1 (by show 20 ≠ 21; decide) (hcl 22 (by show 22 < 24; decide) hLt 20 (by decide)) (hp 21 (by decide)); rcases mc ht with rfl | ht; exact absurd rfl hne; cases ht) (by kernel_rfl) (by kernel_rfl) (by decide) (by rfl) hgB hr0 hn0 rfl (NoW.two _ _ _ _) rfl (by omega)⟩
   · intro L' x1 w7 hL hJ;have hfr : Below w6.drew.heap.size w6.drew w7 := hJ.fr;obtain ⟨g11, cs11, hx11, hg11, hr11, hcs11⟩ := hJ.new _ mm0 (hL 22 (by show 22 < 24; decide));obtain ⟨g12, cs12, hx12, hg12, hr12, hcs12⟩ := hJ.new _ mm1 (hL 23 (by show 23 < 24; decide));obtain rfl : cs11 = _ := hcs11;obtain rfl : cs12 = _ := hcs12;have hx11 : x1 11 = _ := hx11;have hx12 : x1 12 = _ := hx12;rw [z07 (x := x1) (d := 11) hx11];rw [z07 (x := z0k x1 11 (.pointer (some ⟨g11, 0, none⟩))) (d := 12) (v := .pointer (some ⟨g12, 0, none⟩)) hx12];have G11 : Hid (z00 w7 g11 45 [.bool pp.1, .slice pp.2.1 pp.2.2.1 pp.2.2.2]) := Lib.hid hr11;have G12 : Hid (z00 w7 g12 45 [.bool pv.1, .slice pv.2.1 pv.2.2.1 pv.2.2.2]) := Lib.hid hr12;clear hJ hL hx11 hx12 hr11 hr12 cb ci ck ci0 ci1 ck0 ck1;have L7 := Lib.hid (z0b.below (w := w6.drew) L6.out.drew hfr);have C7 := Lib.hid (C6.out.drew.below hfr);have P7 := Lib.hid (z03.below (w := w6.drew) Hnp.out hfr);have V7 := Lib.hid (z03.below (w := w6.drew) Hnv.out hfr);clear L6 C6 Hnp Hnv;simp only [pN, Nat.reduceEqDiff, ↓reduceIte];have q0 : w7.cell? ⟨g11, 0, none⟩ = some (.bool pp.1) := G11.out.cell 0;have q1 : w7.cell? ⟨g11, 1, none⟩ = some (.slice pp.2.1 pp.2.2.1 pp.2.2.2) := G11.out.cell 1;have q2 : w7.cell? ⟨g12, 0, none⟩ = some (.bool pv.1) := G12.out.cell 0;have q3 : w7.cell? ⟨g12, 1, none⟩ = some (.slice pv.2.1 pv.2.2.1 pv.2.2.2) := G12.out.cell 1;go_wp2_with fail
     clear q0 q1 q2 q3;refine (zdJ _ _ xp xv _ P7.out V7.out).mono ?_;rintro e w8 ⟨⟨vg, vx, vy, rfl, hge, hxe, hye⟩, hb8⟩;obtain ⟨zg, rfl⟩ := z0n.parts hge.num;obtain ⟨zx, rfl⟩ := z0n.parts hxe.num;obtain ⟨zy, rfl⟩ := z0n.parts hye.num;have hge := hge.mono (Nat.zero_le _);have hxe := hxe.mono (Nat.zero_le _);have hye := hye.mono (Nat.zero_le _);unfold av at *;obtain ⟨GG, hGG⟩ : ∃ GG, z1j xp xv = GG := ⟨_, rfl⟩;obtain ⟨XX, hXX⟩ : ∃ XX, z2t xp xv = XX := ⟨_, rfl⟩;obtain ⟨YY, hYY⟩ : ∃ YY, z4h xp xv = YY := ⟨_, rfl⟩;obtain ⟨hd1, hd2, hg0, hg1⟩ := z4q xp xv;have hxl := z8H xp xv;have hyl := zaQ xp xv;rw [hGG] at hge hd1 hd2 hg0;rw [hXX] at hxe hxl;rw [hYY] at hye hyl;have hgw : z04 GG.natAbs <= 4398046511103 := by
      refine Nat.le_trans (z0p (Nat.le_of_dvd ?_ (Int.natAbs_dvd_natAbs.2 hd1))) (by omega : z04 xp.natAbs <= _);have := Hxp0.out; omega
     have hxw : z04 XX.natAbs <= B + 2 := z7Y hxl hwk;have hyw : z04 YY.natAbs <= B + 2 := z7Y hyl hwi;have HG0 := Lib.hid (hg0 Hxp0.out);have HD1 := Lib.hid hd1;have HD2 := Lib.hid hd2;have HGG := Lib.hid hGG; clear hGG;have HXX := Lib.hid hXX; clear hXX;have HYY := Lib.hid hYY; clear hYY;clear hd1 hd2 hg0 hg1 hxl hyl;have GA_0 := Lib.hid (G11.out.below hb8 G11.out.lt);have GB_0 := Lib.hid (G12.out.below hb8 G12.out.lt);have GE_0 := Lib.hid hge;have XE_0 := Lib.hid hxe;have YE_0 := Lib.hid hye;have PA_0 := Lib.hid (P7.out.below hb8);have VA_0 := Lib.hid (V7.out.below hb8);have LL_0 := Lib.hid (L7.out.below hb8);have CC_0 := Lib.hid (C7.out.below hb8);clear G11 G12 P7 V7 L7 C7 hge hxe hye hb8;obtain ⟨n13, n14, n15, hb9⟩ := z1H w8 #[.bool zg.1, .slice zg.2.1 zg.2.2.1 zg.2.2.2] #[.bool zx.1, .slice zx.2.1 zx.2.2.1 zx.2.2.2] #[.bool zy.1, .slice zy.2.1 zy.2.2.1 zy.2.2.2] 45 45 45;have GA_1 := Lib.hid (z00.below (w := w8) GA_0.out hb9 GA_0.out.lt);have GB_1 := Lib.hid (z00.below (w := w8) GB_0.out hb9 GB_0.out.lt);have GE_1 := Lib.hid (z05.below (w := w8) GE_0.out hb9);have XE_1 := Lib.hid (z05.below (w := w8) XE_0.out hb9);have YE_1 := Lib.hid (z05.below (w := w8) YE_0.out hb9);have PA_1 := Lib.hid (z03.below (w := w8) PA_0.out hb9);have VA_1 := Lib.hid (z03.below (w := w8) VA_0.out hb9);have LL_1 := Lib.hid (z0b.below (w := w8) LL_0.out hb9);have CC_1 := Lib.hid (Chg.below CC_0.out hb9);clear GA_0 GB_0 GE_0 XE_0 YE_0 PA_0 VA_0 LL_0 CC_0;have N13_1 := Lib.hid n13;have N14_1 := Lib.hid n14;have N15_1 := Lib.hid n15;clear n13 n14 n15 hb9;have qa0 : (((w8.alloc (.cells #[.bool zg.1, .slice zg.2.1 zg.2.2.1 zg.2.2.2] 45)).alloc (.cells #[.bool zx.1, .slice zx.2.1 zx.2.2.1 zx.2.2.2] 45)).alloc (.cells #[.bool zy.1, .slice zy.2.1 zy.2.2.1 zy.2.2.2] 45)).cell? ⟨g11, 0, none⟩ = some (.bool pp.1) := GA_1.out.cell 0;have qa1 : (((w8.alloc (.cells #[.bool zg.1, .slice zg.2.1 zg.2.2.1 zg.2.2.2] 45)).alloc (.cells #[.bool zx.1, .slice zx.2.1 zx.2.2.1 zx.2.2.2] 45)).alloc (.cells #[.bool zy.1, .slice zy.2.1 zy.2.2.1 zy.2.2.2] 45)).cell? ⟨g11, 1, none⟩ = some (.slice pp.2.1 pp.2.2.1 pp.2.2.2) := GA_1.out.cell 1;have qb0 : (((w8.alloc (.cells #[.bool zg.1, .slice zg.2.1 zg.2.2.1 zg.2.2.2] 45)).alloc (.cells #[.bool zx.1, .slice zx.2.1 zx.2.2.1 zx.2.2.2] 45)).alloc (.cells #[.bool zy.1, .slice zy.2.1 zy.2.2.1 zy.2.2.2] 45)).cell? ⟨w8.heap.size, 0, none⟩ = some (.bool zg.1) := N13_1.out.cell 0;have qb1 : (((w8.alloc (.cells #[.bool zg.1, .slice zg.2.1 zg.2.2.1 zg.2.2.2] 45)).alloc (.cells #[.bool zx.1, .slice zx.2.1 zx.2.2.1 zx.2.2.2] 45)).alloc (.cells #[.bool zy.1, .slice zy.2.1 zy.2.2.1 zy.2.2.2] 45)).cell? ⟨w8.heap.size, 1, none⟩ = some (.slice zg.2.1 zg.2.2.1 zg.2.2.2) := N13_1.out.cell 1;go_wp2_with fail
     clear qa0 qa1 qb0 qb1;generalize (((w8.alloc (.cells #[.bool zg.1, .slice zg.2.1 zg.2.2.1 zg.2.2.2] 45)).alloc (.cells #[.bool zx.1, .slice zx.2.1 zx.2.2.1 zx.2.2.2] 45)).alloc (.cells #[.bool zy.1, .slice zy.2.1 zy.2.2.1 zy.2.2.2] 45)) = w9 at *;refine (z5C _ _ xp GG _ (PA_1.out.mono (by omega)) (z05.int GE_1.out (by omega)) HG0.out HD1.out).mono ?_;rintro e w10 ⟨⟨va, rfl, hva⟩, hb10⟩;obtain ⟨za, rfl⟩ := z0n.parts hva.num;have hva := hva.mono (Nat.zero_le _);unfold av at *;have GA_2 := Lib.hid (z00.below (w := w9) GA_1.out hb10 GA_1.out.lt);have GB_2 := Lib.hid (z00.below (w := w9) GB_1.out hb10 GB_1.out.lt);have N13_2 := Lib.hid (z00.below (w := w9) N13_1.out hb10 N13_1.out.lt);have N14_2 := Lib.hid (z00.below (w := w9) N14_1.out hb10 N14_1.out.lt);have N15_2 := Lib.hid (z00.below (w := w9) N15_1.out hb10 N15_1.out.lt);have GE_2 := Lib.hid (z05.below (w := w9) GE_1.out hb10);have XE_2 := Lib.hid (z05.below (w := w9) XE_1.out hb10);have YE_2 := Lib.hid (z05.below (w := w9) YE_1.out hb10);have PA_2 := Lib.hid (z03.below (w := w9) PA_1.out hb10);have VA_2 := Lib.hid (z03.below (w := w9) VA_1.out hb10);have LL_2 := Lib.hid (z0b.below (w := w9) LL_1.out hb10);have CC_2 := Lib.hid (Chg.below CC_1.out hb10);clear GA_1 GB_1 N13_1 N14_1 N15_1 GE_1 XE_1 YE_1 PA_1 VA_1 LL_1 CC_1;have AE_2 := Lib.hid hva;clear hva hb10;have hb11 : Below w10.heap.size w10 (w10.alloc (.cells #[.bool za.1, .slice za.2.1 za.2.2.1 za.2.2.2] 45)) := (Below.refl _ _).alloc (Nat.le_refl _) _;have n16 := z00.new w10 #[.bool za.1, .slice za.2.1 za.2.2.1 za.2.2.2] 45;have GA_3 := Lib.hid (z00.below (w := w10) GA_2.out hb11 GA_2.out.lt);have GB_3 := Lib.hid (z00.below (w := w10) GB_2.out hb11 GB_2.out.lt);have N13_3 := Lib.hid (z00.below (w := w10) N13_2.out hb11 N13_2.out.lt);have N14_3 := Lib.hid (z00.below (w := w10) N14_2.out hb11 N14_2.out.lt);have N15_3 := Lib.hid (z00.below (w := w10) N15_2.out hb11 N15_2.out.lt);have GE_3 := Lib.hid (z05.below (w := w10) GE_2.out hb11);have XE_3 := Lib.hid (z05.below (w := w10) XE_2.out hb11);have YE_3 := Lib.hid (z05.below (w := w10) YE_2.out hb11);have AE_3 := Lib.hid (z05.below (w := w10) AE_2.out hb11);have PA_3 := Lib.hid (z03.below (w := w10) PA_2.out hb11);have VA_3 := Lib.hid (z03.below (w := w10) VA_2.out hb11);have LL_3 := Lib.hid (z0b.below (w := w10) LL_2.out hb11);have CC_3 := Lib.hid (Chg.below CC_2.out hb11);clear GA_2 GB_2 N13_2 N14_2 N15_2 GE_2 XE_2 YE_2 AE_2 PA_2 VA_2 LL_2 CC_2;have N16_3 := Lib.hid n16;clear n16 hb11;have qa0 : (w10.alloc (.cells #[.bool za.1, .slice za.2.1 za.2.2.1 za.2.2.2] 45)).cell? ⟨g12, 0, none⟩ = some (.bool pv.1) := GB_3.out.cell 0;have qa1 : (w10.alloc (.cells #[.bool za.1, .slice za.2.1 za.2.2.1 za.2.2.2] 45)).cell? ⟨g12, 1, none⟩ = some (.slice pv.2.1 pv.2.2.1 pv.2.2.2) := GB_3.out.cell 1;have qb0 : (w10.alloc (.cells #[.bool za.1, .slice za.2.1 za.2.2.1 za.2.2.2] 45)).cell? ⟨w8.heap.size, 0, none⟩ = some (.bool zg.1) := N13_3.out.cell 0;have qb1 : (w10.alloc (.cells #[.bool za.1, .slice za.2.1 za.2.2.1 za.2.2.2] 45)).cell? ⟨w8.heap.size, 1, none⟩ = some (.slice zg.2.1 zg.2.2.1 zg.2.2.2) := N13_3.out.cell 1;go_wp2_with fail
     clear qa0 qa1 qb0 qb1;generalize (w10.alloc (.cells #[.bool za.1, .slice za.2.1 za.2.2.1 za.2.2.2] 45)) = w11 at *;refine (z5C _ _ xv GG _ (VA_3.out.mono (by omega)) (z05.int GE_3.out (by omega)) HG0.out HD2.out).mono ?_;rintro e w12 ⟨⟨vb, rfl, hvb⟩, hb12⟩;obtain ⟨zb, rfl⟩ := z0n.parts hvb.num;have hvb := hvb.mono (Nat.zero_le _);unfold av at *;have N14_4 := Lib.hid (z00.below (w := w11) N14_3.out hb12 N14_3.out.lt);have N15_4 := Lib.hid (z00.below (w := w11) N15_3.out hb12 N15_3.out.lt);have N16_4 := Lib.hid (z00.below (w := w11) N16_3.out hb12 N16_3.out.lt);have XE_4 := Lib.hid (z05.below (w := w11) XE_3.out hb12);have YE_4 := Lib.hid (z05.below (w := w11) YE_3.out hb12);have AE_4 := Lib.hid (z05.below (w := w11) AE_3.out hb12);have LL_4 := Lib.hid (z0b.below (w := w11) LL_3.out hb12);have CC_4 := Lib.hid (Chg.below CC_3.out hb12);clear N14_3 N15_3 N16_3 XE_3 YE_3 AE_3 LL_3 CC_3;clear GA_3 GB_3 N13_3 GE_3 PA_3 VA_3;have BE_4 := Lib.hid hvb;clear hvb hb12;have hb13 : Below w12.heap.size w12 (w12.alloc (.cells #[.bool zb.1, .slice zb.2.1 zb.2.2.1 zb.2.2.2] 45)) := (Below.refl _ _).alloc (Nat.le_refl _) _;have n18 := z00.new w12 #[.bool zb.1, .slice zb.2.1 zb.2.2.1 zb.2.2.2] 45;have N14_5 := Lib.hid (z00.below (w := w12) N14_4.out hb13 N14_4.out.lt);have N15_5 := Lib.hid (z00.below (w := w12) N15_4.out hb13 N15_4.out.lt);have N16_5 := Lib.hid (z00.below (w := w12) N16_4.out hb13 N16_4.out.lt);have XE_5 := Lib.hid (z05.below (w := w12) XE_4.out hb13);have YE_5 := Lib.hid (z05.below (w := w12) YE_4.out hb13);have AE_5 := Lib.hid (z05.below (w := w12) AE_4.out hb13);have BE_5 := Lib.hid (z05.below (w := w12) BE_4.out hb13);have LL_5 := Lib.hid (z0b.below (w := w12) LL_4.out hb13);have CC_5 := Lib.hid (Chg.below CC_4.out hb13);clear N14_4 N15_4 N16_4 XE_4 YE_4 AE_4 BE_4 LL_4 CC_4;have N18_5 := Lib.hid n18;clear n18 hb13;go_wp2;generalize (w12.alloc (.cells #[.bool zb.1, .slice zb.2.1 zb.2.2.1 zb.2.2.2] 45)) = w13 at *;have hs18 := N18_5.out.lt;have hs16 := N16_5.out.lt;have hs15 := N15_5.out.lt;have hs14 := N14_5.out.lt;obtain ⟨aq, haq⟩ : ∃ aq, xp / GG = aq := ⟨_, rfl⟩;obtain ⟨bq, hbq⟩ : ∃ bq, xv / GG = bq := ⟨_, rfl⟩;have haw : z04 aq.natAbs <= B := by rw [<- haq]; exact Nat.le_trans (z0p (Int.natAbs_ediv_le_natAbs ..)) hwi
     have hbqw : z04 bq.natAbs <= B := by rw [<- hbq]; exact Nat.le_trans (z0p (Int.natAbs_ediv_le_natAbs ..)) hwk
     have AE := AE_5.out;rw [haq] at AE;have AE := Lib.hid AE;have BE := BE_5.out;rw [hbq] at BE;have BE := Lib.hid BE;have HAQ := Lib.hid haq; clear haq;have HBQ := Lib.hid hbq; clear hbq;clear AE_5 BE_5;refine z0M ⟨11, fun q_ => [93, 94, 95, 96, 97, 98, 99, 100, 101, 102, 103].getD q_ 0,
      fun q_ => [.val (.pointer (some ⟨S.lb, 0, none⟩)), .val (.int .i64 (k : Int)), .val (.int .i64 (n : Int)), .val (.agg #[.bool zx.1, .slice zx.2.1 zx.2.2.1 zx.2.2.2]), .val (.agg #[.bool zy.1, .slice zy.2.1 zy.2.2.1 zy.2.2.2]), .val (.agg #[.bool zx.1, .slice zx.2.1 zx.2.2.1 zx.2.2.2, .bool zy.1, .slice zy.2.1 zy.2.2.1 zy.2.2.2]), .val (.agg #[.bool zb.1, .slice zb.2.1 zb.2.2.1 zb.2.2.2]), .int 0 (-bq), .val (.agg #[.bool za.1, .slice za.2.1 za.2.2.1 za.2.2.2]), .int2 0 (-bq) aq, .int4 0 XX YY (-bq) aq].getD q_ .any,
      [],
      [(.agg #[.bool zx.1, .slice zx.2.1 zx.2.2.1 zx.2.2.2], .int 0 XX), (.agg #[.bool zy.1, .slice zy.2.1 zy.2.2.1 zy.2.2.2], .int 0 YY), (.agg #[.bool za.1, .slice za.2.1 za.2.2.1 za.2.2.2], .int 0 aq), (.agg #[.bool zb.1, .slice zb.2.1 zb.2.2.1 zb.2.2.2], .int 0 bq)],
      [(w8.heap.size + 1, 45, [.bool zx.1, .slice zx.2.1 zx.2.2.1 zx.2.2.2]), (w8.heap.size + 2, 45, [.bool zy.1, .slice zy.2.1 zy.2.2.1 zy.2.2.2]), (w10.heap.size, 45, [.bool za.1, .slice za.2.1 za.2.2.1 za.2.2.2]), (w12.heap.size, 45, [.bool zb.1, .slice zb.2.1 zb.2.2.1 zb.2.2.2])],
      [], [], []⟩ [93, 94, 95, 96, 97, 98, 99, 100, 101, 102, 103, 104] (w13.heap.size) (by kernel_rfl) (by kernel_rfl) (by kernel_rfl) (by kernel_rfl) (by kernel_rfl) ?_ ?_ ?_ ?_ ?_ ?_
     · exact z0q (XE_5.out) (z0q (YE_5.out) (z0q (AE.out) (z0q (BE.out) z0h)))
     · exact z0q (⟨N14_5.out, (N14_5.out).lt, z0h⟩) (z0q (⟨N15_5.out, (N15_5.out).lt, z0h⟩) (z0q (⟨N16_5.out, (N16_5.out).lt, z0h⟩) (z0q (⟨N18_5.out, (N18_5.out).lt, z0h⟩) z0h)))
     · exact z0h
     · exact z0h
     · refine z02 ?_ (z02 ?_ (z02 ?_ (z02 ?_ (z02 ?_ (z02 ?_ (z02 ?_ (z02 ?_ (z02 ?_ (z02 ?_ (z02 ?_ z2v))))))))));any_goals (first | (intro L fx w' hJ hL hp hcl; have _ := hp0 hp (by decide +kernel); refine wps rfl fun K hK => ?_; go_simp; exact hJ.q hK (by kernel_rfl) rfl) | fail)
       · intro L fx w' hJ hL hp hcl;refine wps rfl fun K hK => ?_;have rw0 := (hJ.rows _ mm0).1;have cl0 : w'.cell? ⟨w8.heap.size + 1, 0, none⟩ = some (.bool zx.1) := rw0.cell 0;have cl1 : w'.cell? ⟨w8.heap.size + 1, 1, none⟩ = some (.slice zx.2.1 zx.2.2.1 zx.2.2.2) := rw0.cell 1;go_simp;exact hJ.q hK (by kernel_rfl) rfl
       · intro L fx w' hJ hL hp hcl;refine wps rfl fun K hK => ?_;have rw0 := (hJ.rows _ mm1).1;have cl0 : w'.cell? ⟨w8.heap.size + 2, 0, none⟩ = some (.bool zy.1) := rw0.cell 0;have cl1 : w'.cell? ⟨w8.heap.size + 2, 1, none⟩ = some (.slice zy.2.1 zy.2.2.1 zy.2.2.2) := rw0.cell 1;go_simp;exact hJ.q hK (by kernel_rfl) rfl
       · intro L fx w' hJ hL hp hcl;have e3 := hJ.pt 3 96 (.agg #[.bool zx.1, .slice zx.2.1 zx.2.2.1 zx.2.2.2]) rfl rfl rfl (hp 3 (by decide));rw [e3] at hJ ⊢; clear e3;have e4 := hJ.pt 4 97 (.agg #[.bool zy.1, .slice zy.2.1 zy.2.2.1 zy.2.2.2]) rfl rfl rfl (hp 4 (by decide));rw [e4] at hJ ⊢; clear e4;refine wps rfl fun K hK => ?_;go_simp;exact hJ.q hK (by kernel_rfl) rfl
       · intro L fx w' hJ hL hp hcl;refine wps rfl fun K hK => ?_;have rw0 := (hJ.rows _ mm3).1;have cl0 : w'.cell? ⟨w12.heap.size, 0, none⟩ = some (.bool zb.1) := rw0.cell 0;have cl1 : w'.cell? ⟨w12.heap.size, 1, none⟩ = some (.slice zb.2.1 zb.2.2.1 zb.2.2.2) := rw0.cell 1;go_simp;exact hJ.q hK (by kernel_rfl) rfl
       · intro L fx w' hJ hL hp hcl;have e6 := hJ.pt 6 99 (.agg #[.bool zb.1, .slice zb.2.1 zb.2.2.1 zb.2.2.2]) rfl rfl rfl (hp 6 (by decide));rw [e6] at hJ ⊢; clear e6;refine wps rfl fun K hK => ?_;go_simp;go_at_call 109;refine (z4r _ bq _ (z05.int (show z05 w' _ _ _ from hJ.base _ mm3) (by omega))).mono ?_;rintro e w4 ⟨⟨v5, rfl, h5⟩, hb4⟩;try dsimp only
         exact hK _ _ ⟨_, by kernel_rfl, hJ.gC 7 rfl (by kernel_rfl) hb4 (z05.mono h5 (Nat.zero_le _)) (by omega)⟩
       · intro L fx w' hJ hL hp hcl;refine wps rfl fun K hK => ?_;have rw0 := (hJ.rows _ mm2).1;have cl0 : w'.cell? ⟨w10.heap.size, 0, none⟩ = some (.bool za.1) := rw0.cell 0;have cl1 : w'.cell? ⟨w10.heap.size, 1, none⟩ = some (.slice za.2.1 za.2.2.1 za.2.2.2) := rw0.cell 1;go_simp;exact hJ.q hK (by kernel_rfl) rfl
       · intro L fx w' hJ hL hp hcl;have e7 := hJ.slot 7 (by show 7 < 11; decide) (hp 7 (by decide));have e8 := hJ.pt 8 101 (.agg #[.bool za.1, .slice za.2.1 za.2.2.1 za.2.2.2]) rfl rfl rfl (hp 8 (by decide));rw [e8] at hJ ⊢; clear e8;have e7' := e7;obtain ⟨b7, o7, l7, k7, hv0⟩ := z05.parts e7;rw [hv0] at e7';rw [z07 (x := (z0k fx 101 (.agg #[.bool za.1, .slice za.2.1 za.2.2.1 za.2.2.2]))) (d := 100) (v := (.agg #[.bool b7, .slice o7 l7 k7])) hv0] at hJ ⊢;refine wps rfl fun K hK => ?_;go_simp;exact hK _ _ ⟨_, by kernel_rfl, hJ.pC 9 rfl (by kernel_rfl) ⟨_, _, _, _, _, _, _, _, rfl, e7', (show z05 w' _ _ _ from hJ.base _ mm2)⟩ (by omega)⟩
       · intro L fx w' hJ hL hp hcl;have e9 := hJ.slot 9 (by show 9 < 11; decide) (hp 9 (by decide));have e5 := hJ.pt 5 98 (.agg #[.bool zx.1, .slice zx.2.1 zx.2.2.1 zx.2.2.2, .bool zy.1, .slice zy.2.1 zy.2.2.1 zy.2.2.2]) rfl rfl rfl (hp 5 (by decide));rw [e5] at hJ ⊢; clear e5;obtain ⟨b1, o1, l1, k1, b2, o2, l2, k2, hv0, hO1, hO2⟩ := e9;rw [z07 (x := (z0k fx 98 (.agg #[.bool zx.1, .slice zx.2.1 zx.2.2.1 zx.2.2.2, .bool zy.1, .slice zy.2.1 zy.2.2.1 zy.2.2.2]))) (d := 102) (v := (.agg #[.bool b1, .slice o1 l1 k1, .bool b2, .slice o2 l2 k2])) hv0] at hJ ⊢;refine wps rfl fun K hK => ?_;go_simp;exact hK _ _ ⟨_, by kernel_rfl, hJ.pC 10 rfl (by kernel_rfl) ⟨zx, zy, (b1, o1, l1, k1), (b2, o2, l2, k2), rfl, (show z05 w' _ _ _ from hJ.base _ mm0), (show z05 w' _ _ _ from hJ.base _ mm1), hO1, hO2⟩ (by omega)⟩
     · intro L2 x2 w14 hL hJ;have hfr : Below w13.drew.heap.size w13.drew w14 := hJ.fr;have e0 : x2 93 = .pointer (some ⟨S.lb, 0, none⟩) := hJ.slot 0 (by show 0 < 11; decide) (hL 0 (by show 0 < 11; decide));have e1 : x2 94 = .int .i64 (k : Int) := hJ.slot 1 (by show 1 < 11; decide) (hL 1 (by show 1 < 11; decide));have e2 : x2 95 = .int .i64 (n : Int) := hJ.slot 2 (by show 2 < 11; decide) (hL 2 (by show 2 < 11; decide));obtain ⟨mp, mq, mr, ms, e10, hm1, hm2, hm3, hm4⟩ := hJ.slot 10 (by show 10 < 11; decide) (hL 10 (by show 10 < 11; decide));have e10 : x2 103 = .agg #[.bool mp.1, .slice mp.2.1 mp.2.2.1 mp.2.2.2, .bool mq.1, .slice mq.2.1 mq.2.2.1 mq.2.2.2, .bool mr.1, .slice mr.2.1 mr.2.2.1 mr.2.2.2, .bool ms.1, .slice ms.2.1 ms.2.2.1 ms.2.2.2] := e10;rw [z07 (x := x2) (d := 93) (v := .pointer (some ⟨S.lb, 0, none⟩)) e0];rw [z07 (x := (z0k x2 93 (.pointer (some ⟨S.lb, 0, none⟩)))) (d := 94) (v := .int .i64 (k : Int)) e1];rw [z07 (x := (z0k (z0k x2 93 (.pointer (some ⟨S.lb, 0, none⟩))) 94 (.int .i64 (k : Int)))) (d := 95) (v := .int .i64 (n : Int)) e2];rw [z07 (x := (z0k (z0k (z0k x2 93 (.pointer (some ⟨S.lb, 0, none⟩))) 94 (.int .i64 (k : Int))) 95 (.int .i64 (n : Int)))) (d := 103) (v := .agg #[.bool mp.1, .slice mp.2.1 mp.2.2.1 mp.2.2.2, .bool mq.1, .slice mq.2.1 mq.2.2.1 mq.2.2.2, .bool mr.1, .slice mr.2.1 mr.2.2.1 mr.2.2.2, .bool ms.1, .slice ms.2.1 ms.2.2.1 ms.2.2.2]) e10];have LF := Lib.hid (z0b.below (w := w13.drew) LL_5.out.drew hfr);have CF := Lib.hid (CC_5.out.drew.below hfr);have M1 := Lib.hid (z05.int (L := B + 2) hm1 hxw);have M2 := Lib.hid (z05.int (L := B + 2) hm2 hyw);have M3 := Lib.hid (z05.int (L := B + 2) hm3 (by rw [Int.natAbs_neg]; omega));have M4 := Lib.hid (z05.int (L := B + 2) hm4 (by omega));clear hJ hL e0 e1 e2 e10 hm1 hm2 hm3 hm4 LL_5 CC_5;refine wps rfl fun K hK => ?_;go_simp;go_at_call 174;have hlx : R1[k].xs.length = R1[n].xs.length := by rw [HF1.out.len _ (List.getElem_mem hkA), HF1.out.len _ (List.getElem_mem hnA)]
       have hlen2 : R1[k].xs.length <= 4611686018427387903 := by rw [HF1.out.len _ (List.getElem_mem hkA)]; omega
       have hdet : XX * aq - YY * (-bq) = 1 := by
        have := zd9 xp xv (by rw [HGG.out]; exact HG0.out);rw [HGG.out, HXX.out, HYY.out, HAQ.out, HBQ.out] at this;rw [Int.mul_neg];omega
       refine (MMix_c (S.z09 R1) k n mp mq mr ms XX YY (-bq) aq (B + 2) B _ LF.out hkA hnA hkn M1.out M2.out M3.out M4.out hlx (fun x hx => HF1.out.fit _ (List.getElem_mem hkA) x hx) (fun y hy => HF1.out.fit _ (List.getElem_mem hnA) y hy) (by omega) hlen2 (HT.out.z4H R1) (HT.out.okR HF1.out) (by omega) hdet).mono ?_;rintro e w15 ⟨rfl, hL15, hC15⟩;try dsimp only
       refine hK _ _ ⟨⟨z0k (z0k (z0k (z0k (z0k x2 93 (.pointer (some ⟨S.lb, 0, none⟩))) 94 (.int .i64 (k : Int))) 95 (.int .i64 (n : Int))) 103 (.agg #[.bool mp.1, .slice mp.2.1 mp.2.2.1 mp.2.2.2, .bool mq.1, .slice mq.2.1 mq.2.2.1 mq.2.2.2, .bool mr.1, .slice mr.2.1 mr.2.2.1 mr.2.2.2, .bool ms.1, .slice ms.2.1 ms.2.2.1 ms.2.2.2])) 104 (.tuple #[]), by kernel_rfl⟩, ?_⟩;clear hK;have hE : z1m S.R k n j = z2i R1 k n XX YY (-bq) aq hkA hnA := by
        rw [HMT.out, Hxp.out, Hxv.out, HGG.out, HXX.out, HYY.out, HAQ.out, HBQ.out, z4u hkA hnA]
       have hown : ∀ q, (S.z09 R1).own q ↔ S.own q := by
        intro q;rw [<- HR1.out];unfold z0A;rw [z3d hn hk];exact z2K S n _ q
       have HE := Lib.hid hE; clear hE;have HO := Lib.hid hown; clear hown;have LG := Lib.hid hL15; clear hL15;have CG := Lib.hid (CF.out.trans (hC15.mono (fun q _ e => (HO.out q).1 e))); clear hC15;go_wp2;refine bodyPost_end (results_none (by kernel_rfl) _ _ _) rfl ?_;rw [HE.out];exact ⟨rfl, LG.out, CG.out⟩
def z0X (n : Int) : Bool := decide (0 <= n) && decide (n <= 64)
set_option maxHeartbeats 1000000 in
theorem zak (n : Int) (w : World) :
 Calls Tryz.prog 88 #[.int .i64 n] w fun e w' => e = .returned (.bool (z0X n)) /\ w' = w := by
 go_enter Tryz.func88, Tryz.ntmps88;by_cases h0 : 0 <= n
 · by_cases h1 : n <= 64
   · go_wp2;go_ret;refine ⟨?_, rfl⟩;simp [z0X, h0, h1]
   · go_wp2;go_ret;refine ⟨?_, rfl⟩;simp [z0X, h0, h1]
 · go_wp2;go_ret;refine ⟨?_, rfl⟩;have h9 : decide (0 <= n) = false := by simp; omega
   simp [z0X, h9]
def z0v (r c : Int) (len : Nat) : Bool := z0X r && z0X c && ((len : Int) == r * c)
def chkM (r c : Int) (len : Nat) : Int := if z0v r c len then 0 else 1
theorem z5A {r c : Int} {len : Nat} (h : z0v r c len = false) : chkM r c len = 1 := by unfold chkM; rw [h]; rfl
theorem z4E {r c : Int} {len : Nat} (h : z0v r c len = true) : chkM r c len = 0 := by unfold chkM; rw [h]; rfl
set_option maxRecDepth 100000 in
set_option maxHeartbeats 1000000 in
theorem z4v (r c : Int) (ao : Option Addr) (len cap : Nat) (w : World) (hr : -9223372036854775808 <= r /\ r <= 9223372036854775807) (hc : -9223372036854775808 <= c /\ c <= 9223372036854775807) :
 Calls Tryz.prog 41 #[.agg #[.int .i64 r, .int .i64 c, .slice ao len cap]] w fun e w' => e = .returned (.int .i64 (chkM r c len)) /\ Below w.heap.size w w' := by
 have hb : Below w.heap.size w (w.alloc (.cells #[.int .i64 r, .int .i64 c, .slice ao len cap] 24)) := (Below.refl _ _).alloc (Nat.le_refl _) _;have HB := Lib.hid hb; clear hb;go_enter Tryz.func41, Tryz.ntmps41;go_wp2_with fail
 refine (zak _ _).mono ?_;rintro e w' ⟨rfl, rfl⟩;cases h1 : z0X r
 · go_wp2;go_ret;rw [z5A (by simp [z0v, h1])];exact ⟨rfl, HB.out⟩
 · have hr2 : 0 <= r /\ r <= 64 := by simpa [z0X] using h1
   have H1 := Lib.hid h1; clear h1;go_wp2_with fail
   refine (zak _ _).mono ?_;rintro e w' ⟨rfl, rfl⟩;cases h2 : z0X c
   · go_wp2;go_ret;rw [z5A (by simp [z0v, h2])];exact ⟨rfl, HB.out⟩
   · have hc2 : 0 <= c /\ c <= 64 := by simpa [z0X] using h2
     have H2 := Lib.hid h2; clear h2;have hm : 0 <= r * c /\ r * c <= 4096 := by
      refine ⟨Int.mul_nonneg hr2.1 hc2.1, ?_⟩;have h3 := Int.mul_le_mul_of_nonneg_right hr2.2 hc2.1;omega
     obtain ⟨rc, hrc⟩ : ∃ rc, r * c = rc := ⟨_, rfl⟩;rw [hrc] at hm;have hw : IntKind.i64.wrap (r * c) = rc := by rw [hrc]; exact wrap_small (by omega) (by omega)
     have HRC := Lib.hid hrc; clear hrc;by_cases h3 : (len : Int) = rc
     · have h3' : ((len : Int) != rc) = false := by simpa using h3
       have H3 := Lib.hid h3; clear h3;go_wp2;go_ret;rw [z4E (by simp [z0v, H1.out, H2.out, HRC.out, H3.out])];exact ⟨rfl, HB.out⟩
     · have h3' : ((len : Int) != rc) = true := by simpa using h3
       have H3 := Lib.hid h3; clear h3;go_wp2;go_ret;rw [z5A (by simp [z0v, H1.out, H2.out, HRC.out, H3.out])];exact ⟨rfl, HB.out⟩
def z0F (w : World) (L : Nat) (ao : Option Addr) (xs : List Int) : Prop :=
 0 < xs.length -> ∃ b o, ao = some ⟨b, o, none⟩ /\ b < w.heap.size /\ ∀ i (h : i < xs.length), ∃ p : P4, w.cell? ⟨b, o + i * 2, none⟩ = some (.bool p.1) /\ w.cell? ⟨b, o + i * 2 + 1, none⟩ = some (.slice p.2.1 p.2.2.1 p.2.2.2) /\ z03 w L (av p) xs[i]
theorem z0F.below {w w' : World} {L : Nat} {ao : Option Addr} {xs : List Int} (h : z0F w L ao xs) (hb : Below w.heap.size w w') : z0F w' L ao xs := by
 intro hl;obtain ⟨b, o, e, hlt, hc⟩ := h hl;refine ⟨b, o, e, Nat.lt_of_lt_of_le hlt hb.size, fun i hi => ?_⟩;obtain ⟨p, h0, h1, hn⟩ := hc i hi;exact ⟨p, (hb.cell (p := ⟨b, o + i * 2, none⟩) hlt).trans h0, (hb.cell (p := ⟨b, o + i * 2 + 1, none⟩) hlt).trans h1, hn.below hb⟩
theorem z4k : (Tryz.prog.info? 45).map (fun i => (i.zero, i.size, i.bytes)) = some (some (.agg #[.bool false, .slice none 0 0]), 2, 32) := by kernel_rfl
theorem z0n.zero (w : World) : z0n w (av p0) 0 := (z05.zero w 0).num
theorem z0c.z7u {w : World} {b n : Nat} (h : z00 w b 45 (flat (List.replicate n p0))) : z0c w b (List.replicate n 0) :=
 z0c.of h (by simp) (fun i h1 h2 => by simp; exact z0n.zero w)
theorem zb8 (n : Nat) : (madeCells (Value.agg #[.bool false, .slice none 0 0]).cells (n * 2)).toList = flat (List.replicate n p0) := by
 have hz : (Value.agg #[.bool false, .slice none 0 0]).cells = #[.bool false, .slice none 0 0] := rfl;rw [hz];apply List.ext_getElem?;intro j;by_cases hj : j < n * 2
 · rcases Nat.mod_two_eq_zero_or_one j with h | h
   · obtain ⟨i, rfl⟩ : ∃ i, j = i * 2 := ⟨j / 2, by omega⟩;rw [z60 _ i (by simp; omega)];simp [madeCells, hj, p0]
   · obtain ⟨i, rfl⟩ : ∃ i, j = i * 2 + 1 := ⟨j / 2, by omega⟩;rw [z61 _ i (by simp; omega)];have e : (i * 2 + 1) % 2 = 1 := h;simp [madeCells, hj, p0, e]
 · rw [List.getElem?_eq_none (by simp [madeCells]; omega), List.getElem?_eq_none (by rw [z1E]; simp; omega)]
theorem z5s {w : World} {ops : Array Oper} {rest : List Oper} {o : Oper} {a : Act} {Q : Exit -> Act -> World -> Prop}
 (hg : o.guard = none) (l c : Operand) (hop : o.op = Op.makeSlice 22 l c)
 {kl kc : IntKind} {L C : Int} (n m : Nat) (hl : a.eval l = .int kl L) (hc : a.eval c = .int kc C) (hL : L = (n : Int)) (hC : C = (m : Int)) (hnm : n <= m) (b2 : m <= 8796093022208)
 (hK : ∀ b w', Made w w' b 45 (flat (List.replicate m p0)) -> wpList Tryz.prog ops Q rest (a.put o.dst (.slice (some ⟨b, 0, none⟩) n m)) w') :
 wpList Tryz.prog ops Q (o :: rest) a w :=
 z1T hg l c 22 hop 45 (.agg #[.bool false, .slice none 0 0]) 2 32 Tryz.underlying22 z4k n m hl hc hL hC hnm (by omega) (by unfold maxLen; omega)
  (fun b w' h => hK b w' (by rw [zb8] at h; exact h))
set_option maxRecDepth 100000 in
set_option maxHeartbeats 4000000 in
theorem z4a (ao : Option Addr) (cap : Nat) (xs : List Int) (w : World) (h : z0F w 17592186044415 ao xs) (hlen : xs.length <= 8796093022208) :
 Calls Tryz.prog 139 #[.slice ao xs.length cap, .func (.func 69) #[] #[]] w fun e w' => (∃ b, e = .returned (.slice (some ⟨b, 0, none⟩) xs.length xs.length) /\ w.heap.size <= b /\ z0c w' b xs) /\ Below w.heap.size w w' := by
 have HL := Lib.hid h; clear h;go_enter Tryz.func139, Tryz.ntmps139;go_wp2_with (at_make; refine z5s rfl _ _ rfl xs.length xs.length rfl rfl (by omega) (by omega) (Nat.le_refl _) (by omega) ?_; intro bo w1 hm1)
 have hbo : w.heap.size <= bo := by have := hm1.at_; omega
 have R1 := Lib.hid (z0c.z7u hm1.row);have L1 := Lib.hid (HL.out.below hm1.below);have B1 := Lib.hid hm1.below;clear hm1;go_wp2;go_loopw [13] (fun i wr => ∃ (m : Nat) (cu : List Int), m <= xs.length /\ i = .int .i64 (m : Int) /\ Hid (cu.length = xs.length /\ ∀ j (h : j < cu.length) (h1 : j < xs.length), j < m -> cu[j] = xs[j]) /\ Hid (z0c wr bo cu) /\ Hid (z0F wr 17592186044415 ao xs) /\ Hid (Below w.heap.size w wr)) (fun i _ => xs.length - (intOf i).toNat)
 case atStart => exact ⟨0, _, Nat.zero_le _, rfl, Lib.hid ⟨by simp, fun j _ _ h => by omega⟩, R1, L1, B1⟩
 case round =>
  obtain ⟨m, cu, hm, rfl, HA, hX, hL, hB⟩ := hrel;by_cases hml : m < xs.length
  · have hmx : m < cu.length := by rw [HA.out.1]; exact hml
    have hm2 : (m : Int) < (xs.length : Int) := by omega
    obtain ⟨ab, aoff, rfl, hab, hcells⟩ := hL.out (by omega);obtain ⟨px, cx0, cx1, hnx⟩ := hcells m hml;have Hnx := Lib.hid hnx; clear hnx hcells;have hb1 : Below wr.heap.size wr (wr.alloc (.cells #[.bool px.1, .slice px.2.1 px.2.2.1 px.2.2.2] 45)) := (Below.refl _ _).alloc (Nat.le_refl _) _;have X1 := Lib.hid (hX.out.below hb1);have L2 := Lib.hid (hL.out.below hb1);have B2 := Lib.hid (hB.out.trans (hb1.mono hB.out.size));have N2 := Lib.hid (Hnx.out.below hb1);clear hb1 hX hL hB Hnx;go_wp2_with fail
    generalize wr.alloc (.cells #[.bool px.1, .slice px.2.1 px.2.2.1 px.2.2.2] 45) = w2 at *;clear cx0 cx1;refine (z7g _ xs[m] _ N2.out).mono ?_;rintro e w3 ⟨⟨vz, rfl, hvz⟩, hb3⟩;obtain ⟨pz, rfl⟩ := z0n.parts hvz.num;have X3 := Lib.hid (X1.out.below hb3);have B3 := Lib.hid (B2.out.trans (hb3.mono B2.out.size));have Z3 := Lib.hid hvz.num;clear hvz hb3 X1 L2 B2 N2;unfold av at *;obtain ⟨pq, q0, q1, _⟩ := X3.out.get hmx;have q2 := X3.out.free (m * 2);have q3 := X3.out.free (m * 2 + 1);have hmc : (m : Int) < (xs.length : Int) := hm2;go_wp2;clear q0 q1 q2 q3;go_roundw
    case rel =>
     have hBf := (B3.out.setCell (p := ⟨bo, m * 2, none⟩) hbo (.bool pz.1)).setCell (p := ⟨bo, m * 2 + 1, none⟩) hbo (.slice pz.2.1 pz.2.2.1 pz.2.2.2);refine ⟨m + 1, cu.set m xs[m], by omega, by go_num, Lib.hid ⟨by simpa using HA.out.1, fun j hj hj1 hjm => ?_⟩, Lib.hid (X3.out.set m (p := pz) Z3.out), Lib.hid (HL.out.below hBf), Lib.hid hBf⟩;rw [List.getElem_set];split
     · rename_i e; subst e; rfl
     · exact HA.out.2 j (by simpa using hj) hj1 (by omega)
    case measure => simp [intOf]; omega
  · obtain rfl : m = xs.length := by omega
    have he : cu = xs := List.ext_getElem HA.out.1 fun j h1 h2 => HA.out.2 j h1 h2 h2;have HE := Lib.hid he;clear he;go_wp2;go_ret;refine ⟨⟨bo, rfl, hbo, ?_⟩, hB.out⟩;have := hX.out;rw [HE.out] at this;exact this
end Go.Proofs.YtknkkceioockjaaGreat
namespace Go.Proofs.YtknkkceioockjaaGreat
open Go.ChangeShapes Go.WideShapes Go.ChangeAt Go.RowKit Go.Deep
section
variable {H : Type} {enc : TypeId × Value -> H} {w : World} {base : Nat} {sp : Nat -> Bool} {held : Bool}
theorem z9a (d : DataW H) : 1 <= Rows.uptoBulk d := by
 cases d with
 | lit l => cases l <;> simp [Rows.uptoBulk]
 | nil => simp [Rows.uptoBulk]
 | ptr d => simp [Rows.uptoBulk]
 | slice elems spare => simp [Rows.uptoBulk]
 | agg parts => simp [Rows.uptoBulk]
 | iface t d => simp [Rows.uptoBulk]
 | map entries => simp [Rows.uptoBulk]
 | held h => simp [Rows.uptoBulk]
theorem zci {d : DataW H} {l : List (DataW H)} (h : d ∈ l) : Rows.uptoBulk d <= Rows.uptoBulkAll l := by
 induction l with
 | nil => cases h
 | cons x r ih =>
  simp only [Rows.uptoBulkAll];rcases List.mem_cons.1 h with rfl | h
  · omega
  · have := ih h; omega
theorem z6l (l : List (DataW H)) : l.length <= Rows.uptoBulkAll l := by
 induction l with
 | nil => simp [Rows.uptoBulkAll]
 | cons x r ih => have := z9a x; simp only [Rows.uptoBulkAll, List.length_cons]; omega
theorem z57 (l r : List (DataW H)) : Rows.uptoBulk (.slice l r) = Rows.uptoBulkAll l + Rows.uptoBulkAll r + 1 := by simp [Rows.uptoBulk]
theorem z96 (l : List (DataW H)) : Rows.uptoBulk (.agg l) = Rows.uptoBulkAll l + 1 := by simp [Rows.uptoBulk]
theorem zdS {α : Type} {n : Nat} {p : Nat -> α -> Prop} (h : ∀ i, i < n -> ∃ x, p i x) : ∃ l : List α, l.length = n /\ ∀ i (hi : i < l.length), p i l[i] := by
 induction n with
 | zero => exact ⟨[], rfl, fun i hi => by simp at hi⟩
 | succ n ih =>
  obtain ⟨l, hl, hp⟩ := ih (fun i hi => h i (by omega));obtain ⟨x, hx⟩ := h n (by omega);refine ⟨l ++ [x], by simp [hl], fun i hi => ?_⟩;by_cases hin : i < l.length
  · rw [List.getElem_append_left hin]; exact hp i hin
  · have : i = n := by simp at hi; omega
    subst this;rw [List.getElem_append_right (by omega)];simp [hl]; exact hx
theorem z7Q {w : World} {a : Addr} {v : Value} (h : w.cell? a = some v) : ∃ b o, a = ⟨b, o, none⟩ /\ b < w.heap.size := by
 have h1 := World.cell?_spot h;obtain ⟨b, o, s⟩ := a;exact ⟨b, o, by simpa using h1, z8J h⟩
set_option maxRecDepth 100000 in
theorem zaq {fuel : Nat} {cs : List Value} {x : DataW H × List MemPlace} (h : DataW.trod enc Tryz.prog w base sp held fuel 43 cs = some x) :
 ∃ ao len cap ws, cs = [.slice ao len cap] /\ len = ws.length /\ len <= cap /\ WAt w ao ws /\ ws.length + 1 <= Rows.uptoBulk x.1 := by
 rcases open_ints Tryz.underlying43 Tryz.underlying49 (by kernel_rfl) h with ⟨rfl, rfl⟩ | ⟨a, len, cap, zs, rfl, hb, hl, hm, hz, rfl, hcell, hwf⟩
 · exact ⟨none, 0, 0, [], rfl, rfl, Nat.le_refl _, ⟨fun x h => (by cases h), fun h => absurd h (by simp)⟩, by simp [Rows.uptoBulk]⟩
 · have hlz : len <= zs.length := by rw [hz]; split <;> omega
   have hrng : ∀ z ∈ zs, 0 <= z /\ z < 18446744073709551616 := fun z hzm => by
    have h1 : 0 <= z /\ z <= 18446744073709551615 := by simpa [Lit.wf, IntKind.min, IntKind.max, IntKind.signed, IntKind.bits] using hwf z hzm
    omega
   have hll : ((zs.take len).map Int.toNat).length = len := by simp; omega
   refine ⟨some a, len, cap, (zs.take len).map Int.toNat, rfl, hll.symm, hl, ⟨fun x hx => ?_, fun hp => ?_⟩, ?_⟩
   · obtain ⟨z, hz1, rfl⟩ := List.mem_map.1 hx;have := hrng z (List.mem_of_mem_take hz1);unfold W; omega
   · rw [hll] at hp;have h0 := hcell 0 (by omega);obtain ⟨b, o, rfl, hblt⟩ := z7Q (a := a) (w := w) (by simpa [Addr.add] using h0);refine ⟨b, o, rfl, hblt, fun i hi => ?_⟩;rw [hll] at hi;have h1 := hcell i (by omega);rw [add_plain] at h1;rw [h1];have h2 := hrng (zs[i]'(by omega)) (List.getElem_mem (by omega));have e1 : zs.getD i 0 = zs[i]'(by omega) := by rw [List.getD_eq_getElem?_getD, List.getElem?_eq_getElem (by omega)]; rfl
     have e2 : gw ((zs.take len).map Int.toNat) i = (zs[i]'(by omega)).toNat := by
      unfold gw;rw [List.getD_eq_getElem?_getD, List.getElem?_eq_getElem (by rw [hll]; exact hi)];simp
     rw [e1, e2];congr 2;omega
   · rw [z57, hll];have := z6l (lits (H := H) .u64 (zs.take len));have e : (lits (H := H) .u64 (zs.take len)).length = len := by simp [lits]; omega
     omega
set_option maxRecDepth 100000 in
theorem zcW {fuel : Nat} {cs : List Value} {x : DataW H × List MemPlace} (h : DataW.trod enc Tryz.prog w base sp held fuel 45 cs = some x) :
 ∃ (p : P4) (L : Nat) (z : Int), cs = [.bool p.1, .slice p.2.1 p.2.2.1 p.2.2.2] /\ z03 w L (av p) z /\ L + 3 <= Rows.uptoBulk x.1 := by
 obtain ⟨y0, y1, n, rfl, hl, h0, h1⟩ := trod_struct2 Tryz.underlying45 h;obtain ⟨c0, c1, rfl⟩ : ∃ c0 c1, cs = [c0, c1] := by
  have e : cs.length = 2 := hl.trans (by kernel_rfl);match cs, e with
  | [a, b], _ => exact ⟨a, b, rfl⟩
 rw [show Tryz.prog.cellsOf 4 = 1 by kernel_rfl] at h0;rw [show Tryz.prog.cellsOf 43 = 1 by kernel_rfl] at h1;obtain ⟨b, hb, hy0⟩ := DataW.trod_bool Tryz.underlying4 h0;obtain ⟨ao, len, cap, ws, hc, hlen, hcap, hW, hbk⟩ := zaq h1;simp at hb hc;subst hb hc;refine ⟨(b, ao, len, cap), len, zi b (z01 ws), rfl, ⟨b, ao, len, cap, ws, rfl, hW, hlen, Nat.le_refl _, hcap, rfl⟩, ?_⟩;rw [z96];simp only [Rows.uptoBulkAll];have := z9a y0.1;omega
set_option maxRecDepth 100000 in
theorem zb9 {fuel : Nat} {cs : List Value} {x : DataW H × List MemPlace} (h : DataW.trod enc Tryz.prog w base sp held fuel 22 cs = some x) :
 ∃ ao len cap xs, cs = [.slice ao len cap] /\ len = xs.length /\ len <= cap /\ z0F w (Rows.uptoBulk x.1) ao xs /\ xs.length + 1 <= Rows.uptoBulk x.1 := by
 rcases open_slice Tryz.underlying22 h with ⟨rfl, rfl⟩ | ⟨a, len, cap, m, n, D, Pl, rfl, hb, hl, hm, hmm, rfl, hi⟩
 · exact ⟨none, 0, 0, [], rfl, rfl, Nat.le_refl _, fun h => absurd h (by simp), by simp [Rows.uptoBulk]⟩
 · have hlm : len <= m := by rw [hmm]; split <;> omega
   have hD : ∀ i, i < len -> Rows.uptoBulk (D i) <= Rows.uptoBulkAll ((List.range len).map D) := fun i hi => zci (List.mem_map.2 ⟨i, List.mem_range.2 hi, rfl⟩);obtain ⟨l, hll, hp⟩ := zdS (n := len) (p := fun i (q : P4 × Int) => (w.cell? (a.add (i * 2)) = some (.bool q.1.1) /\ w.cell? (a.add (i * 2 + 1)) = some (.slice q.1.2.1 q.1.2.2.1 q.1.2.2.2)) /\ z03 w (Rows.uptoBulkAll ((List.range len).map D)) (av q.1) q.2) (fun i hil => by
    obtain ⟨cs', hc, ht⟩ := hi i (by omega);rw [show Tryz.prog.cellsOf 45 = 2 by kernel_rfl] at hc;obtain ⟨p, L, z, rfl, hI, hbk⟩ := zcW ht;obtain ⟨_, _, hcell⟩ := World.cells?_some hc;have c0 := hcell 0 (by omega);have c1 := hcell 1 (by omega);rw [add_add] at c0 c1;exact ⟨(p, z), ⟨by simpa using c0, by simpa using c1⟩, hI.mono (by have := hD i hil; have : Rows.uptoBulk (D i, Pl i).1 = Rows.uptoBulk (D i) := rfl; omega)⟩)
   have hbl : len <= Rows.uptoBulkAll ((List.range len).map D) := by have := z6l ((List.range len).map D); simpa using this
   refine ⟨some a, len, cap, l.map (·.2), rfl, by simp [hll], hl, fun hpos => ?_, ?_⟩
   · have hpos' : 0 < len := by simpa [hll] using hpos
     have h0 := (hp 0 (by omega)).1.1;obtain ⟨b, o, rfl, hblt⟩ := z7Q (a := a) (w := w) (by simpa [Addr.add] using h0);refine ⟨b, o, rfl, hblt, fun i hi' => ?_⟩;have hil : i < l.length := by simpa using hi'
     obtain ⟨⟨c0, c1⟩, hI⟩ := hp i hil;rw [add_plain] at c0 c1;refine ⟨l[i].1, c0, by rw [<- Nat.add_assoc] at c1; exact c1, ?_⟩;have e : (l.map (·.2))[i]'hi' = l[i].2 := by simp
     rw [e, z57];exact hI.mono (by omega)
   · rw [z57]; simp [hll]; omega
set_option maxRecDepth 100000 in
theorem zbO {r : Reach} {b0 : Nat} {v : Value} {d : DataW H} {p : List MemPlace} (hv : Value.okWide Tryz.prog w r b0 24 v) (h : DataW.Trod enc Tryz.prog w base sp held 24 v d p) :
 ∃ (m n : Int) (ao : Option Addr) (len cap : Nat) (xs : List Int), v = .agg #[.int .i64 m, .int .i64 n, .slice ao len cap] /\ len = xs.length /\ len <= cap /\ z0F w (Rows.uptoBulk d) ao xs /\ xs.length + 1 <= Rows.uptoBulk d := by
 obtain ⟨v0, v1, v2, y0, y1, y2, n, rfl, rfl, rfl, h0, h1, h2⟩ := Joins.open_agg3 Tryz.underlying24 (by kernel_rfl) (by kernel_rfl) hv h;obtain ⟨m, e0, -, -⟩ := DataW.trod_int Tryz.underlying3 h0;obtain ⟨k, e1, -, -⟩ := DataW.trod_int Tryz.underlying3 h1;obtain ⟨ao, len, cap, xs, e2, hlen, hcap, hL, hbk⟩ := zb9 h2;simp at e0 e1 e2;subst e0 e1 e2;have hle : Rows.uptoBulk y2.1 <= Rows.uptoBulk (.agg [y0.1, y1.1, y2.1]) := by rw [z96]; simp only [Rows.uptoBulkAll]; omega
 refine ⟨m, k, ao, len, cap, xs, rfl, hlen, hcap, fun hp => ?_, by omega⟩;obtain ⟨b, o, e, hlt, hc⟩ := hL hp;exact ⟨b, o, e, hlt, fun i hi => by obtain ⟨q, q0, q1, hq⟩ := hc i hi; exact ⟨q, q0, q1, hq.mono hle⟩⟩
theorem zaC {r c : Int} {len : Nat} (h : z0v r c len = true) : ∃ m n : Nat, r = (m : Int) /\ c = (n : Int) /\ m <= 64 /\ n <= 64 /\ len = m * n := by
 unfold z0v z0X at h;simp only [Bool.and_eq_true, decide_eq_true_eq, beq_iff_eq] at h;obtain ⟨⟨⟨h1, h2⟩, h3, h4⟩, h5⟩ := h;obtain ⟨m, rfl⟩ := Int.eq_ofNat_of_zero_le h1;obtain ⟨n, rfl⟩ := Int.eq_ofNat_of_zero_le h3;refine ⟨m, n, rfl, rfl, by omega, by omega, ?_⟩;rw [<- Int.natCast_mul] at h5;exact Int.ofNat.inj h5
set_option maxRecDepth 100000 in
theorem z7K {P : Program} (hl : laidOutB P = true) {W W' : World} {spf : Nat -> Bool} : ∀ {ts : List TypeId} {vs : List Value} {ds : List (DataW H)} {ps : List MemPlace}, (ts.all fun t => P.readableRec t && decide (t < P.types.size)) = true ->
 DataW.TrodAll enc P W 0 (fun _ => true) true ts vs ds ps -> (∀ x ∈ ps, W.sameAt W' x) -> (∀ x ∈ ps, spf x.block = true) -> DataW.TrodAll enc P W' 0 spf true ts vs ds ps := by
 intro ts;induction ts with
 | nil =>
  intro vs ds ps _ h _ _;cases vs <;> cases ds <;> exact h
 | cons t ts ih =>
  intro vs ds ps ha h hs hp;cases vs with
  | nil => exact h.elim
  | cons v vs =>
   cases ds with
   | nil => exact h.elim
   | cons d ds =>
    obtain ⟨p, q, h1, h2, rfl⟩ := h;simp only [List.all_cons, Bool.and_eq_true, decide_eq_true_eq] at ha;exact ⟨p, q, WideElems.Trod_stays hl ha.1.1 ha.1.2 h1 (fun x hx => hs x (List.mem_append_left _ hx)) (fun x hx => hp x (List.mem_append_left _ hx)),
     ih ha.2 h2 (fun x hx => hs x (List.mem_append_right _ hx)) (fun x hx => hp x (List.mem_append_right _ hx)), rfl⟩
theorem zcr : laidOutB Tryz.prog = true := by kernel_rfl
set_option maxRecDepth 100000 in
theorem law_post {f : Func} {s : ChangeSpec} {W W' : World} {args : Array Value} {ds gs : List (DataW H)} {before : List MemPlace} (ha : (f.params.toList.all fun t => Tryz.prog.readableRec t && decide (t < Tryz.prog.types.size)) = true) (hv : s.vars = []) (hr : f.resultTypes = #[4])
 (hW : DataW.Whole enc Tryz.prog f.params.toList s.vars false W args.toList ds gs before) (h1 : (s.fn H (ds ++ gs)).results = [.lit (.bool true)]) (h2 : (s.fn H (ds ++ gs)).args = ds) (h3 : (s.fn H (ds ++ gs)).vars = []) (hb : Below W.heap.size W W') :
 s.post enc Tryz.prog f false true false false W args (.bool true) W' := by
 have hlt : ∀ p ∈ before, p.block < W.heap.size := fun p hp => hW.lt p hp;have hold : ∀ p ∈ before, (fun b => decide (b < W.heap.size)) p.block = true := fun p hp => by simpa using hlt p hp
 have hW' := hW;obtain ⟨p, q, hA, hV, rfl, hz, hn⟩ := hW;rw [hv] at hV;obtain ⟨rfl, rfl⟩ := trodVars_none hV;have hsame : ∀ x ∈ p, W.sameAt W' x := fun x hx => hb.same (hlt x (List.mem_append_left _ hx));have hargs : ∀ spf : Nat -> Bool, (∀ x ∈ p ++ [], spf x.block = true) -> DataW.TrodAll enc Tryz.prog W' 0 spf true f.params.toList args.toList (s.fn H (ds ++ [])).args p := fun spf hs => by
  rw [h2]; exact z7K zcr ha hA hsame (fun x hx => hs x (List.mem_append_left _ hx))
 have hres : ∀ (b : Nat) (spf : Nat -> Bool) (hd : Bool), DataW.TrodAll enc Tryz.prog W' b spf hd f.resultTypes.toList ((Value.bool true).resultList f.resultTypes.size) (s.fn H (ds ++ [])).results [] := fun b spf hd => by
  rw [hr, h1]; exact trodAll_cons_mk (shut_bool Tryz.underlying4 _) trodAll_mk0
 have hvars : ∀ spf : Nat -> Bool, DataW.TrodVars enc Tryz.prog W' spf s.vars (s.fn H (ds ++ [])).vars [] := fun spf => by rw [hv, h3]; rfl
 refine ⟨ds, [], p ++ [], [], p, [], hW', hres _ _ _, hargs _ hold, hvars _, World.keptBut_mono (fun x hx => ⟨hx, Or.inr (by simpa using hx)⟩) (hb.frame (· ∈ p ++ [])), fun _ => ?_⟩;have hb1 : Value.okWide Tryz.prog W' .any 0 4 (.bool true) := okWide_bool_mk Tryz.underlying4 true;refine ⟨ok_one hr rfl hb1, _, _, ([] ++ p) ++ [], ⟨[] ++ p, [], trodAll_append (hargs _ (fun _ _ => rfl)) (hres _ _ _), hvars _, rfl, ?_, ?_⟩, ?_⟩
 · intro b off hp;have hin : MemPlace.cell b off ∈ p ++ [] := by simpa using hp
   rw [hb.frozen (hlt _ hin)];exact hz b off hin
 · intro h; cases h
 · intro x hx _;simpa using hx
end
set_option maxRecDepth 100000 in
theorem zat {H : Type} {l : List (DataW H)} (hk : Rows.uptoSmall H l = true) : Rows.uptoBulkAll l <= 1048576 := of_decide_eq_true hk
end Go.Proofs.YtknkkceioockjaaGreat
namespace Go.Proofs.YtknkkceioockjaaGreat
open Go.RowKit
theorem z0W {fn : Func} {p q : Tmp} (h : fn.results = #[.cell p 24, .tmp q]) (tmps : Array Value) (w : World) (g : Nat) (a b c : Value) (hp : tmps.getD p undef = .pointer (some ⟨g, 0, none⟩)) (hr : z00 w g 24 [a, b, c]) :
 (results fn tmps).run Tryz.prog w = .ok (.tuple #[.agg #[a, b, c], tmps.getD q undef]) w := by
 have hp' : tmps[p]?.getD undef = .pointer (some ⟨g, 0, none⟩) := by simpa using hp
 simp [results, h, hp', asAddr, run_loadVar_row w g 24 24 #[a, b, c] (0, 0) _ hr Tryz.underlying24 rfl (by kernel_rfl)]
theorem z00.z4W {w : World} {b : Nat} {t : TypeId} {x y z : Value} (h : z00 w b t [x, y, z]) (u v s : Value) : z00 (((w.setCell ⟨b, 0, none⟩ u).setCell ⟨b, 1, none⟩ v).setCell ⟨b, 2, none⟩ s) b t [u, v, s] := by
 have := ((h.set 0 u).set 1 v).set 2 s;exact this
theorem NoW.mat (a b : Int) (ao : Option Addr) (l k : Nat) : NoW [.int .i64 a, .int .i64 b, .slice ao l k] := NoW.i64 (NoW.i64 (NoW.slice NoW.nil))
theorem z0c.z2d {w : World} {b : Nat} {xs : List Int} (h : z0c w b xs) {g : Nat} {x y : Int} {ao : Option Addr} {l k : Nat} (hr : z00 w g 24 [.int .i64 x, .int .i64 y, .slice ao l k]) (u v : Int) (ao' : Option Addr) (l' k' : Nat) : z0c (((w.setCell ⟨g, 0, none⟩ (.int .i64 u)).setCell ⟨g, 1, none⟩ (.int .i64 v)).setCell ⟨g, 2, none⟩ (.slice ao' l' k')) b xs := by
 have h1 := h.z2k hr (by decide) (NoW.mat x y ao l k) 0 (.int .i64 u);have r1 : z00 _ g 24 [.int .i64 u, .int .i64 y, .slice ao l k] := hr.set 0 (.int .i64 u);have h2 := h1.z2k r1 (by decide) (NoW.mat u y ao l k) 1 (.int .i64 v);have r2 : z00 _ g 24 [.int .i64 u, .int .i64 v, .slice ao l k] := r1.set 1 (.int .i64 v);exact h2.z2k r2 (by decide) (NoW.mat u v ao l k) 2 (.slice ao' l' k')
set_option maxRecDepth 100000 in
set_option maxHeartbeats 4000000 in
theorem zbZ (r c : Int) (ao : Option Addr) (len cap : Nat) (xs : List Int) (w : World) (hr : -9223372036854775808 <= r /\ r <= 9223372036854775807) (hc : -9223372036854775808 <= c /\ c <= 9223372036854775807) (h : z0F w 17592186044415 ao xs) (hl : len = xs.length) (hs : z0v r c len = true) (hlen : xs.length <= 8796093022208) :
 Calls Tryz.prog 137 #[.agg #[.int .i64 r, .int .i64 c, .slice ao len cap]] w fun e w' => (∃ b, e = .returned (.tuple #[.agg #[.int .i64 r, .int .i64 c, .slice (some ⟨b, 0, none⟩) xs.length xs.length], .int .i64 0]) /\ w.heap.size <= b /\ z0c w' b xs) /\ Below w.heap.size w w' := by
 subst hl;have HL := Lib.hid h; clear h;have HS := Lib.hid (z4E hs); clear hs;go_enter Tryz.func137, Tryz.ntmps137;go_wp2_with fail
 obtain ⟨r1, r2, hb⟩ := z0H w #[.int .i64 r, .int .i64 c, .slice ao xs.length cap] #[.int .i64 0, .int .i64 0, .slice none 0 0] 24 24;generalize (w.alloc (.cells #[.int .i64 r, .int .i64 c, .slice ao xs.length cap] 24)).alloc (.cells #[.int .i64 0, .int .i64 0, .slice none 0 0] 24) = w2 at *;refine (z4v r c ao xs.length cap _ hr hc).mono ?_;rintro e w3 ⟨rfl, hb3⟩;rw [HS.out];have R1 := r1.below hb3 r1.lt;have R2 := Lib.hid (r2.below hb3 r2.lt);have L3 := Lib.hid ((HL.out.below hb).below hb3);have B3 := Lib.hid (hb.trans (hb3.mono hb.size));have hs2 : w.heap.size + 1 < w3.heap.size := R2.out.lt;have e0 : w3.cell? ⟨w.heap.size, 0, none⟩ = some (.int .i64 r) := R1.cell 0;have e1 : w3.cell? ⟨w.heap.size, 1, none⟩ = some (.int .i64 c) := R1.cell 1;have e2 : w3.cell? ⟨w.heap.size, 2, none⟩ = some (.slice ao xs.length cap) := R1.cell 2;have hne : ¬ w.heap.size + 1 = w.heap.size := by omega
 have hlt : w.heap.size < w3.heap.size := by omega
 clear r1 r2 hb hb3 R1;go_wp2
 go_region_held3 (fun w' => w'.cell? ⟨w.heap.size, 0, none⟩ = some (.int .i64 r) /\ w'.cell? ⟨w.heap.size, 1, none⟩ = some (.int .i64 c) /\ w'.cell? ⟨w.heap.size, 2, none⟩ = some (.slice ao xs.length cap))
  (first
   | exact ⟨e0, e1, e2⟩
   | exact ⟨k0, k1, k2⟩
   | exact ⟨m0, m1, m2⟩)
  (first
   | (go_at_call 139; (refine (z4a ao cap xs _ (z0F.below (w := w3) L3.out (Below.refl _ _).drew) hlen).mono ?_); rintro e w4 ⟨⟨b, rfl, hbl, hRb⟩, hb4⟩; have k0 := (hb4.cell (p := ⟨w.heap.size, 0, none⟩) hlt).trans e0; have k1 := (hb4.cell (p := ⟨w.heap.size, 1, none⟩) hlt).trans e1; have k2 := (hb4.cell (p := ⟨w.heap.size, 2, none⟩) hlt).trans e2; have hR4 := z00.below (w := w3.drew) R2.out hb4 R2.out.lt; have z0 := hR4.cell 0; have z1 := hR4.cell 1; have z2 := hR4.cell 2; have y0 := hR4.free 0; have y1 := hR4.free 1; have y2 := hR4.free 2; have m0 := ((World.cell?_setCell_far _ ⟨w.heap.size + 1, 2, none⟩ ⟨w.heap.size, 0, none⟩ (.slice (some ⟨b, 0, none⟩) xs.length xs.length) hne).trans ((World.cell?_setCell_far _ ⟨w.heap.size + 1, 1, none⟩ ⟨w.heap.size, 0, none⟩ (.int .i64 c) hne).trans ((World.cell?_setCell_far w4 ⟨w.heap.size + 1, 0, none⟩ ⟨w.heap.size, 0, none⟩ (.int .i64 r) hne).trans k0))); have m1 := ((World.cell?_setCell_far _ ⟨w.heap.size + 1, 2, none⟩ ⟨w.heap.size, 1, none⟩ (.slice (some ⟨b, 0, none⟩) xs.length xs.length) hne).trans ((World.cell?_setCell_far _ ⟨w.heap.size + 1, 1, none⟩ ⟨w.heap.size, 1, none⟩ (.int .i64 c) hne).trans ((World.cell?_setCell_far w4 ⟨w.heap.size + 1, 0, none⟩ ⟨w.heap.size, 1, none⟩ (.int .i64 r) hne).trans k1))); have m2 := ((World.cell?_setCell_far _ ⟨w.heap.size + 1, 2, none⟩ ⟨w.heap.size, 2, none⟩ (.slice (some ⟨b, 0, none⟩) xs.length xs.length) hne).trans ((World.cell?_setCell_far _ ⟨w.heap.size + 1, 1, none⟩ ⟨w.heap.size, 2, none⟩ (.int .i64 c) hne).trans ((World.cell?_setCell_far w4 ⟨w.heap.size + 1, 0, none⟩ ⟨w.heap.size, 2, none⟩ (.int .i64 r) hne).trans k2)))))
 go_wp2;have hs4 := hb4.size;have hbl : w3.heap.size <= b := hbl;have hbw : Below w.heap.size w w4 := B3.out.drew.trans (hb4.mono B3.out.size);refine bodyPost_ret (z0W (p := 2) (q := 3) (by kernel_rfl) _ _ (w.heap.size + 1) _ _ _ rfl (hR4.z4W (.int .i64 r) (.int .i64 c) (.slice (some ⟨b, 0, none⟩) xs.length xs.length))) rfl ?_;exact ⟨⟨b, rfl, by omega, hRb.z2d hR4 r c _ _ _⟩, ((hbw.setCell (p := ⟨w.heap.size + 1, 0, none⟩) (Nat.le_succ _) _).setCell (p := ⟨w.heap.size + 1, 1, none⟩) (Nat.le_succ _) _).setCell (p := ⟨w.heap.size + 1, 2, none⟩) (Nat.le_succ _) _⟩
set_option maxRecDepth 100000 in
set_option maxHeartbeats 4000000 in
theorem zc6 (r c : Int) (ao : Option Addr) (len cap : Nat) (xs : List Int) (w : World) (hr : -9223372036854775808 <= r /\ r <= 9223372036854775807) (hc : -9223372036854775808 <= c /\ c <= 9223372036854775807) (h : z0F w 17592186044415 ao xs) (hl : len = xs.length) (hs : z0v r c len = true) (hlen : xs.length <= 8796093022208) :
 Calls Tryz.prog 89 #[.agg #[.int .i64 r, .int .i64 c, .slice ao len cap]] w fun e w' => (∃ g b, e = .returned (.func (.func 138) #[] #[.pointer (some ⟨g, 0, none⟩)]) /\ w.heap.size <= g /\ w.heap.size <= b /\ z00 w' g 24 [.int .i64 r, .int .i64 c, .slice (some ⟨b, 0, none⟩) xs.length xs.length] /\ z0c w' b xs) /\ Below w.heap.size w w' := by
 subst hl;have HL := Lib.hid h; clear h;have hb0 : Below w.heap.size w (w.alloc (.cells #[.int .i64 r, .int .i64 c, .slice ao xs.length cap] 24)) := (Below.refl _ _).alloc (Nat.le_refl _) _;have HB0 := Lib.hid hb0; clear hb0;go_enter Tryz.func89, Tryz.ntmps89;go_wp2_with fail
 generalize w.alloc (.cells #[.int .i64 r, .int .i64 c, .slice ao xs.length cap] 24) = w1 at *;refine (zbZ r c ao xs.length cap xs _ hr hc (HL.out.below HB0.out) rfl hs hlen).mono ?_;rintro e w2 ⟨⟨b, rfl, hb, hR⟩, hb2⟩;have hbw : Below w.heap.size w w2 := HB0.out.trans (hb2.mono HB0.out.size);have hs1 := HB0.out.size;have HBW := Lib.hid hbw; clear hbw;have HR := Lib.hid hR; clear hR;have hs2 := hb2.size;clear hb2;go_wp2;go_ret;have hb3 : Below w2.heap.size w2 (w2.alloc (.cells #[.int .i64 r, .int .i64 c, .slice (some ⟨b, 0, none⟩) xs.length xs.length] 24)) := (Below.refl _ _).alloc (Nat.le_refl _) _;have hr3 := z00.new w2 #[.int .i64 r, .int .i64 c, .slice (some ⟨b, 0, none⟩) xs.length xs.length] 24;have hsz := HBW.out.size;exact ⟨⟨w2.heap.size, b, rfl, by omega, by omega, hr3, HR.out.below hb3⟩, HBW.out.trans (hb3.mono (by omega))⟩
structure z2E (B : Nat) (S : Nat -> Prop) (w w' : World) : Prop where
 os : w'.os = w.os
 tape : w'.tape = w.tape
 output : w'.output = w.output
 size : w.heap.size <= w'.heap.size
 block : ∀ k, k < B -> ¬ S k -> w'.heap[k]? = w.heap[k]?
theorem z2E.trans {B : Nat} {S : Nat -> Prop} {a b c : World} (h : z2E B S a b) (k : z2E B S b c) : z2E B S a c :=
 ⟨k.os.trans h.os, k.tape.trans h.tape, k.output.trans h.output, Nat.le_trans h.size k.size, fun i hi hs => (k.block i hi hs).trans (h.block i hi hs)⟩
theorem z2E.putObj {B : Nat} {S : Nat -> Prop} (w : World) {l : Nat} (o : Obj) (hl : B <= l) : z2E B S w (w.putObj l o) :=
 ⟨rfl, rfl, rfl, by simp, fun k hk _ => World.putObj_heap_other (by omega)⟩
theorem z2E.z0K {B : Nat} {S : Nat -> Prop} {w w' : World} (h : Below B w w') : z2E B S w w' := ⟨h.os, h.tape, h.output, h.size, fun k hk _ => h.block k hk⟩
def zbM {α : Type} (B : Nat) (S : Nat -> Prop) (I : List α -> World -> Prop) (xs : List α) (W : World) : Exit -> Act -> World -> Prop
 | .normal, _, W' => KeepsOthers W W' /\ z2E B S W W' /\ I xs W'
 | _, _, _ => False
theorem zae {α : Type} {P : Program} {n : Nat} {g : Operand} {ps : Array Tmp} {assign body : Code} {Q : Exit -> Act -> World -> Prop} {a : Act} {w : World}
 {gf : Nat} {lb : Array Value} (hg : a.eval g = .func (.func gf) #[] lb) (eg : ∀ args w, (callFunc gf args).run P w = .ok (.enter gf args) w)
 {encs : α -> Array Value} (hps : ∀ x, (encs x).size = ps.size) (S : Nat -> Prop) (N : Nat) (Sx : List α -> Prop)
 (E : List α -> α -> World -> Prop) (I : List α -> World -> Prop)
 (hE : ∀ s x W l o o', E s x W -> w.heap.size <= l -> W.heap[l]? = some o -> o.isCells = false -> E s x (W.putObj l o'))
 (hIl : ∀ s W l o o', I s W -> w.heap.size <= l -> W.heap[l]? = some o -> o.isCells = false -> I s (W.putObj l o'))
 (hIb : ∀ s A B, I s A -> Below A.heap.size A B -> I s B) (h0 : I [] w) (a₁ : α -> Act)
 (hseq : ∀ (l : Nat) (J : List α -> World -> Prop) (W : World), Below w.heap.size w W -> (∀ s A B, J s A -> Below A.heap.size A B -> J s B) ->
  (∀ pre x W1, J pre W1 -> E pre x W1 -> pre.length < N -> YieldAt Fence.wide (n - 1 - 1) P l (encs x) W1 fun e W' => e = .returned (.bool true) /\ J (pre ++ [x]) W' /\ z2E w.heap.size S W1 W') ->
  J [] W -> CallsIn Fence.wide (n - 1) P gf (#[.func (.yield l) #[] #[]] ++ lb) W fun e W' => (∃ v, e = .returned v) /\ ∃ xs, Sx xs /\ J xs W')
 (hassign : ∀ (l : Nat) (x : α) (W : World) (K : Act -> World -> Prop), K (a₁ x) W ->
  assign.wpIn (Fence.wide.inRound l) (n - 1 - 1) P (Exit.then K (fun _ _ _ => False)) { tmps := (ps.zip (encs x)).foldl (fun t (p, v) => t.setIfInBounds p v) a.tmps, defers := [] } W)
 (hbody : ∀ (l : Nat) (pre : List α) (x : α) (W : World), I pre W -> E pre x W -> pre.length < N -> body.wpIn (Fence.wide.inRound l) (n - 1 - 1) P (zbM w.heap.size S I (pre ++ [x]) W) (a₁ x) W)
 (hdone : ∀ (D : Nat) (xs : List α) (W : World), w.heap.size <= D -> Sx xs -> I xs W -> W.heap[D]? = some (.deferred (some [])) -> Q .normal { a with defers := { target := .collected D, args := #[] } :: a.defers } W) :
 (Code.rangeFunc g ps assign body).wpIn Fence.wide n P Q a w := by
 refine wpIn_rangeFunc ?_;intro fn hfn;obtain ⟨R, hR⟩ : ∃ R : LoopState -> Option Code -> Loop, R = fun st pe => { state := st, pending := pe, fn, tmps := a.tmps, params := ps, assign, body, defers := w.heap.size } := ⟨_, rfl⟩;have hz0 : (w.alloc (.deferred (some []))).heap.size = w.heap.size + 1 := by simp
 have hbA : Below w.heap.size w (w.alloc (.deferred (some []))) := (Below.refl _ _).alloc (Nat.le_refl _) _;have hbB : Below (w.heap.size + 1) (w.alloc (.deferred (some []))) ((w.alloc (.deferred (some []))).alloc (.loop (R .ready none))) := (Below.refl _ _).alloc (by simp) _;have hl0 : ((w.alloc (.deferred (some []))).alloc (.loop (R .ready none))).heap[w.heap.size + 1]? = some (.loop (R .ready none)) := by
  have := World.alloc_heap_new (w.alloc (.deferred (some []))) (.loop (R .ready none)); rwa [World.size_alloc] at this
 have hd0 : ((w.alloc (.deferred (some []))).alloc (.loop (R .ready none))).heap[w.heap.size]? = some (.deferred (some [])) :=
  (hbB.block _ (by omega)).trans (World.alloc_heap_new w _)
 have hen := run_enterLoop_outer (P := P) (w := w) fn a.tmps ps assign body;have hI1 : I [] ((w.alloc (.deferred (some []))).alloc (.loop (R .ready none))) := hIb _ _ _ (hIb _ _ _ h0 hbA) (by rw [hz0]; exact hbB);have hbw : Below w.heap.size w ((w.alloc (.deferred (some []))).alloc (.loop (R .ready none))) := hbA.trans (hbB.mono (by omega));rw [show ({ state := .ready, pending := none, fn, tmps := a.tmps, params := ps, assign, body, defers := w.heap.size } : Loop) = R .ready none by rw [hR]] at hen;generalize (w.alloc (.deferred (some []))).alloc (.loop (R .ready none)) = W0 at *;refine ⟨w.heap.size + 1, [{ target := .collected w.heap.size, args := #[] }], W0, { target := .fn (.func gf) lb, args := #[.func (.yield (w.heap.size + 1)) #[] #[]] }, W0, gf,
  #[.func (.yield (w.heap.size + 1)) #[] #[]] ++ lb, W0, hen, ?_, fun _ _ => trivial, by simp [invoke, go_sem, eg], fun h => absurd h (by decide), ?_⟩
 · simp only [resolve, hg];simp [go_sem]
 have hlp : ∀ st pe, (Obj.loop (R st pe)).isCells = false := fun _ _ => rfl;refine (hseq (w.heap.size + 1) (fun pre W => I pre W /\ W.heap[w.heap.size + 1]? = some (.loop (R .ready none)) /\ W.heap[w.heap.size]? = some (.deferred (some []))) W0 hbw ?_ ?_ ⟨hI1, hl0, hd0⟩).mono ?_
 · rintro s A B ⟨h1, h2, h3⟩ hb;exact ⟨hIb _ _ _ h1 hb, (hb.block _ (Array.getElem?_eq_some_iff.1 h2).1).trans h2, (hb.block _ (Array.getElem?_eq_some_iff.1 h3).1).trans h3⟩
 · rintro pre x W ⟨hi, hl, hd⟩ hx hlen;have hlt : w.heap.size + 1 < W.heap.size := (Array.getElem?_eq_some_iff.1 hl).1;have hy := run_yield (P := P) (args := encs x) hl (by rw [hR]; exact hps x);have hbg := run_beginRound (P := P) hl (by rw [hR]);have hle : w.heap.size <= w.heap.size + 1 := by omega
   rw [hR] at hy hbg;refine ⟨fn, _, assign, body, hy, roundIn_of_wpIn hfn (hassign _ x W _ ⟨_, hbg, ?_⟩)⟩;have hl2 : (W.putObj (w.heap.size + 1) (.loop (R .busy none))).heap[w.heap.size + 1]? = some (.loop (R .busy none)) := World.putObj_heap_same hlt;have hd2 : (W.putObj (w.heap.size + 1) (.loop (R .busy none))).heap[w.heap.size]? = some (.deferred (some [])) := (World.putObj_heap_other (by omega)).trans hd;have hk2 : z2E w.heap.size S W (W.putObj (w.heap.size + 1) (.loop (R .busy none))) := z2E.putObj W _ hle;have hi2 := hIl pre W (w.heap.size + 1) _ (.loop (R .busy none)) hi hle hl rfl;have hx2 := hE pre x W (w.heap.size + 1) _ (.loop (R .busy none)) hx hle hl rfl;rw [show ({ state := .busy, pending := none, fn, tmps := a.tmps, params := ps, assign, body, defers := w.heap.size } : Loop) = R .busy none by rw [hR]];generalize W.putObj (w.heap.size + 1) (.loop (R .busy none)) = W2 at *;refine wpIn_mono (hbody (w.heap.size + 1) pre x W2 hi2 hx2 hlen) ?_;intro e a3 W3 hp;cases e with
   | normal =>
    obtain ⟨hk3, hkp3, hi3⟩ := hp;have hl3 := hk3.same _ _ hl2 rfl;have hd3 := hk3.same _ _ hd2 rfl;have hend := run_endRound (P := P) none hl3;rw [hR] at hend;refine ⟨_, _, hend, rfl, ⟨hIl _ _ _ _ _ hi3 hle hl3 rfl, ?_, ?_⟩, ?_⟩
    · rw [World.putObj_heap_same (Array.getElem?_eq_some_iff.1 hl3).1, hR]; rfl
    · exact (World.putObj_heap_other (by omega)).trans hd3
    · exact hk2.trans (hkp3.trans (z2E.putObj _ _ hle))
   | ret => exact hp.elim
   | exit id => exact hp.elim
   | goto t => exact hp.elim
   | panic ch => exact hp.elim
   | outgrown => exact hp.elim
 · rintro e W2 ⟨⟨v, rfl⟩, xs, hS, hi, hl, hd⟩;have hle : w.heap.size <= w.heap.size + 1 := by omega
   have hend := run_endLoop (P := P) hl (by rw [hR]; simp);rw [hR] at hend;exact ⟨none, _, hend, hdone _ xs _ (Nat.le_refl _) hS (hIl _ _ _ _ _ hi hle hl rfl) ((World.putObj_heap_other (by omega)).trans hd)⟩
attribute [local go_sem] Oper.semAt_some
abbrev NR := Nat × Hd
def NR.enc (x : NR) : Array Value := #[.int .i64 (x.1 : Int), .slice (some ⟨x.2.blk, 0, none⟩) x.2.xs.length x.2.cap]
def rowOf (xs : List Int) (c k : Nat) : List Int := (xs.drop (k * c)).take c
theorem z0Q {xs : List Int} {r c k : Nat} (hl : xs.length = r * c) (hk : k < r) : (rowOf xs c k).length = c := by
 have h1 : (k + 1) * c <= r * c := Nat.mul_le_mul_right _ (by omega);have h2 : (k + 1) * c = k * c + c := Nat.succ_mul k c;simp [rowOf, hl]; omega
def HandE (B : Nat) (pre : List NR) (x : NR) (W : World) : Prop := z0c W x.2.blk x.2.xs /\ B <= x.2.blk /\ ∀ y ∈ pre, y.2.blk ≠ x.2.blk
def HandS (r c : Nat) (xs : List Int) (zs : List NR) : Prop := zs.length = r /\ ∀ k (h : k < zs.length), zs[k] = (k, ⟨(zs[k]).2.blk, c, rowOf xs c k⟩)
theorem z0F.piece {w : World} {b : Nat} {xs : List Int} (h : z0c w b xs) (L : Nat) (hL : ∀ x ∈ xs, z04 x.natAbs <= L) (k c : Nat) : z0F w L (some ⟨b, k * c * 2, none⟩) (rowOf xs c k) := by
 intro hp;refine ⟨b, k * c * 2, rfl, h.lt, fun i hi => ?_⟩;have h0 : i < c := by simp [rowOf] at hi; omega
 have h1 : k * c + i < xs.length := by simp [rowOf] at hi; omega
 obtain ⟨p, h2, h3, h4⟩ := h.get h1;have e : (k * c + i) * 2 = k * c * 2 + i * 2 := by omega
 rw [e] at h2 h3;refine ⟨p, h2, h3, ?_⟩;have e2 : (rowOf xs c k)[i] = xs[k * c + i] := by simp [rowOf]
 rw [e2];exact h4.int (hL _ (List.getElem_mem _))
set_option maxRecDepth 100000 in
set_option maxHeartbeats 4000000 in
theorem z90 (n g b r c : Nat) (xs : List Int) (w : World) (S : Nat -> Prop) (hS : z15 S w) (hg : z00 w g 24 [.int .i64 (r : Int), .int .i64 (c : Int), .slice (some ⟨b, 0, none⟩) xs.length xs.length]) (hgS : ¬ S g) (hb : z0c w b xs) (hbS : ¬ S b) (hl : xs.length = r * c) (hr : r <= 100000) (hc : c <= 100000)
 (hL : ∀ x ∈ xs, z04 x.natAbs <= 17592186044415)
 (l : Nat) (J : List NR -> World -> Prop) (W : World) (hW : Below w.heap.size w W) (hJ : ∀ s A B, J s A -> Below A.heap.size A B -> J s B)
 (hY : ∀ pre x W1, J pre W1 -> HandE w.heap.size pre x W1 -> pre.length < r -> YieldAt Fence.wide (n - 1) Tryz.prog l (NR.enc x) W1 fun e W' => e = .returned (.bool true) /\ J (pre ++ [x]) W' /\ z2E w.heap.size S W1 W')
 (h0 : J [] W) (hn : 1 <= n) :
 CallsIn Fence.wide n Tryz.prog 138 (#[.func (.yield l) #[] #[]] ++ #[.pointer (some ⟨g, 0, none⟩)]) W fun e W' => (∃ v, e = .returned v) /\ ∃ zs, HandS r c xs zs /\ J zs W' := by
 have HG := Lib.hid hg; clear hg;have HB := Lib.hid hb; clear hb;have HL := Lib.hid hl; clear hl;have HW := Lib.hid hW; clear hW;have HY := Lib.hid hY; clear hY;have HWL := Lib.hid hS; clear hS;have g0 := (HG.out.below HW.out HG.out.lt).cell 0;refine callsIn_of_wp Tryz.func138 rfl trivial ?_ rfl;simp only [Tryz.ntmps138, List.size_toArray, List.length_cons, List.length_nil, Nat.reduceAdd, Nat.reduceSub, Array.replicate_succ, Array.replicate_zero, List.push_toArray, List.append_toArray, List.nil_append, List.cons_append];simp only [List.getElem?_cons_zero] at g0
 gi_wp2
 clear g0
 gi_loopw [6] (fun i wr => ∃ (k : Nat) (zs : List NR), k <= r /\ i = .int .i64 (k : Int) /\ Hid (zs.length = k /\ (∀ j (h : j < zs.length), zs[j] = (j, ⟨(zs[j]).2.blk, c, rowOf xs c j⟩)) /\ (∀ y ∈ zs, y.2.blk < wr.heap.size) /\ J zs wr /\ Chg S w wr))
  (fun i _ => r - (intOf i).toNat)
 case atStart => exact ⟨0, [], Nat.zero_le _, rfl, Lib.hid ⟨rfl, fun j h => absurd h (by simp), fun y h => absurd h (by simp), h0, Chg.z0K HW.out⟩⟩
 case round =>
  obtain ⟨k, zs, hk, rfl, HI⟩ := hrel;by_cases hlt : k < r
  · have hlt' : (k : Int) < (r : Int) := by omega
    have g0 := (HI.out.2.2.2.2.row HG.out hgS).cell 0;have g1 := (HI.out.2.2.2.2.row HG.out hgS).cell 1;have g2 := (HI.out.2.2.2.2.row HG.out hgS).cell 2;simp only [List.getElem?_cons_zero, List.getElem?_cons_succ] at g0 g1 g2;obtain ⟨q, hq⟩ : ∃ q, k * c = q := ⟨_, rfl⟩;have hq2 : (k + 1) * c = q + c := by rw [Nat.succ_mul, hq]
    have hq3 : q + c <= xs.length := by rw [<- hq2, HL.out]; exact Nat.mul_le_mul_right _ hlt
    have hxl : xs.length <= 10000000000 := by rw [HL.out]; exact Nat.mul_le_mul hr hc
    have hw1 : wrap64 ((k : Int) * (c : Int)) = (q : Int) := by
     rw [<- Int.natCast_mul, hq]; unfold wrap64; omega
    have hw2 : wrap64 (((k : Int) + 1) * (c : Int)) = (q : Int) + (c : Int) := by
     have : ((k : Int) + 1) * (c : Int) = ((q + c : Nat) : Int) := by rw [<- hq2]; push_cast; rfl
     rw [this]; push_cast; unfold wrap64; omega
    have hpc : z0F wr 17592186044415 (some ⟨b, q * 2, none⟩) (rowOf xs c k) := by
     rw [<- hq]; exact z0F.piece (HI.out.2.2.2.2.z9N HWL.out HB.out hbS) _ hL k c
    have hrl : (rowOf xs c k).length = c := z0Q HL.out hlt;have HP := Lib.hid hpc; clear hpc;have HQ := Lib.hid hq; clear hq;have HQ2 := Lib.hid hq2; clear hq2;have hle1 : (q : Int) + (c : Int) <= (xs.length : Int) := by omega
    have hle2 : (q : Int) <= (q : Int) + (c : Int) := by omega
    have hcap : xs.length - q ≠ 0 ∨ c = 0 := by omega
    gi_wp2_with fail
    · refine ⟨trivial, ?_⟩;have hE := z4a (some ⟨b, 0, none⟩) 0 (rowOf xs c k) wr (fun h => by rw [hrl] at h; omega) (by rw [hrl]; omega);rw [hrl] at hE;refine (callsIn_wide.2 hE).mono ?_;rintro e w3 ⟨⟨bn, rfl, hbn, hrow⟩, hb3⟩;have hs3 := hb3.size;have hJ3 : J zs w3 := hJ _ _ _ HI.out.2.2.2.1 hb3;have hlt3 : bn < w3.heap.size := hrow.lt;obtain ⟨fn, tmps, assign, body, hy, hR⟩ := HY.out zs (k, ⟨bn, c, rowOf xs c k⟩) w3 hJ3 ⟨hrow, by have := HI.out.2.2.2.2.size; show w.heap.size <= bn; omega, fun y hy => by have := HI.out.2.2.1 y hy; show y.2.blk ≠ bn; omega⟩ (by rw [HI.out.1]; exact hlt);simp only [NR.enc] at hy;rw [hrl] at hy;have HI3 : Hid (Chg S w w3) := Lib.hid (HI.out.2.2.2.2.below hb3);have HZ := Lib.hid (And.intro HI.out.1 (And.intro HI.out.2.1 HI.out.2.2.1));have HB3 := Lib.hid hb3;clear hb3 HI HP hrow hJ3 g0 g1 g2
      gi_wp2
      refine hR.mono ?_;rintro e W' ⟨rfl, hJ', hk'⟩;have HJ' := Lib.hid hJ';have HK' := Lib.hid hk';clear hJ' hk' hy hR
      gi_wp2
      go_roundw
      case rel =>
       refine ⟨k + 1, zs ++ [(k, ⟨bn, c, rowOf xs c k⟩)], by omega, by go_num, Lib.hid ⟨by simp [HZ.out.1], fun j hj => ?_, fun y hy => ?_, HJ'.out, ?_⟩⟩
       · by_cases hjk : j < zs.length
         · rw [List.getElem_append_left hjk];exact HZ.out.2.1 j hjk
         · have hjl : j = zs.length := by simp at hj; omega
           subst hjl;simp [HZ.out.1]
       · have hsz := HK'.out.size;rcases List.mem_append.1 hy with hy | hy
         · have := HZ.out.2.2 y hy; have := HB3.out.size; omega
         · simp only [List.mem_singleton] at hy; subst hy; show bn < _; omega
       · exact ⟨HK'.out.os.trans HI3.out.os, HK'.out.tape.trans HI3.out.tape, HK'.out.output.trans HI3.out.output, Nat.le_trans HI3.out.size HK'.out.size, fun i hi hs => (HK'.out.block i hi hs).trans (HI3.out.block i hi hs)⟩
      case measure => simp [intOf]; omega
    · refine ⟨trivial, ?_⟩;have hE := z4a (some ⟨b, q * 2, none⟩) (xs.length - q) (rowOf xs c k) wr HP.out (by rw [hrl]; omega);rw [hrl] at hE;refine (callsIn_wide.2 hE).mono ?_;rintro e w3 ⟨⟨bn, rfl, hbn, hrow⟩, hb3⟩;have hs3 := hb3.size;have hJ3 : J zs w3 := hJ _ _ _ HI.out.2.2.2.1 hb3;have hlt3 : bn < w3.heap.size := hrow.lt;obtain ⟨fn, tmps, assign, body, hy, hR⟩ := HY.out zs (k, ⟨bn, c, rowOf xs c k⟩) w3 hJ3 ⟨hrow, by have := HI.out.2.2.2.2.size; show w.heap.size <= bn; omega, fun y hy => by have := HI.out.2.2.1 y hy; show y.2.blk ≠ bn; omega⟩ (by rw [HI.out.1]; exact hlt);simp only [NR.enc] at hy;rw [hrl] at hy;have HI3 : Hid (Chg S w w3) := Lib.hid (HI.out.2.2.2.2.below hb3);have HZ := Lib.hid (And.intro HI.out.1 (And.intro HI.out.2.1 HI.out.2.2.1));have HB3 := Lib.hid hb3;clear hb3 HI HP hrow hJ3 g0 g1 g2
      gi_wp2
      refine hR.mono ?_;rintro e W' ⟨rfl, hJ', hk'⟩;have HJ' := Lib.hid hJ';have HK' := Lib.hid hk';clear hJ' hk' hy hR
      gi_wp2
      go_roundw
      case rel =>
       refine ⟨k + 1, zs ++ [(k, ⟨bn, c, rowOf xs c k⟩)], by omega, by go_num, Lib.hid ⟨by simp [HZ.out.1], fun j hj => ?_, fun y hy => ?_, HJ'.out, ?_⟩⟩
       · by_cases hjk : j < zs.length
         · rw [List.getElem_append_left hjk];exact HZ.out.2.1 j hjk
         · have hjl : j = zs.length := by simp at hj; omega
           subst hjl;simp [HZ.out.1]
       · have hsz := HK'.out.size;rcases List.mem_append.1 hy with hy | hy
         · have := HZ.out.2.2 y hy; have := HB3.out.size; omega
         · simp only [List.mem_singleton] at hy; subst hy; show bn < _; omega
       · exact ⟨HK'.out.os.trans HI3.out.os, HK'.out.tape.trans HI3.out.tape, HK'.out.output.trans HI3.out.output, Nat.le_trans HI3.out.size HK'.out.size, fun i hi hs => (HK'.out.block i hi hs).trans (HI3.out.block i hi hs)⟩
      case measure => simp [intOf]; omega
  · obtain rfl : k = r := by omega
    gi_wp2
    go_end0
    exact ⟨⟨_, rfl⟩, zs, ⟨HI.out.1, HI.out.2.1⟩, HI.out.2.2.2.1⟩
attribute [local go_sem] Oper.semAt_some
theorem z95 {w : World} {l : Nat} {o o' : Obj} (hl : w.heap[l]? = some o) (hn : o.isCells = false) {p : Addr} {v : Value} (h : w.cell? p = some v) : (w.putObj l o').cell? p = some v := by
 by_cases e : p.block = l
 · exfalso;unfold World.cell? at h;rw [e, hl] at h;cases o <;> simp_all [Obj.isCells]
 · exact (World.cell?_of_block (World.putObj_heap_other e)).trans h
theorem z2M {w : World} {l : Nat} {o o' : Obj} (hl : w.heap[l]? = some o) (hn : o.isCells = false) {b : Nat} {t : TypeId} {cs : List Value} (h : z00 w b t cs) : z00 (w.putObj l o') b t cs := by
 by_cases e : b = l
 · exfalso;unfold z00 at h;rw [e, hl] at h;injection h with h
   subst h;simp [Obj.isCells] at hn
 · unfold z00 at *;rw [World.putObj_heap_other e]; exact h
theorem z9T (w : World) (l : Nat) (o : Obj) : (w.putObj l o).heap.size = w.heap.size := by simp
theorem zaG {w : World} {l : Nat} {o o' : Obj} (hl : w.heap[l]? = some o) (hn : o.isCells = false) {ao : Option Addr} {ws : List Nat} (h : WAt w ao ws) : WAt (w.putObj l o') ao ws := by
 refine ⟨h.1, fun hp => ?_⟩;obtain ⟨b, q, e, hb, hc⟩ := h.2 hp;exact ⟨b, q, e, by rw [z9T]; exact hb, fun i hi => z95 hl hn (hc i hi)⟩
theorem zax {w : World} {l : Nat} {o o' : Obj} (hl : w.heap[l]? = some o) (hn : o.isCells = false) {L : Nat} {v : Value} {x : Int} (h : z03 w L v x) : z03 (w.putObj l o') L v x := by
 obtain ⟨n, ao, len, cap, ws, e, hW, r⟩ := h;exact ⟨n, ao, len, cap, ws, e, zaG hl hn hW, r⟩
theorem z45 {w : World} {l : Nat} {o o' : Obj} (hl : w.heap[l]? = some o) (hn : o.isCells = false) {b : Nat} {xs : List Int} (h : z0c w b xs) : z0c (w.putObj l o') b xs := by
 obtain ⟨ps, tl, nt, hr, hl', hN⟩ := h;exact ⟨ps, tl, nt, z2M hl hn hr, hl', fun i h1 h2 => ⟨zax hl hn (hN i h1 h2).1, (hN i h1 h2).2⟩⟩
theorem z77 : (Tryz.prog.info? 22).map (fun i => (i.zero, i.size, i.bytes)) = some (some (.slice none 0 0), 1, 24) := by kernel_rfl
def z2z (r : Nat) (zs : List NR) : List Value := zs.map (fun z => z.2.hdr) ++ List.replicate (r - zs.length) (.slice none 0 0)
structure zbP (w : World) (B g o r : Nat) (zs : List NR) (W : World) : Prop where
 box : z00 W g 82 [.slice (some ⟨o, 0, none⟩) zs.length r]
 row : z00 W o 22 (z2z r zs)
 nums : ∀ z ∈ zs, z0c W z.2.blk z.2.xs /\ B <= z.2.blk
 nd : (zs.map (fun z => z.2.blk)).Nodup
 chg : Chg (fun k => k = g ∨ k = o) w W
theorem z8O {F : Fence} {n : Nat} {P : Program} {w : World} {ops : Array Oper} {rest : List Oper} {o : Oper} {a : Act} {Q : Exit -> Act -> World -> Prop}
 (hg : o.guard = none) (s x : Operand) (t : TypeId) (hop : o.op = Op.call { callee := Callee.builtin Builtin.append, args := #[s, x], argTypes := #[t, t] })
 (e : TypeId) (z : Value) (size bytes : Nat) (h1 : P.underlying t = some (.slice e)) (h2 : (P.info? e).map (fun i => (i.zero, i.size, i.bytes)) = some (some z, size, bytes))
 (b off sLen sCap : Nat) (ad : Addr) (m c : Nat) (news : List Value) (hs : a.eval s = .slice (some ⟨b, off, none⟩) sLen sCap) (hx : a.eval x = .slice (some ad) m c)
 (hl : news.length = m * size) (hnews : ∀ j u, news[j]? = some u -> w.cell? (ad.add j) = some u) (h1c : ∀ u ∈ news, u.oneCell' = true) (hroom : sLen + m <= sCap)
 (hc : ∀ j, j < news.length -> (w.cell? ⟨b, off + sLen * size + j, none⟩).isSome = true) (hf : ∀ j, j < news.length -> w.frozen? ⟨b, off + sLen * size + j, none⟩ = false)
 (hK : wpListIn F n P ops Q rest (a.put o.dst (.slice (some ⟨b, off, none⟩) (sLen + m) sCap)) (w.setCells b (off + sLen * size) news)) :
 wpListIn F n P ops Q (o :: rest) a w := by
 refine wpListIn_plain hg fun K hK' => ?_;obtain ⟨i, hi, hz, hsz, hb⟩ := info_parts h2;subst hsz;have hrun := run_append_room_cells (P := P) (w := w) t o.type e i h1 hi b off sLen sCap ad m c news hl hnews h1c hroom hc hf;unfold Oper.wpIn;refine ⟨?_, ?_⟩
 · simp [Oper.about, hop, resolve, Target.leads, Sem.run_pure]
 · rw [Oper.semAt_plain F _ _ (by rw [hop]; intro c hc'; cases hc')];simp [execOp, hop, resolve, invoke, builtin, hs, hx, hrun, Result.andThen];exact hK' _ _ hK
theorem z7v {P : Program} {w : World} {ops : Array Oper} {rest : List Oper} {o : Oper} {a : Act} {Q : Exit -> Act -> World -> Prop}
 (hg : o.guard = none) (s x : Operand) (t : TypeId) (hop : o.op = Op.call { callee := Callee.builtin Builtin.append, args := #[s, x], argTypes := #[t, t] })
 (e : TypeId) (z : Value) (size bytes : Nat) (h1 : P.underlying t = some (.slice e)) (h2 : (P.info? e).map (fun i => (i.zero, i.size, i.bytes)) = some (some z, size, bytes))
 (b off sLen sCap : Nat) (ad : Addr) (m c : Nat) (news : List Value) (hs : a.eval s = .slice (some ⟨b, off, none⟩) sLen sCap) (hx : a.eval x = .slice (some ad) m c)
 (hl : news.length = m * size) (hnews : ∀ j u, news[j]? = some u -> w.cell? (ad.add j) = some u) (h1c : ∀ u ∈ news, u.oneCell' = true) (hroom : sLen + m <= sCap)
 (hc : ∀ j, j < news.length -> (w.cell? ⟨b, off + sLen * size + j, none⟩).isSome = true) (hf : ∀ j, j < news.length -> w.frozen? ⟨b, off + sLen * size + j, none⟩ = false)
 (hK : wpList P ops Q rest (a.put o.dst (.slice (some ⟨b, off, none⟩) (sLen + m) sCap)) (w.setCells b (off + sLen * size) news)) :
 wpList P ops Q (o :: rest) a w := by
 refine wpList_plain hg fun K hK' => ?_;obtain ⟨i, hi, hz, hsz, hb⟩ := info_parts h2;subst hsz;have hrun := run_append_room_cells (P := P) (w := w) t o.type e i h1 hi b off sLen sCap ad m c news hl hnews h1c hroom hc hf;simp [Oper.wp, Oper.about, hop, resolve, Target.leads, Sem.run_pure, execOp, invoke, builtin, hs, hx, hrun, Result.andThen];exact hK' _ _ hK
theorem z81 (n : Nat) : (madeCells (Value.slice none 0 0).cells (n * 1)).toList = List.replicate n (.slice none 0 0) := by
 rw [z3i _ rfl]
theorem zdN {w : World} {ops : Array Oper} {rest : List Oper} {o : Oper} {a : Act} {Q : Exit -> Act -> World -> Prop}
 (hg : o.guard = none) (l c : Operand) (hop : o.op = Op.makeSlice 82 l c)
 {kl kc : IntKind} {L C : Int} (n m : Nat) (hl : a.eval l = .int kl L) (hc : a.eval c = .int kc C) (hL : L = (n : Int)) (hC : C = (m : Int)) (hnm : n <= m) (b2 : m <= 1000000)
 (hK : ∀ b w', Made w w' b 22 (List.replicate m (.slice none 0 0)) -> wpList Tryz.prog ops Q rest (a.put o.dst (.slice (some ⟨b, 0, none⟩) n m)) w') :
 wpList Tryz.prog ops Q (o :: rest) a w :=
 z1T hg l c 82 hop 22 (.slice none 0 0) 1 24 Tryz.underlying82 z77 n m hl hc hL hC hnm (by omega) (by unfold maxLen; omega)
  (fun b w' h => hK b w' (by rw [z81] at h; exact h))
set_option maxRecDepth 100000 in
set_option maxHeartbeats 4000000 in
theorem z6E (r c : Nat) (ao : Option Addr) (len cap : Nat) (xs : List Int) (w : World) (hr : r <= 64) (hc : c <= 64) (h : z0F w 17592186044415 ao xs) (hL : ∀ x ∈ xs, z04 x.natAbs <= 17592186044415) (hl : len = xs.length) (hs : xs.length = r * c) :
 CallsIn Fence.wide 6 Tryz.prog 43 #[.agg #[.int .i64 (r : Int), .int .i64 (c : Int), .slice ao len cap]] w fun e w' => (∃ o R, e = .returned (.slice (some ⟨o, 0, none⟩) R.length r) /\ z0V w' o R /\ R.length = r /\ (∀ k (h : k < R.length), R[k].xs = rowOf xs c k) /\ w.heap.size <= o /\ (∀ x ∈ R, w.heap.size <= x.blk) /\ z00 w' o 22 (R.map Hd.hdr) /\ ∀ k (h : k < R.length), R[k].cap = c) /\ Below w.heap.size w w' := by
 subst hl;have HX := Lib.hid h; clear h;have HS := Lib.hid hs; clear hs;refine callsIn_of_wp_marks Tryz.func43 rfl trivial ?_ rfl;simp only [Tryz.ntmps43, List.size_toArray, List.length_cons, List.length_nil, Nat.reduceAdd, Nat.reduceSub, Array.replicate_succ, Array.replicate_zero, List.push_toArray, List.append_toArray, List.nil_append, List.cons_append];refine wpIn_wide.2 ?_;have hb0 : Below w.heap.size w (w.alloc (.cells #[.int .i64 (r : Int), .int .i64 (c : Int), .slice ao xs.length cap] 24)) := (Below.refl _ _).alloc (Nat.le_refl _) _;have hr0 := z00.new w #[.int .i64 (r : Int), .int .i64 (c : Int), .slice ao xs.length cap] 24;have HB0 := Lib.hid hb0; clear hb0;have HR0 := Lib.hid hr0; clear hr0;go_wp2_with (at_make; refine zdN rfl _ _ rfl 0 r rfl rfl rfl rfl (Nat.zero_le _) (by omega) ?_; intro o w1 hm1; have hr1 := (HR0.out.below hm1.below HR0.out.lt).alloc (.cells #[.slice (some ⟨o, 0, none⟩) 0 r] 82); have c0 := hr1.cell 0; have c1 := hr1.cell 1; have c2 := hr1.cell 2; have hm := Lib.hid hm1; clear hm1 hr1; simp only [List.getElem?_cons_zero, List.getElem?_cons_succ] at c0 c1 c2)
 have hr2 := hm.out.row.alloc (.cells #[.slice (some ⟨o, 0, none⟩) 0 r] 82);have hr3 := z00.new w1 #[.slice (some ⟨o, 0, none⟩) 0 r] 82;have hb2 : Below w.heap.size w (w1.alloc (.cells #[.slice (some ⟨o, 0, none⟩) 0 r] 82)) := (HB0.out.trans (hm.out.below.mono HB0.out.size)).alloc (by have := HB0.out.size; have := hm.out.below.size; omega) _;have hg1 : w.heap.size < w1.heap.size := Nat.lt_of_lt_of_le HR0.out.lt hm.out.below.size;have ho1 : w.heap.size < o /\ o < w1.heap.size := by
  have h1 := hm.out.at_;have h2 := HR0.out.lt;have h3 := hm.out.size;omega
 generalize hw2 : w1.alloc (.cells #[.slice (some ⟨o, 0, none⟩) 0 r] 82) = w2 at *;have hs2 : w2.heap.size = w1.heap.size + 1 := by rw [<- hw2]; simp
 have HR2 := Lib.hid hr2; clear hr2;have HR3 := Lib.hid hr3; clear hr3;have HB2 := Lib.hid hb2; clear hb2;clear hm hw2 HB0 HR0 c0 c1 c2;have hsnd : z0v (r : Int) (c : Int) xs.length = true := by
  unfold z0v z0X;rw [HS.out];simp; omega
 refine (zc6 (r : Int) (c : Int) ao xs.length cap xs w2 (by omega) (by omega) (HX.out.below HB2.out) rfl hsnd (by rw [HS.out]; have := Nat.mul_le_mul hr hc; omega)).mono ?_;rintro e w3 ⟨⟨g, b, rfl, hg, hb, hRg, hRb⟩, hb3⟩;have hs3 := hb3.size;have HG := Lib.hid hRg; clear hRg;have HRB := Lib.hid hRb; clear hRb;have HR2' := Lib.hid (HR2.out.below hb3 HR2.out.lt);have HR3' := Lib.hid (HR3.out.below hb3 HR3.out.lt);have HB3 : Hid (Below w.heap.size w w3) := Lib.hid (HB2.out.trans (hb3.mono HB2.out.size));clear hb3 HR2 HR3 HB2;go_wp2_with fail
 refine (wpIn_wide (n := 6)).1 ?_;have hne : w1.heap.size ≠ o := by omega
 have hI0 : zbP w3 w3.heap.size w1.heap.size o r [] w3 := ⟨HR3'.out, by simpa [z2z] using HR2'.out, fun z hz => by simp at hz, by simp, Chg.refl _ _⟩;have HI0 := Lib.hid hI0; clear hI0;refine zae (S := fun k => k = w1.heap.size ∨ k = o) (N := r) (Sx := HandS r c xs) (E := HandE w3.heap.size) (I := zbP w3 w3.heap.size w1.heap.size o r) (gf := 138) (lb := #[.pointer (some ⟨g, 0, none⟩)]) (encs := NR.enc) rfl (enters_of Tryz.func138 (by kernel_rfl) rfl) (fun _ => rfl) ?hE ?hIl ?hIb HI0.out
  (fun x => { tmps := #[.agg #[.int .i64 (r : Int), .int .i64 (c : Int), .slice ao xs.length cap], .pointer (some ⟨w.heap.size, 0, none⟩), .slice none 0 0, .pointer (some ⟨w1.heap.size, 0, none⟩), undef, .slice (some ⟨x.2.blk, 0, none⟩) x.2.xs.length x.2.cap, .pointer (some ⟨w.heap.size, 0, none⟩), .int .i64 (r : Int), .slice (some ⟨o, 0, none⟩) 0 r, .agg #[.int .i64 (r : Int), .int .i64 (c : Int), .slice ao xs.length cap], .func (.func 138) #[] #[.pointer (some ⟨g, 0, none⟩)], .int .i64 (x.1 : Int), .slice (some ⟨x.2.blk, 0, none⟩) x.2.xs.length x.2.cap, undef, undef, undef, undef, undef], defers := [] })
  ?hseq ?assign ?body ?done
 case hE =>
  intro s x W l o1 o2 h hl ho hn;exact ⟨z45 ho hn h.1, h.2⟩
 case hIl =>
  intro s W l o1 o2 h hl ho hn;exact ⟨z2M ho hn h.box, z2M ho hn h.row, fun z hz => ⟨z45 ho hn (h.nums z hz).1, (h.nums z hz).2⟩, h.nd, ⟨h.chg.os, h.chg.tape, h.chg.output, by have := h.chg.size; simpa using this, fun k hk hs => (World.putObj_heap_other (by omega)).trans (h.chg.block k hk hs)⟩⟩
 case hIb =>
  intro s A B h hb;exact ⟨h.box.below hb h.box.lt, h.row.below hb h.row.lt, fun z hz => ⟨(h.nums z hz).1.below hb, (h.nums z hz).2⟩, h.nd, h.chg.below hb⟩
 case hseq =>
  intro l J W hW hJ hY hJ0;refine (z90 5 g b r c xs w3 (fun k => k = w1.heap.size ∨ k = o) ?_ HG.out (by omega) HRB.out (by omega) HS.out (by omega) (by omega) hL l J W hW hJ hY hJ0 (by omega));rintro q (rfl | rfl)
  · exact ⟨_, _, HR3'.out, NoW.slice NoW.nil⟩
  · exact ⟨_, _, HR2'.out, fun v hv n => by simp at hv; simp [hv.2]⟩
 case assign =>
  intro l x W K hK;simp only [NR.enc]
  gi_wp2
  exact hK
 case body =>
  rintro l pre x W hI hE hlen;have hoW := hI.row.lt;have hbW := hI.box.lt;have hlenR : (z2z r pre).length = r := by simp [z2z]; omega
  have hA : ∀ X : Obj, z00 (W.alloc X) o 22 (z2z r pre) := fun X => hI.row.alloc X;have hAb : ∀ X : Obj, z00 (W.alloc X) w1.heap.size 82 [.slice (some ⟨o, 0, none⟩) pre.length r] := fun X => hI.box.alloc X;have c0 : W.cell? ⟨w1.heap.size, 0, none⟩ = some (.slice (some ⟨o, 0, none⟩) pre.length r) := hI.box.cell 0;have f0 : W.frozen? ⟨w1.heap.size, 0, none⟩ = false := hI.box.free 0;have HI := Lib.hid hI; clear hI;have HE := Lib.hid hE; clear hE
  gi_wp2_with (gi_at_builtin; refine z8O rfl _ _ 82 rfl 22 (.slice none 0 0) 1 24 Tryz.underlying82 z77 o 0 pre.length r ⟨W.heap.size, 0, none⟩ 1 1 [x.2.hdr] rfl rfl rfl (cell_one_new _ _ _) (by simp [Value.oneCell', Hd.hdr]) (by omega) (fun j hj => by simp at hj; subst hj; rw [(hA _).cell]; simp [hlenR, hlen]) (fun j hj => by simp at hj; subst hj; exact (hA _).free _) ?_; simp only [Nat.zero_add, Nat.mul_one, World.setCells]; have hrW := (hA (.cells #[x.2.hdr] 22)).set pre.length x.2.hdr; have hrB := (hAb (.cells #[x.2.hdr] 22)).other (p := ⟨o, pre.length, none⟩) hne x.2.hdr; skip)
  have hI := HI.out;have hE := HE.out;have hsw := hI.chg.size;have hrW' := hI.row.set pre.length x.2.hdr;have hrB' := hI.box.other (p := ⟨o, pre.length, none⟩) hne x.2.hdr;have hNo : NoW (z2z r pre) := fun v hv n => by
   simp only [z2z, List.mem_append, List.mem_map, List.mem_replicate] at hv;rcases hv with ⟨z, _, rfl⟩ | ⟨_, rfl⟩ <;> simp [Hd.hdr]
  obtain ⟨Wf, hWf⟩ : ∃ Wf, (W.setCell ⟨o, pre.length, none⟩ x.2.hdr).setCell ⟨w1.heap.size, 0, none⟩ (.slice (some ⟨o, 0, none⟩) (pre.length + 1) r) = Wf := ⟨_, rfl⟩;rw [hWf];have hsf : Wf.heap.size = W.heap.size := by rw [<- hWf]; simp
  have hbl : Below Wf.heap.size Wf (Wf.alloc (.cells #[.slice (some ⟨x.2.blk, 0, none⟩) x.2.xs.length x.2.cap] 22)) := (Below.refl _ _).alloc (Nat.le_refl _) _;have hnum : ∀ y : NR, z0c W y.2.blk y.2.xs -> z0c Wf y.2.blk y.2.xs := by
   intro y hy;rw [<- hWf];exact (hy.z2k hI.row (by decide) hNo pre.length x.2.hdr).z2k hrB' (by decide) (NoW.slice NoW.nil) 0 _
  refine ⟨?_, ?_, ?_⟩
  · rw [<- hWf]; exact ((KeepsOthers.setCell _ _ _).trans (KeepsOthers.setCell _ _ _)).trans (KeepsOthers.alloc _ _)
  · refine z2E.trans (b := Wf) ?_ (z2E.z0K (hbl.mono (by omega)));rw [<- hWf];refine ⟨rfl, rfl, rfl, by simp, fun k hk hs => ?_⟩;exact (Below.heap_setCell _ _ _ _ (fun e => hs (.inl e))).trans (Below.heap_setCell _ _ _ _ (fun e => hs (.inr e)))
  · have hbx : z00 Wf w1.heap.size 82 [.slice (some ⟨o, 0, none⟩) (pre.length + 1) r] := by
     rw [<- hWf]; exact hrB'.set 0 (.slice (some ⟨o, 0, none⟩) (pre.length + 1) r)
    have hrw : z00 Wf o 22 (z2z r (pre ++ [x])) := by
     have h1 := hrW'.other (p := ⟨w1.heap.size, 0, none⟩) (fun e => hne e.symm) (.slice (some ⟨o, 0, none⟩) (pre.length + 1) r);have e : (z2z r pre).set pre.length x.2.hdr = z2z r (pre ++ [x]) := by
      unfold z2z;obtain ⟨q, hq⟩ : ∃ q, r - pre.length = q + 1 := ⟨r - pre.length - 1, by omega⟩;have hq2 : r - (pre ++ [x]).length = q := by simp; omega
      rw [hq, hq2, List.replicate_succ, List.set_append_right _ _ (by simp)];simp
     rw [<- e, <- hWf]; exact h1
    refine ⟨?_, hrw.below hbl hrw.lt, ?_, ?_, ?_⟩
    · have := hbx.below hbl hbx.lt;simpa using this
    · intro z hz;rcases List.mem_append.1 hz with hz | hz
      · exact ⟨(hnum z (hI.nums z hz).1).below hbl, (hI.nums z hz).2⟩
      · simp only [List.mem_singleton] at hz; subst hz;exact ⟨(hnum z hE.1).below hbl, hE.2.1⟩
    · rw [List.map_append, List.nodup_append];refine ⟨hI.nd, by simp, fun u hu v hv => ?_⟩;simp only [List.map_cons, List.map_nil, List.mem_singleton] at hv;obtain ⟨y, hy, rfl⟩ := List.mem_map.1 hu;subst hv;exact hE.2.2 y hy
    · refine Chg.below ?_ hbl;rw [<- hWf];exact (hI.chg.set (p := ⟨o, pre.length, none⟩) (.inr rfl) _).set (p := ⟨w1.heap.size, 0, none⟩) (.inl rfl) _
 case done =>
  rintro D zs W hD hS hI hK;have hl : zs.length = r := hS.1;have c0 : W.cell? ⟨w1.heap.size, 0, none⟩ = some (.slice (some ⟨o, 0, none⟩) zs.length r) := hI.box.cell 0;have HI := Lib.hid hI; clear hI;simp only [Exit.inBlock];go_wp2;refine ⟨by simp, .inl ⟨_, _, rfl, run_takeDeferred hK, ?_⟩⟩;refine ⟨_, results_tmp rfl _ _ _, ?_⟩;have hI := HI.out;have hS2 := hS.2;have hrow : z00 W o 22 (zs.map (fun z => z.2.hdr)) := by
   have := hI.row;unfold z2z at this;rw [hl, Nat.sub_self] at this;simpa using this
  refine ⟨⟨o, zs.map (fun z => z.2), ?_, ⟨?_, ?_, ?_⟩, by simp [hl], ?_, by omega, ?_, by rw [List.map_map]; exact z2M hK rfl hrow, fun k hk => by rw [List.getElem_map, hS2 k (by simpa using hk)]⟩, ?_⟩
  · simp [hl]
  · rw [List.map_map]; exact (z2M hK rfl hrow).pre
  · intro h hh;obtain ⟨z, hz, rfl⟩ := List.mem_map.1 hh;exact z45 hK rfl (hI.nums z hz).1
  · rw [List.map_map]; exact hI.nd
  · intro k hk;have hk' : k < zs.length := by simpa using hk
    have := hS2 k hk';rw [List.getElem_map, this]
  · intro x hx;obtain ⟨z, hz, rfl⟩ := List.mem_map.1 hx;have := (hI.nums z hz).2;have := HB3.out.size;omega
  · refine HB3.out.trans ?_;refine (hI.chg.z2S (B := w.heap.size) ?_ HB3.out.size).trans ⟨rfl, rfl, rfl, by simp, fun k hk => World.putObj_heap_other (by have := HB3.out.size; omega)⟩;rintro k (rfl | rfl) <;> omega
theorem zb7 (r c : Nat) (ao : Option Addr) (len cap : Nat) (xs : List Int) (w : World) (hr : r <= 64) (hc : c <= 64) (h : z0F w 17592186044415 ao xs) (hL : ∀ x ∈ xs, z04 x.natAbs <= 17592186044415) (hl : len = xs.length) (hs : xs.length = r * c) :
 CallsIn Fence.wide 6 Tryz.prog 43 #[.agg #[.int .i64 (r : Int), .int .i64 (c : Int), .slice ao len cap]] w fun e w' => (∃ o R, e = .returned (.slice (some ⟨o, 0, none⟩) R.length r) /\ z0V w' o R /\ R.length = r /\ (∀ k (h : k < R.length), R[k].xs = rowOf xs c k) /\ w.heap.size <= o /\ (∀ x ∈ R, w.heap.size <= x.blk)) /\ Below w.heap.size w w' :=
 (z6E r c ao len cap xs w hr hc h hL hl hs).mono (fun e w' ⟨⟨o, R, h1, h2, h3, h4, h5, h6, _⟩, hb⟩ => ⟨⟨o, R, h1, h2, h3, h4, h5, h6⟩, hb⟩)
theorem zbv (n : Nat) : NoW (Builtin.zeroCells (Value.agg #[.bool false, .slice none 0 0]).cells n).toList := by
 have e : (Value.agg #[.bool false, .slice none 0 0]).cells = #[.bool false, .slice none 0 0] := rfl;rw [e];intro v hv k;unfold Builtin.zeroCells at hv;simp only [Array.toList_map, List.mem_map, Array.mem_toList_iff, Array.mem_range] at hv;obtain ⟨i, _, rfl⟩ := hv;have h2 : i % 2 = 0 ∨ i % 2 = 1 := by omega
 rcases h2 with h2 | h2 <;> simp [h2]
theorem zdy {w : World} {ops : Array Oper} {rest : List Oper} {o : Oper} {a : Act} {Q : Exit -> Act -> World -> Prop} (hg : o.guard = none) (s x : Operand)
 (hop : o.op = Op.call { callee := Callee.builtin Builtin.append, args := #[s, x], argTypes := #[22, 22] })
 (b1 b2 c n k2 : Nat) (xs ys : List Int) (h1 : z0c w b1 xs) (h2 : z0c w b2 ys) (hx : xs.length = c) (hy : ys.length = n) (hn : 0 < n) (hb : c + n <= 1000)
 (hs : a.eval s = .slice (some ⟨b1, 0, none⟩) c c) (hv : a.eval x = .slice (some ⟨b2, 0, none⟩) n k2)
 (hK : ∀ cap' w', z0c w' w.heap.size (xs ++ ys) -> Below w.heap.size w w' -> c + n <= cap' -> wpList Tryz.prog ops Q rest (a.put o.dst (.slice (some ⟨w.heap.size, 0, none⟩) (c + n) cap')) w') :
 wpList Tryz.prog ops Q (o :: rest) a w := by
 obtain ⟨ps, tl, nt, hr, hl, hp⟩ := h1;obtain ⟨qs, ul, nu, hr2, hl2, hq⟩ := h2;obtain ⟨i, hi, hz, hsz, hby⟩ := info_parts z4k;have f1 := z1E ps;have f2 := z1E qs;have ad : ∀ (b j : Nat), (⟨b, 0, none⟩ : Addr).add j = ⟨b, j, none⟩ := fun b j => by unfold Addr.add; simp; omega
 refine wpList_plain hg fun K hK' => ?_;have hrun := run_append_grow (P := Tryz.prog) (w := w) 22 o.type 45 i (.agg #[.bool false, .slice none 0 0]) Tryz.underlying22 hi hz ⟨b1, 0, none⟩ c c (flat ps) (by rw [hsz]; omega)
  (fun j u hj => by rw [ad, hr.cell, List.getElem?_append_left (List.getElem?_eq_some_iff.1 hj).1]; exact hj) ⟨b2, 0, none⟩ n k2 (flat qs) (by rw [hsz]; omega)
  (fun j u hj => by rw [ad, hr2.cell, List.getElem?_append_left (List.getElem?_eq_some_iff.1 hj).1]; exact hj) (by omega) (by omega) (growslice_fits (by omega) (by rw [hby]; omega))
 simp [Oper.wp, Oper.about, hop, resolve, Target.leads, Sem.run_pure, execOp, invoke, builtin, hs, hv, hrun, Result.andThen];have hbl : Below w.heap.size w (w.drew.alloc (.cells ((flat ps).toArray ++ (flat qs).toArray ++ Builtin.zeroCells (Value.agg #[.bool false, .slice none 0 0]).cells (grownCap w (c + n) c 45 - (c + n))) 45)) := ⟨rfl, rfl, rfl, by simp, fun q hq => heap_alloc_old w.drew _ hq⟩;refine hK' _ _ (hK _ _ ?_ ?_ (grownCap_ge ..))
 · have hnew := z00.new w.drew ((flat ps).toArray ++ (flat qs).toArray ++ Builtin.zeroCells (Value.agg #[.bool false, .slice none 0 0]).cells (grownCap w (c + n) c 45 - (c + n))) 45;refine ⟨ps ++ qs, (Builtin.zeroCells (Value.agg #[.bool false, .slice none 0 0]).cells (grownCap w (c + n) c 45 - (c + n))).toList, zbv _, ?_, by simp [hl, hl2], fun j hj hj' => ?_⟩
   · rw [z6e];simpa using hnew
   · have hz : z0n w (av ((ps ++ qs)[j])) ((xs ++ ys)[j]) := by
      by_cases e : j < ps.length
      · rw [List.getElem_append_left e, List.getElem_append_left (by omega)];exact hp j e (by omega)
      · rw [List.getElem_append_right (by omega), List.getElem_append_right (by omega)];have e2 : j - ps.length = j - xs.length := by omega
        have := hq (j - ps.length) (by simp at hj; omega) (by simp at hj; omega);simp only [e2] at this ⊢;exact this
     have := hz.below hbl;simpa using this
 · simpa using hbl
theorem z8T : ∀ {xs : List Int} {j : Nat} (_ : lead xs = j) (hj : j < xs.length), xs[j] ≠ 0
 | x :: xs, j, h, hj => by
  unfold lead at h;by_cases h0 : x = 0
  · rw [if_pos h0] at h;subst h;simpa using z8T (xs := xs) rfl (by simpa using hj)
  · rw [if_neg h0] at h;subst h;simpa using h0
theorem z0n.sign {w : World} {p : P4} {x : Int} (h : z0n w (av p) x) (hx : x ≠ 0) : p.1 = decide (x < 0) := by
 obtain ⟨n, ao, len, cap, ws, he, hW, hl, hL, hc, rfl⟩ := h.1;unfold av at he;have : p.1 = n := by injection he with he; simp at he; exact he.1
 rw [this];exact z5e hx
def z0L (R : List Hd) (i : Nat) : List Hd := if h : i < R.length then z1A R i h else R
def swapT (R : List Hd) (i j : Nat) : List Hd := if h : i < R.length /\ j < R.length then z1O R i j h.1 h.2 else R
theorem z2W {R : List Hd} {i : Nat} (hi : i < R.length) : z0L R i = z1A R i hi := by unfold z0L; rw [dif_pos hi]
theorem z1L {R : List Hd} {i j : Nat} (hi : i < R.length) (hj : j < R.length) : swapT R i j = z1O R i j hi hj := by unfold swapT; rw [dif_pos ⟨hi, hj⟩]
theorem z2I (R : List Hd) (i : Nat) : (z0L R i).length = R.length := by
 unfold z0L; split
 · unfold z1A; rw [z06]
 · rfl
theorem z0G (R : List Hd) (i j : Nat) : (swapT R i j).length = R.length := by
 unfold swapT; split
 · exact z0w ..
 · rfl
theorem z9e (R : List Hd) (i j : Nat) (a b c d : Int) : (z4G R i j a b c d).length = R.length := by
 unfold z4G; split
 · unfold z2i; rw [z06, z06]
 · rfl
theorem z3D (R : List Hd) (k n j : Nat) : (z1m R k n j).length = R.length := by
 unfold z1m z0A; split
 · exact z1n ..
 · rw [z9e]; exact z1n ..
def z0u (at_ : Nat) : Nat -> List Hd -> List Hd
 | 0, R => R
 | i + 1, R => if i + 1 <= at_ then R else z0u at_ i (swapT R (i + 1) i)
inductive z4n (B c n : Nat) : Nat -> Int -> List Hd -> Bool -> List Hd -> Prop
 | zero {at_ : Nat} {last : Int} {R R' : List Hd} (hF : Fit B c R) (h : z0r R n = c ∨ (z0r R n : Int) <= last) (hs : z3m B c (z1K R n) n n R R') : z4n B c n at_ last R false R'
 | stop {at_ : Nat} {last : Int} {R R' : List Hd} (hF : Fit B c R) (h1 : z0r R n < c) (h2 : last < z0r R n) (a : Nat) (ha : at_ <= a) (hn : a <= n) (hlt : ∀ i, at_ <= i -> i < a -> z0r R i < z0r R n) (hb : a = n ∨ z0r R n < z0r R a)
  (hF2 : Fit B c (z0u a n (if ent R n (z0r R n) < 0 then z0L R n else R)))
  (hs : z3m B c (z1K (z0u a n (if ent R n (z0r R n) < 0 then z0L R n else R)) (n + 1)) (n + 1) (n + 1) (z0u a n (if ent R n (z0r R n) < 0 then z0L R n else R)) R') : z4n B c n at_ last R true R'
 | meet {at_ : Nat} {last : Int} {R R' : List Hd} {b : Bool} (hF : Fit B c R) (h1 : z0r R n < c) (h2 : last < z0r R n) (a : Nat) (ha : at_ <= a) (hn : a < n) (hlt : ∀ i, at_ <= i -> i < a -> z0r R i < z0r R n) (hj : z0r R a = z0r R n)
  (hp : ent R a (z0r R n) ≠ 0) (hF1 : Fit B c (z0A R a n (z0r R n))) (hp1 : ent (z0A R a n (z0r R n)) a (z0r R n) ≠ 0)
  (hs : z4n B c n a (z0r R n) (z1m R a n (z0r R n)) b R') : z4n B c n at_ last R b R'
theorem z5K (S : LSt) (i k : Nat) : (S.z09 (z0L S.R i)).own k ↔ S.own k := by
 unfold z0L; split
 · exact z2K S i _ k
 · exact Iff.rfl
theorem z6K (S : LSt) (i j : Nat) (x : Int) (k : Nat) : (S.z09 (z32 S.R i j x)).own k ↔ S.own k := by
 unfold z32; split
 · exact z2K S i _ k
 · exact Iff.rfl
theorem zct (S : LSt) (i j : Nat) (a b c d : Int) (k : Nat) : (S.z09 (z4G S.R i j a b c d)).own k ↔ S.own k := by
 unfold z4G; split
 · exact (z2K (S.z09 (z1f S.R i _)) j _ k).trans (z2K S i _ k)
 · exact Iff.rfl
theorem z88 (S : LSt) (a n j k : Nat) : (S.z09 (z1m S.R a n j)).own k ↔ S.own k := by
 unfold z1m z0A; split
 · exact z6K S n a _ k
 · exact (zct (S.z09 (z32 S.R n a _)) a n _ _ _ _ k).trans (z6K S n a _ k)
theorem z2L (S : LSt) (i j k : Nat) : (S.z09 (swapT S.R i j)).own k ↔ S.own k := by
 unfold swapT; split
 · rename_i h;exact or_congr (z2p (fun b => z5W h.1 h.2 b) k) Iff.rfl
 · exact Iff.rfl
set_option maxRecDepth 100000 in
set_option maxHeartbeats 8000000 in
theorem Put_c (S : LSt) (n B c : Nat) (res : Bool) (R' : List Hd) (w : World) (h : z0b w S) (hn : n < S.R.length) (hB : B <= 4000000000000) (hP : z4n B c n 0 (-1) S.R res R') (hR : S.R.length <= 100000) (hc : c <= 1000000) (hT : S.sat B c) :
 Calls Tryz.prog 112 #[.pointer (some ⟨S.lb, 0, none⟩), .int .i64 (n : Int)] w fun e w' => e = .returned (.bool res) /\ z0b w' (S.z09 R') /\ Chg S.own w w' := by
 have HT := Lib.hid hT; clear hT;have HL := Lib.hid h; clear h;have HP := Lib.hid hP; clear hP;go_enter Tryz.func112, Tryz.ntmps112;go_wp2;go_loopw [5, 6] (fun a_ l_ wr => ∃ (at_ : Nat) (last : Int) (R : List Hd), at_ <= n /\ (-1 <= last /\ last <= (c : Int)) /\ a_ = .int .i64 (at_ : Int) /\ l_ = .int .i64 last /\ Hid (R.length = S.R.length) /\ Hid (z4n B c n at_ last R res R') /\ Hid (z0b wr (S.z09 R)) /\ Hid (Chg S.own w wr) /\ Hid (∀ k, (S.z09 R).own k ↔ S.own k)) (fun _ l_ _ => ((c : Int) - intOf l_).toNat)
 case atStart => exact ⟨0, -1, S.R, Nat.zero_le _, ⟨by omega, by omega⟩, rfl, rfl, rfl, HP, HL, Chg.refl .., fun _ => Iff.rfl⟩
 case round =>
  obtain ⟨at_, last, R, hat, ⟨hl1, hl2⟩, rfl, rfl, hRl, hPt, hL, hC, hO⟩ := hrel;have hnR : n < R.length := by have := hRl.out; omega
  have hF : Hid (Fit B c R) := by
   have := hPt.out;cases this with
   | zero hF _ _ => exact hF
   | stop hF _ _ _ _ _ _ _ _ _ => exact hF
   | meet hF _ _ _ _ _ _ _ _ _ _ _ => exact hF
  have hcn : R[n].xs.length = c := hF.out.len _ (List.getElem_mem hnR);have hlead : z0r R n = lead R[n].xs := z3r hnR;have hle := z8M R[n].xs;have hn1 : (n : Int) < (R.length : Int) := by omega
  have cb : wr.cell? ⟨S.lb, 0, none⟩ = some (.slice (some ⟨S.o, 0, none⟩) R.length S.cap) := hL.out.lad.cell 0;have cn : wr.cell? ⟨S.o, n, none⟩ = some (.slice (some ⟨R[n].blk, 0, none⟩) R[n].xs.length R[n].cap) := hL.out.mat.hdr (i := n) hnR;rw [hcn] at cn hle;have Hcn := Lib.hid hcn; clear hcn;have Hlead := Lib.hid hlead; clear hlead;go_wp2_with fail
  have hLd := z5T R[n].blk R[n].cap R[n].xs wr (hL.out.mat.row _ (List.getElem_mem (l := R) hnR)) (fun x hx => by have := hF.out.fit _ (List.getElem_mem hnR) x hx; omega) (by rw [Hcn.out]; omega);rw [Hcn.out] at hLd;refine hLd.mono ?_;rintro e w2 ⟨rfl, hb2⟩;have L2 := Lib.hid (hL.out.below hb2);have C2 := Lib.hid (hC.out.below hb2);clear hLd hL hC hb2 cb cn;have cb : w2.cell? ⟨S.lb, 0, none⟩ = some (.slice (some ⟨S.o, 0, none⟩) R.length S.cap) := L2.out.lad.cell 0;have cn : w2.cell? ⟨S.o, n, none⟩ = some (.slice (some ⟨R[n].blk, 0, none⟩) R[n].xs.length R[n].cap) := L2.out.mat.hdr (i := n) hnR;rw [Hcn.out] at cn;obtain ⟨jj, hjj⟩ : ∃ jj, lead R[n].xs = jj := ⟨_, rfl⟩;rw [hjj] at hle ⊢;have hPj := hPt.out;have hld := Hlead.out;rw [hjj] at hld;have Hld := Lib.hid hld; clear hld;by_cases hz : jj = c ∨ (jj : Int) <= last
  · have hfin : res = false /\ z3m B c (z1K R n) n n R R' := by
     cases hPj with
     | zero _ _ hs => exact ⟨rfl, hs⟩
     | stop _ h1 h2 _ _ _ _ _ _ _ => rw [Hld.out] at h1 h2; omega
     | meet _ h1 h2 _ _ _ _ _ _ _ _ _ => rw [Hld.out] at h1 h2; omega
    obtain ⟨rfl, hs⟩ := hfin;have HSO := Lib.hid hs; clear hs;clear hPj hPt;by_cases hz1 : jj = c
    · have hz2 : ((jj : Int) == (c : Int)) = true := by rw [hz1]; simp
      obtain ⟨j2, hj2⟩ : ∃ j2, j2 = jj := ⟨_, rfl⟩;have hz3 : (jj : Int) = (c : Int) := by omega
      have Hz1 := Lib.hid hz1;clear hz hz1 hz2 hj2;go_wp2_with fail
      refine (z3t (S.z09 R) n B c R' _ L2.out (Nat.le_of_lt hnR) (by omega) hF.out HSO.out (by show R.length <= 1000000; have := hRl.out; omega) hc HT.out).mono ?_;rintro e w3 ⟨rfl, hL3, hC3⟩;have CF := Lib.hid (C2.out.trans (hC3.mono (fun q _ e => (hO.out q).1 e)));have LF := Lib.hid hL3;clear hL3 hC3;go_wp2;go_ret;exact ⟨rfl, LF.out, CF.out⟩
    · have hz3 : ¬ (jj : Int) = (c : Int) := by omega
      have hz2 : ((jj : Int) == (c : Int)) = false := beq_eq_false_iff_ne.2 hz3;have hz4 : (jj : Int) <= last := by omega
      have Hz1 := Lib.hid hz1;clear hz hz1;go_wp2_with fail
      refine (z3t (S.z09 R) n B c R' _ L2.out (Nat.le_of_lt hnR) (by omega) hF.out HSO.out (by show R.length <= 1000000; have := hRl.out; omega) hc HT.out).mono ?_;rintro e w3 ⟨rfl, hL3, hC3⟩;have CF := Lib.hid (C2.out.trans (hC3.mono (fun q _ e => (hO.out q).1 e)));have LF := Lib.hid hL3;clear hL3 hC3;go_wp2;go_ret;exact ⟨rfl, LF.out, CF.out⟩
  · have hz3 : ¬ (jj : Int) = (c : Int) := by omega
    have hz2 : ((jj : Int) == (c : Int)) = false := beq_eq_false_iff_ne.2 hz3;have hz4 : ¬ (jj : Int) <= last := by omega
    have hjc : jj < c := by omega
    have hjl : last < (jj : Int) := by omega
    have Hjj := Lib.hid hjj; clear hjj;clear hz hPj;go_wp2;clear hz2 hz3 hz4 cb cn;go_loopw [5] (fun a_ wq => ∃ a : Nat, at_ <= a /\ a <= n /\ a_ = .int .i64 (a : Int) /\ Hid (∀ i, at_ <= i -> i < a -> z0r R i < jj) /\ Hid (z0b wq (S.z09 R)) /\ Hid (Chg S.own w wq)) (fun a_ _ => n - (intOf a_).toNat)
    case atStart => exact ⟨at_, Nat.le_refl _, hat, rfl, fun i h1 h2 => by omega, L2, C2⟩
    case round =>
     obtain ⟨a, ha1, ha2, rfl, hlt, hLq, hCq⟩ := hrel;by_cases han : a < n
     · have haR : a < R.length := by omega
       have han1 : (a : Int) < (n : Int) := by omega
       have haR1 : (a : Int) < (R.length : Int) := by omega
       have cb : wr.cell? ⟨S.lb, 0, none⟩ = some (.slice (some ⟨S.o, 0, none⟩) R.length S.cap) := hLq.out.lad.cell 0;have ca : wr.cell? ⟨S.o, a, none⟩ = some (.slice (some ⟨R[a].blk, 0, none⟩) R[a].xs.length R[a].cap) := hLq.out.mat.hdr (i := a) haR;go_wp2_with fail
       refine (z5T R[a].blk R[a].cap R[a].xs _ (hLq.out.mat.row _ (List.getElem_mem (l := R) haR)) (fun x hx => by have := hF.out.fit _ (List.getElem_mem haR) x hx; omega) (by rw [hF.out.len _ (List.getElem_mem haR)]; omega)).mono ?_;rintro e w3 ⟨rfl, hb3⟩;have L3 := Lib.hid (hLq.out.below hb3);have C3 := Lib.hid (hCq.out.below hb3);clear hLq hCq hb3 cb ca;obtain ⟨la, hla⟩ : ∃ la, lead R[a].xs = la := ⟨_, rfl⟩;have hla2 : z0r R a = la := (z3r haR).trans hla;rw [hla];have Hla := Lib.hid hla2; clear hla hla2;by_cases hlj : la < jj
       · have hlj1 : (la : Int) < (jj : Int) := by omega
         go_wp2;go_roundw
         case rel => exact ⟨a + 1, by omega, by omega, by go_num, Lib.hid (fun i h1 h2 => (Nat.lt_succ_iff_lt_or_eq.1 h2).elim (fun h => hlt.out i h1 h) (fun h => by subst h; rw [Hla.out]; exact hlj)), L3, C3⟩
         case measure => simp [intOf]; omega
       · have hlj1 : ¬ (la : Int) < (jj : Int) := by omega
         have haR2 : (a : Int) < (R.length : Int) := by omega
         have cb : w3.cell? ⟨S.lb, 0, none⟩ = some (.slice (some ⟨S.o, 0, none⟩) R.length S.cap) := L3.out.lad.cell 0;have ca : w3.cell? ⟨S.o, a, none⟩ = some (.slice (some ⟨R[a].blk, 0, none⟩) R[a].xs.length R[a].cap) := L3.out.mat.hdr (i := a) haR;have hanb : ((a : Int) == (n : Int)) = false := beq_eq_false_iff_ne.2 (by omega);have hane : ¬ (a : Int) = (n : Int) := by omega
         go_wp2_with fail
         refine (z5T R[a].blk R[a].cap R[a].xs _ (L3.out.mat.row _ (List.getElem_mem (l := R) haR)) (fun x hx => by have := hF.out.fit _ (List.getElem_mem haR) x hx; omega) (by rw [hF.out.len _ (List.getElem_mem haR)]; omega)).mono ?_;rintro e w4 ⟨rfl, hb4⟩;have L4 := Lib.hid (L3.out.below hb4);have C4 := Lib.hid (C3.out.below hb4);clear L3 C3 hb4 cb ca;have hla3 : lead R[a].xs = la := (z3r haR).symm.trans Hla.out;rw [hla3];clear hla3;by_cases hlaj : la = jj
         · have hcase : ent R a jj ≠ 0 /\ Fit B c (z0A R a n jj) /\ ent (z0A R a n jj) a jj ≠ 0 /\ z4n B c n a (jj : Int) (z1m R a n jj) res R' := by
            have hPj := hPt.out;have hx := hlt.out;have hl := Hla.out;have hd := Hld.out;cases hPj with
            | zero _ h _ => rw [hd] at h; omega
            | stop _ h1 h2 a' ha' hn' hlt' hb' _ _ =>
             rw [hd] at hlt' hb';rcases Nat.lt_trichotomy a' a with h | h | h
             · have := hx a' ha' h; omega
             · subst h; omega
             · have := hlt' a ha1 h; omega
            | meet _ h1 h2 a' ha' hn' hlt' hj' hp hF1 hp1 hs =>
             rw [hd] at hlt' hj' hp hF1 hp1 hs;have haa : a' = a := by
              rcases Nat.lt_trichotomy a' a with h | h | h
              · have := hx a' ha' h; omega
              · exact h
              · have := hlt' a ha1 h; omega
             subst haa;exact ⟨hp, hF1, hp1, hs⟩
           obtain ⟨m1, m2, m3, m4⟩ := hcase;have M4 := Lib.hid m4; clear m4;have hlb : ((la : Int) != (jj : Int)) = false := by rw [hlaj]; simp
           have hle2 : (la : Int) = (jj : Int) := by omega
           have Hlaj := Lib.hid hlaj; clear hlaj;have hmt := Meet_c (S.z09 R) a n jj B c w4 L4.out haR hnR (by omega) hjc hB hF.out m2 m1 m3 (by show R.length <= 1000000; have := hRl.out; omega) hc HT.out;have HMt := Lib.hid hmt;clear m1 m2 m3 hmt;go_wp2_with fail
           refine HMt.out.mono ?_;rintro e w5 ⟨rfl, hL5, hC5⟩;have L5 := Lib.hid hL5;have C5 := Lib.hid (C4.out.trans (hC5.mono (fun q _ e => (hO.out q).1 e)));clear hL5 hC5 hlb hle2 hanb hane;go_wp2;go_roundw
           case rel => exact ⟨a, (jj : Int), z1m R a n jj, by omega, ⟨by omega, by omega⟩, by go_num, by go_num, Lib.hid ((z3D ..).trans hRl.out), M4, L5, C5, Lib.hid (fun q => (z88 (S.z09 R) a n jj q).trans (hO.out q))⟩
           case measure =>
            simp only [intOf];omega
         · have hbr : a = n ∨ jj < z0r R a := by have := Hla.out; omega
           have Hbr := Lib.hid hbr; clear hbr;have hlb : ((la : Int) != (jj : Int)) = true := by rw [bne_iff_ne]; omega
           have hle2 : ¬ (la : Int) = (jj : Int) := by omega
           clear hlaj;have hstop : res = true /\ Fit B c (z0u a n (if ent R n jj < 0 then z0L R n else R)) /\ z3m B c (z1K (z0u a n (if ent R n jj < 0 then z0L R n else R)) (n + 1)) (n + 1) (n + 1) (z0u a n (if ent R n jj < 0 then z0L R n else R)) R' := by
            have hPj := hPt.out;have hx := hlt.out;have hd := Hld.out;have hbr := Hbr.out;cases hPj with
            | zero _ h _ => rw [hd] at h; omega
            | stop _ h1 h2 a' ha' hn' hlt' hb' hF2 hs =>
             rw [hd] at hlt' hb' hF2 hs;have haa : a' = a := by
              rcases Nat.lt_trichotomy a' a with h | h | h
              · have := hx a' ha' h; omega
              · exact h
              · have := hlt' a ha1 h; omega
             subst haa;exact ⟨rfl, hF2, hs⟩
            | meet _ h1 h2 a' ha' hn' hlt' hj' hp hF1 hp1 hs =>
             rw [hd] at hlt' hj';rcases Nat.lt_trichotomy a' a with h | h | h
             · have := hx a' ha' h; omega
             · subst h; omega
             · have := hlt' a ha1 h; omega
           obtain ⟨rfl, hF2, hs2⟩ := hstop;have HF2 := Lib.hid hF2; clear hF2;have HS2 := Lib.hid hs2; clear hs2;have hXn := L4.out.mat.row _ (List.getElem_mem (l := R) hnR);have hjn : jj < R[n].xs.length := by rw [Hcn.out]; exact hjc
           obtain ⟨pn, cp0, cp1, hpn⟩ := hXn.get hjn;have hx0 : R[n].xs[jj] ≠ 0 := z8T Hjj.out hjn;have hsg := hpn.sign hx0;have heN := z2x hnR hjn;have HXn := Lib.hid hXn; clear hXn;have Hsg := Lib.hid hsg; clear hsg;have HeN := Lib.hid heN; clear heN;clear hpn hx0;have cb : w4.cell? ⟨S.lb, 0, none⟩ = some (.slice (some ⟨S.o, 0, none⟩) R.length S.cap) := L4.out.lad.cell 0;have cn : w4.cell? ⟨S.o, n, none⟩ = some (.slice (some ⟨R[n].blk, 0, none⟩) R[n].xs.length R[n].cap) := L4.out.mat.hdr (i := n) hnR;have sb1 := HXn.out.lt;have sb3 : S.lb < w4.heap.size := L4.out.lad.lt;have sb4 : S.o < w4.heap.size := L4.out.mat.out.lt;have hjn1 : (jj : Int) < (R[n].xs.length : Int) := by omega
           go_wp2;refine z0S ⟨18, fun q_ => [73, 74, 75, 76, 77, 78, 79, 80, 81, 82, 83, 84, 85, 86, 87, 88, 89, 90].getD q_ 0,
            fun q_ => [.val (.pointer (some ⟨S.lb, 0, none⟩)), .val (.pointer (some ⟨S.lb, 0, none⟩)), .val (.pointer (some ⟨S.lb, 0, none⟩)), .val (.slice (some ⟨S.o, 0, none⟩) R.length S.cap), .val (.int .i64 (n : Int)), .val (.pointer (some ⟨S.o, n, none⟩)), .val (.slice (some ⟨R[n].blk, 0, none⟩) R[n].xs.length R[n].cap), .val (.pointer (some ⟨S.lb, 0, none⟩)), .val (.pointer (some ⟨S.lb, 0, none⟩)), .val (.pointer (some ⟨S.lb, 0, none⟩)), .val (.slice (some ⟨S.o, 0, none⟩) R.length S.cap), .val (.int .i64 (n : Int)), .val (.pointer (some ⟨S.o, n, none⟩)), .val (.slice (some ⟨R[n].blk, 0, none⟩) R[n].xs.length R[n].cap), .val (.int .i64 (jj : Int)), .val (.pointer (some ⟨R[n].blk, jj * 2, none⟩)), .val (.pointer (some ⟨R[n].blk, jj * 2, none⟩)), .val (.bool pn.1)].getD q_ .any,
            [],
            [],
            [],
            [], [(⟨S.lb, 0, none⟩, .slice (some ⟨S.o, 0, none⟩) R.length S.cap), (⟨S.o, n, none⟩, .slice (some ⟨R[n].blk, 0, none⟩) R[n].xs.length R[n].cap), (⟨R[n].blk, jj * 2, none⟩, .bool pn.1)], []⟩ [73, 74, 75, 76, 77, 78, 79, 80, 81, 82, 83, 84, 85, 86, 87, 88, 89, 90] (w4.heap.size) (by kernel_rfl) (by kernel_rfl) (by kernel_rfl) (by kernel_rfl) ?_ ?_ ?_ ?_ ?_ ?_
           · intro p hp;cases hp
           · intro p hp;cases hp
           · intro p hp;rcases mc hp with rfl | hp
             · refine ⟨cb, by show S.lb < w4.heap.size; omega, ?_⟩;intro t ht;cases ht
             rcases mc hp with rfl | hp
             · refine ⟨cn, by show S.o < w4.heap.size; omega, ?_⟩;intro t ht;cases ht
             rcases mc hp with rfl | hp
             · refine ⟨cp0, by show R[n].blk < w4.heap.size; omega, ?_⟩;intro t ht;cases ht
             cases hp
           · intro t ht;cases ht
           · refine z02 ?_ (z02 ?_ (z02 ?_ (z02 ?_ (z02 ?_ (z02 ?_ (z02 ?_ (z02 ?_ (z02 ?_ (z02 ?_ (z02 ?_ (z02 ?_ (z02 ?_ (z02 ?_ (z02 ?_ (z02 ?_ (z02 ?_ (z02 ?_ z2v)))))))))))))))));any_goals (first | (intro L fx w' hJ hL hp hcl; have _ := hp0 hp (by decide +kernel); refine wps rfl fun K hK => ?_; go_simp; exact hJ.q hK (by kernel_rfl) rfl) | fail)
             · intro L fx w' hJ hL hp hcl;have e0 := hJ.pt 0 73 (.pointer (some ⟨S.lb, 0, none⟩)) rfl rfl rfl (hp 0 (by decide));rw [e0] at hJ ⊢; clear e0;refine wps rfl fun K hK => ?_;go_simp;exact hJ.q hK (by kernel_rfl) rfl
             · intro L fx w' hJ hL hp hcl;have e1 := hJ.pt 1 74 (.pointer (some ⟨S.lb, 0, none⟩)) rfl rfl rfl (hp 1 (by decide));rw [e1] at hJ ⊢; clear e1;refine wps rfl fun K hK => ?_;go_simp;exact hJ.q hK (by kernel_rfl) rfl
             · intro L fx w' hJ hL hp hcl;have e2 := hJ.pt 2 75 (.pointer (some ⟨S.lb, 0, none⟩)) rfl rfl rfl (hp 2 (by decide));rw [e2] at hJ ⊢; clear e2;refine wps rfl fun K hK => ?_;have cl0 := (hJ.cells _ mm0).1;try dsimp only at cl0
               go_simp;exact hJ.q hK (by kernel_rfl) rfl
             · intro L fx w' hJ hL hp hcl;have e3 := hJ.pt 3 76 (.slice (some ⟨S.o, 0, none⟩) R.length S.cap) rfl rfl rfl (hp 3 (by decide));rw [e3] at hJ ⊢; clear e3;have e4 := hJ.pt 4 77 (.int .i64 (n : Int)) rfl rfl rfl (hp 4 (by decide));rw [e4] at hJ ⊢; clear e4;refine wps rfl fun K hK => ?_;go_simp;exact hJ.q hK (by kernel_rfl) rfl
             · intro L fx w' hJ hL hp hcl;have e5 := hJ.pt 5 78 (.pointer (some ⟨S.o, n, none⟩)) rfl rfl rfl (hp 5 (by decide));rw [e5] at hJ ⊢; clear e5;refine wps rfl fun K hK => ?_;have cl0 := (hJ.cells _ mm1).1;try dsimp only at cl0
               go_simp;exact hJ.q hK (by kernel_rfl) rfl
             · intro L fx w' hJ hL hp hcl;have e7 := hJ.pt 7 80 (.pointer (some ⟨S.lb, 0, none⟩)) rfl rfl rfl (hp 7 (by decide));rw [e7] at hJ ⊢; clear e7;refine wps rfl fun K hK => ?_;go_simp;exact hJ.q hK (by kernel_rfl) rfl
             · intro L fx w' hJ hL hp hcl;have e8 := hJ.pt 8 81 (.pointer (some ⟨S.lb, 0, none⟩)) rfl rfl rfl (hp 8 (by decide));rw [e8] at hJ ⊢; clear e8;refine wps rfl fun K hK => ?_;go_simp;exact hJ.q hK (by kernel_rfl) rfl
             · intro L fx w' hJ hL hp hcl;have e9 := hJ.pt 9 82 (.pointer (some ⟨S.lb, 0, none⟩)) rfl rfl rfl (hp 9 (by decide));rw [e9] at hJ ⊢; clear e9;refine wps rfl fun K hK => ?_;have cl0 := (hJ.cells _ mm0).1;try dsimp only at cl0
               go_simp;exact hJ.q hK (by kernel_rfl) rfl
             · intro L fx w' hJ hL hp hcl;have e10 := hJ.pt 10 83 (.slice (some ⟨S.o, 0, none⟩) R.length S.cap) rfl rfl rfl (hp 10 (by decide));rw [e10] at hJ ⊢; clear e10;have e11 := hJ.pt 11 84 (.int .i64 (n : Int)) rfl rfl rfl (hp 11 (by decide));rw [e11] at hJ ⊢; clear e11;refine wps rfl fun K hK => ?_;go_simp;exact hJ.q hK (by kernel_rfl) rfl
             · intro L fx w' hJ hL hp hcl;have e12 := hJ.pt 12 85 (.pointer (some ⟨S.o, n, none⟩)) rfl rfl rfl (hp 12 (by decide));rw [e12] at hJ ⊢; clear e12;refine wps rfl fun K hK => ?_;have cl0 := (hJ.cells _ mm1).1;try dsimp only at cl0
               go_simp;exact hJ.q hK (by kernel_rfl) rfl
             · intro L fx w' hJ hL hp hcl;have e13 := hJ.pt 13 86 (.slice (some ⟨R[n].blk, 0, none⟩) R[n].xs.length R[n].cap) rfl rfl rfl (hp 13 (by decide));rw [e13] at hJ ⊢; clear e13;refine wps rfl fun K hK => ?_;go_simp;go_at_call 46;refine (z5T R[n].blk R[n].cap R[n].xs _ (z0c.below (w := w4.drew) HXn.out hJ.fr) (fun x hx => by have := hF.out.fit _ (List.getElem_mem hnR) x hx; omega) (by rw [Hcn.out]; omega)).mono ?_;rintro e w4 ⟨rfl, hb4⟩;try dsimp only
               rw [Hjj.out];exact hK _ _ ⟨_, by kernel_rfl, hJ.gC 14 rfl (by kernel_rfl) hb4 rfl (by omega)⟩
             · intro L fx w' hJ hL hp hcl;have e6 := hJ.pt 6 79 (.slice (some ⟨R[n].blk, 0, none⟩) R[n].xs.length R[n].cap) rfl rfl rfl (hp 6 (by decide));rw [e6] at hJ ⊢; clear e6;have e14 := hJ.pt 14 87 (.int .i64 (jj : Int)) rfl rfl rfl (hp 14 (by decide));rw [e14] at hJ ⊢; clear e14;refine wps rfl fun K hK => ?_;go_simp;exact hJ.q hK (by kernel_rfl) rfl
             · intro L fx w' hJ hL hp hcl;have e15 := hJ.pt 15 88 (.pointer (some ⟨R[n].blk, jj * 2, none⟩)) rfl rfl rfl (hp 15 (by decide));rw [e15] at hJ ⊢; clear e15;refine wps rfl fun K hK => ?_;go_simp;exact hJ.q hK (by kernel_rfl) rfl
             · intro L fx w' hJ hL hp hcl;have e16 := hJ.pt 16 89 (.pointer (some ⟨R[n].blk, jj * 2, none⟩)) rfl rfl rfl (hp 16 (by decide));rw [e16] at hJ ⊢; clear e16;refine wps rfl fun K hK => ?_;have cl0 := (hJ.cells _ mm2).1;try dsimp only at cl0
               go_simp;exact hJ.q hK (by kernel_rfl) rfl
           · intro L' x1 w7 hL hJ;have hfr : Below w4.drew.heap.size w4.drew w7 := hJ.fr;have e17 : x1 90 = .bool pn.1 := hJ.slot 17 (by show 17 < 18; decide) (hL 17 (by show 17 < 18; decide));rw [z07 (x := x1) (d := 90) (v := .bool pn.1) e17];clear hJ hL e17 cb cn cp0 cp1;have L7 := Lib.hid (z0b.below (w := w4.drew) L4.out.drew hfr);have C7 := Lib.hid (C4.out.drew.below hfr);clear hfr;simp only [pN, Nat.reduceEqDiff, ↓reduceIte];cases hneg : pn.1
             · have hif : (if ent R n jj < 0 then z0L R n else R) = R := if_neg (by
                have := Hsg.out; rw [hneg] at this; rw [HeN.out]; simpa using this.symm)
               have HRF := Lib.hid HF2.out; have HSF := Lib.hid HS2.out;rw [hif] at HRF HSF;clear hif;obtain ⟨RF, hRF⟩ : ∃ RF, z0u a n R = RF := ⟨_, rfl⟩;rw [hRF] at HRF HSF;have HRFe := Lib.hid hRF; clear hRF;go_wp2;go_loopw [8] (fun i_ wq => ∃ (i : Nat) (R8 : List Hd), i <= n /\ a <= i /\ i_ = .int .i64 (i : Int) /\ Hid (z0u a i R8 = RF) /\ Hid (R8.length = S.R.length) /\ Hid (z0b wq (S.z09 R8)) /\ Hid (Chg S.own w wq) /\ Hid (∀ k, (S.z09 R8).own k ↔ S.own k)) (fun i_ _ => (intOf i_).toNat)
               case atStart => exact ⟨n, R, Nat.le_refl _, ha2, rfl, HRFe, hRl, L7, C7, hO⟩
               case round =>
                obtain ⟨i, R8, hin, hai, rfl, hSw, hR8, hL8, hC8, hO8⟩ := hrel;by_cases hia : a < i
                · obtain ⟨i', rfl⟩ : ∃ i', i = i' + 1 := ⟨i - 1, by omega⟩;have hi8 : i' + 1 < R8.length := by have := hR8.out; have := hRl.out; omega
                  have hi8' : i' < R8.length := by omega
                  have hia1 : (a : Int) < ((i' + 1 : Nat) : Int) := by omega
                  have hcast : ((i' + 1 : Nat) : Int) - 1 = (i' : Int) := by omega
                  have hms := z5k (S.z09 R8) (i' + 1) i' wr hL8.out hi8 hi8' (by omega) (HT.out.z4H R8);have HMs := Lib.hid hms; clear hms;have hcast2 : ((i' + 1 : Nat) : Int) = (i' : Int) + 1 := by omega
                  rw [hcast2] at hia1 hcast HMs ⊢;clear hcast2;have hia2 : (a : Int) < (i' : Int) + 1 := hia1;have hcast3 : (i' : Int) + 1 - 1 = (i' : Int) := by omega
                  go_wp2_with fail
                  refine HMs.out.mono ?_;rintro e w9 ⟨rfl, hL9, hC9⟩;have L9 := Lib.hid hL9;have C9 := Lib.hid (hC8.out.trans (hC9.mono (fun q _ e => (hO8.out q).1 e)));clear hL9 hC9;go_wp2;go_roundw
                  case rel =>
                   refine ⟨i', swapT R8 (i' + 1) i', by omega, by omega, by go_num, ?_, Lib.hid ((z0G ..).trans hR8.out), ?_, C9, Lib.hid (fun q => (z2L (S.z09 R8) (i' + 1) i' q).trans (hO8.out q))⟩
                   · have := hSw.out;unfold z0u at this;rw [if_neg (by omega)] at this;exact this
                   · rw [z1L hi8 hi8']; exact L9
                  case measure => simp only [intOf]; omega
                · obtain rfl : i = a := by omega
                  have hR8F : R8 = RF := by
                   have := hSw.out;cases i with
                   | zero => exact this
                   | succ q => unfold z0u at this; rw [if_pos (Nat.le_refl _)] at this; exact this
                  subst hR8F;have hset := z3t (S.z09 R8) (n + 1) B c R' wr hL8.out (by show n + 1 <= R8.length; have := hR8.out; omega) (by omega) HRF.out HSF.out (by show R8.length <= 1000000; have := hR8.out; omega) hc HT.out;have HSet := Lib.hid hset; clear hset;have hcn1 : ((n + 1 : Nat) : Int) = (n : Int) + 1 := by omega
                  rw [hcn1] at HSet;clear hcn1;have hgt : ¬ (i : Int) > (i : Int) := by omega
                  go_wp2_with fail
                  refine HSet.out.mono ?_;rintro e w9 ⟨rfl, hL9, hC9⟩;have L9 := Lib.hid hL9;have C9 := Lib.hid (hC8.out.trans (hC9.mono (fun q _ e => (hO8.out q).1 e)));clear hL9 hC9;go_wp2;go_ret;exact ⟨rfl, L9.out, C9.out⟩
             · have hif : (if ent R n jj < 0 then z0L R n else R) = z0L R n := if_pos (by
                have := Hsg.out; rw [hneg] at this; rw [HeN.out]; simpa using this.symm)
               have hlenN : R[n].xs.length <= 4611686018427387903 := by rw [Hcn.out]; omega
               have hmt := zaJ (S.z09 R) n w7 L7.out hnR (fun x hx => by have := hF.out.fit _ (List.getElem_mem hnR) x hx; omega) hlenN (HT.out.z4H R) (HT.out.okR hF.out);have HMt := Lib.hid hmt; clear hmt;go_wp2_with fail
               refine HMt.out.mono ?_;rintro e w8 ⟨rfl, hL8, hC8⟩;have C8 := Lib.hid (C7.out.trans (hC8.mono (fun q _ e => (hO.out q).1 e)));have L8 : Hid (z0b w8 (S.z09 (z0L R n))) := by rw [z2W hnR]; exact hL8
               have O8 : Hid (∀ k, (S.z09 (z0L R n)).own k ↔ S.own k) := fun q => (z5K (S.z09 R) n q).trans (hO.out q);have N8 : Hid ((z0L R n).length = S.R.length) := (z2I ..).trans hRl.out;clear hL8 hC8;have HRF := Lib.hid HF2.out; have HSF := Lib.hid HS2.out;rw [hif] at HRF HSF;clear hif;obtain ⟨RF, hRF⟩ : ∃ RF, z0u a n (z0L R n) = RF := ⟨_, rfl⟩;rw [hRF] at HRF HSF;have HRFe := Lib.hid hRF; clear hRF;go_wp2;go_loopw [8] (fun i_ wq => ∃ (i : Nat) (R8 : List Hd), i <= n /\ a <= i /\ i_ = .int .i64 (i : Int) /\ Hid (z0u a i R8 = RF) /\ Hid (R8.length = S.R.length) /\ Hid (z0b wq (S.z09 R8)) /\ Hid (Chg S.own w wq) /\ Hid (∀ k, (S.z09 R8).own k ↔ S.own k)) (fun i_ _ => (intOf i_).toNat)
               case atStart => exact ⟨n, (z0L R n), Nat.le_refl _, ha2, rfl, HRFe, N8, L8, C8, O8⟩
               case round =>
                obtain ⟨i, R8, hin, hai, rfl, hSw, hR8, hL8, hC8, hO8⟩ := hrel;by_cases hia : a < i
                · obtain ⟨i', rfl⟩ : ∃ i', i = i' + 1 := ⟨i - 1, by omega⟩;have hi8 : i' + 1 < R8.length := by have := hR8.out; have := hRl.out; omega
                  have hi8' : i' < R8.length := by omega
                  have hia1 : (a : Int) < ((i' + 1 : Nat) : Int) := by omega
                  have hcast : ((i' + 1 : Nat) : Int) - 1 = (i' : Int) := by omega
                  have hms := z5k (S.z09 R8) (i' + 1) i' wr hL8.out hi8 hi8' (by omega) (HT.out.z4H R8);have HMs := Lib.hid hms; clear hms;have hcast2 : ((i' + 1 : Nat) : Int) = (i' : Int) + 1 := by omega
                  rw [hcast2] at hia1 hcast HMs ⊢;clear hcast2;have hia2 : (a : Int) < (i' : Int) + 1 := hia1;have hcast3 : (i' : Int) + 1 - 1 = (i' : Int) := by omega
                  go_wp2_with fail
                  refine HMs.out.mono ?_;rintro e w9 ⟨rfl, hL9, hC9⟩;have L9 := Lib.hid hL9;have C9 := Lib.hid (hC8.out.trans (hC9.mono (fun q _ e => (hO8.out q).1 e)));clear hL9 hC9;go_wp2;go_roundw
                  case rel =>
                   refine ⟨i', swapT R8 (i' + 1) i', by omega, by omega, by go_num, ?_, Lib.hid ((z0G ..).trans hR8.out), ?_, C9, Lib.hid (fun q => (z2L (S.z09 R8) (i' + 1) i' q).trans (hO8.out q))⟩
                   · have := hSw.out;unfold z0u at this;rw [if_neg (by omega)] at this;exact this
                   · rw [z1L hi8 hi8']; exact L9
                  case measure => simp only [intOf]; omega
                · obtain rfl : i = a := by omega
                  have hR8F : R8 = RF := by
                   have := hSw.out;cases i with
                   | zero => exact this
                   | succ q => unfold z0u at this; rw [if_pos (Nat.le_refl _)] at this; exact this
                  subst hR8F;have hset := z3t (S.z09 R8) (n + 1) B c R' wr hL8.out (by show n + 1 <= R8.length; have := hR8.out; omega) (by omega) HRF.out HSF.out (by show R8.length <= 1000000; have := hR8.out; omega) hc HT.out;have HSet := Lib.hid hset; clear hset;have hcn1 : ((n + 1 : Nat) : Int) = (n : Int) + 1 := by omega
                  rw [hcn1] at HSet;clear hcn1;have hgt : ¬ (i : Int) > (i : Int) := by omega
                  go_wp2_with fail
                  refine HSet.out.mono ?_;rintro e w9 ⟨rfl, hL9, hC9⟩;have L9 := Lib.hid hL9;have C9 := Lib.hid (hC8.out.trans (hC9.mono (fun q _ e => (hO8.out q).1 e)));clear hL9 hC9;go_wp2;go_ret;exact ⟨rfl, L9.out, C9.out⟩
     · have hbr : a = n ∨ jj < z0r R a := by omega
       have Hbr := Lib.hid hbr; clear hbr;have hnlt : ¬ (a : Int) < (n : Int) := by omega
       have hanb : ((a : Int) == (n : Int)) = true := by rw [beq_iff_eq]; omega
       have hstop : res = true /\ Fit B c (z0u a n (if ent R n jj < 0 then z0L R n else R)) /\ z3m B c (z1K (z0u a n (if ent R n jj < 0 then z0L R n else R)) (n + 1)) (n + 1) (n + 1) (z0u a n (if ent R n jj < 0 then z0L R n else R)) R' := by
        have hPj := hPt.out;have hx := hlt.out;have hd := Hld.out;have hbr := Hbr.out;cases hPj with
        | zero _ h _ => rw [hd] at h; omega
        | stop _ h1 h2 a' ha' hn' hlt' hb' hF2 hs =>
         rw [hd] at hlt' hb' hF2 hs;have haa : a' = a := by
          rcases Nat.lt_trichotomy a' a with h | h | h
          · have := hx a' ha' h; omega
          · exact h
          · have := hlt' a ha1 h; omega
         subst haa;exact ⟨rfl, hF2, hs⟩
        | meet _ h1 h2 a' ha' hn' hlt' hj' hp hF1 hp1 hs =>
         rw [hd] at hlt' hj';rcases Nat.lt_trichotomy a' a with h | h | h
         · have := hx a' ha' h; omega
         · subst h; omega
         · have := hlt' a ha1 h; omega
       obtain ⟨rfl, hF2, hs2⟩ := hstop;have HF2 := Lib.hid hF2; clear hF2;have HS2 := Lib.hid hs2; clear hs2;have hXn := hLq.out.mat.row _ (List.getElem_mem (l := R) hnR);have hjn : jj < R[n].xs.length := by rw [Hcn.out]; exact hjc
       obtain ⟨pn, cp0, cp1, hpn⟩ := hXn.get hjn;have hx0 : R[n].xs[jj] ≠ 0 := z8T Hjj.out hjn;have hsg := hpn.sign hx0;have heN := z2x hnR hjn;have HXn := Lib.hid hXn; clear hXn;have Hsg := Lib.hid hsg; clear hsg;have HeN := Lib.hid heN; clear heN;clear hpn hx0;have cb : wr.cell? ⟨S.lb, 0, none⟩ = some (.slice (some ⟨S.o, 0, none⟩) R.length S.cap) := hLq.out.lad.cell 0;have cn : wr.cell? ⟨S.o, n, none⟩ = some (.slice (some ⟨R[n].blk, 0, none⟩) R[n].xs.length R[n].cap) := hLq.out.mat.hdr (i := n) hnR;have sb1 := HXn.out.lt;have sb3 : S.lb < wr.heap.size := hLq.out.lad.lt;have sb4 : S.o < wr.heap.size := hLq.out.mat.out.lt;have hjn1 : (jj : Int) < (R[n].xs.length : Int) := by omega
       go_wp2;refine z0S ⟨18, fun q_ => [73, 74, 75, 76, 77, 78, 79, 80, 81, 82, 83, 84, 85, 86, 87, 88, 89, 90].getD q_ 0,
        fun q_ => [.val (.pointer (some ⟨S.lb, 0, none⟩)), .val (.pointer (some ⟨S.lb, 0, none⟩)), .val (.pointer (some ⟨S.lb, 0, none⟩)), .val (.slice (some ⟨S.o, 0, none⟩) R.length S.cap), .val (.int .i64 (n : Int)), .val (.pointer (some ⟨S.o, n, none⟩)), .val (.slice (some ⟨R[n].blk, 0, none⟩) R[n].xs.length R[n].cap), .val (.pointer (some ⟨S.lb, 0, none⟩)), .val (.pointer (some ⟨S.lb, 0, none⟩)), .val (.pointer (some ⟨S.lb, 0, none⟩)), .val (.slice (some ⟨S.o, 0, none⟩) R.length S.cap), .val (.int .i64 (n : Int)), .val (.pointer (some ⟨S.o, n, none⟩)), .val (.slice (some ⟨R[n].blk, 0, none⟩) R[n].xs.length R[n].cap), .val (.int .i64 (jj : Int)), .val (.pointer (some ⟨R[n].blk, jj * 2, none⟩)), .val (.pointer (some ⟨R[n].blk, jj * 2, none⟩)), .val (.bool pn.1)].getD q_ .any,
        [],
        [],
        [],
        [], [(⟨S.lb, 0, none⟩, .slice (some ⟨S.o, 0, none⟩) R.length S.cap), (⟨S.o, n, none⟩, .slice (some ⟨R[n].blk, 0, none⟩) R[n].xs.length R[n].cap), (⟨R[n].blk, jj * 2, none⟩, .bool pn.1)], []⟩ [73, 74, 75, 76, 77, 78, 79, 80, 81, 82, 83, 84, 85, 86, 87, 88, 89, 90] (wr.heap.size) (by kernel_rfl) (by kernel_rfl) (by kernel_rfl) (by kernel_rfl) ?_ ?_ ?_ ?_ ?_ ?_
       · intro p hp;cases hp
       · intro p hp;cases hp
       · intro p hp;rcases mc hp with rfl | hp
         · refine ⟨cb, by show S.lb < wr.heap.size; omega, ?_⟩;intro t ht;cases ht
         rcases mc hp with rfl | hp
         · refine ⟨cn, by show S.o < wr.heap.size; omega, ?_⟩;intro t ht;cases ht
         rcases mc hp with rfl | hp
         · refine ⟨cp0, by show R[n].blk < wr.heap.size; omega, ?_⟩;intro t ht;cases ht
         cases hp
       · intro t ht;cases ht
       · refine z02 ?_ (z02 ?_ (z02 ?_ (z02 ?_ (z02 ?_ (z02 ?_ (z02 ?_ (z02 ?_ (z02 ?_ (z02 ?_ (z02 ?_ (z02 ?_ (z02 ?_ (z02 ?_ (z02 ?_ (z02 ?_ (z02 ?_ (z02 ?_ z2v)))))))))))))))));any_goals (first | (intro L fx w' hJ hL hp hcl; have _ := hp0 hp (by decide +kernel); refine wps rfl fun K hK => ?_; go_simp; exact hJ.q hK (by kernel_rfl) rfl) | fail)
         · intro L fx w' hJ hL hp hcl;have e0 := hJ.pt 0 73 (.pointer (some ⟨S.lb, 0, none⟩)) rfl rfl rfl (hp 0 (by decide));rw [e0] at hJ ⊢; clear e0;refine wps rfl fun K hK => ?_;go_simp;exact hJ.q hK (by kernel_rfl) rfl
         · intro L fx w' hJ hL hp hcl;have e1 := hJ.pt 1 74 (.pointer (some ⟨S.lb, 0, none⟩)) rfl rfl rfl (hp 1 (by decide));rw [e1] at hJ ⊢; clear e1;refine wps rfl fun K hK => ?_;go_simp;exact hJ.q hK (by kernel_rfl) rfl
         · intro L fx w' hJ hL hp hcl;have e2 := hJ.pt 2 75 (.pointer (some ⟨S.lb, 0, none⟩)) rfl rfl rfl (hp 2 (by decide));rw [e2] at hJ ⊢; clear e2;refine wps rfl fun K hK => ?_;have cl0 := (hJ.cells _ mm0).1;try dsimp only at cl0
           go_simp;exact hJ.q hK (by kernel_rfl) rfl
         · intro L fx w' hJ hL hp hcl;have e3 := hJ.pt 3 76 (.slice (some ⟨S.o, 0, none⟩) R.length S.cap) rfl rfl rfl (hp 3 (by decide));rw [e3] at hJ ⊢; clear e3;have e4 := hJ.pt 4 77 (.int .i64 (n : Int)) rfl rfl rfl (hp 4 (by decide));rw [e4] at hJ ⊢; clear e4;refine wps rfl fun K hK => ?_;go_simp;exact hJ.q hK (by kernel_rfl) rfl
         · intro L fx w' hJ hL hp hcl;have e5 := hJ.pt 5 78 (.pointer (some ⟨S.o, n, none⟩)) rfl rfl rfl (hp 5 (by decide));rw [e5] at hJ ⊢; clear e5;refine wps rfl fun K hK => ?_;have cl0 := (hJ.cells _ mm1).1;try dsimp only at cl0
           go_simp;exact hJ.q hK (by kernel_rfl) rfl
         · intro L fx w' hJ hL hp hcl;have e7 := hJ.pt 7 80 (.pointer (some ⟨S.lb, 0, none⟩)) rfl rfl rfl (hp 7 (by decide));rw [e7] at hJ ⊢; clear e7;refine wps rfl fun K hK => ?_;go_simp;exact hJ.q hK (by kernel_rfl) rfl
         · intro L fx w' hJ hL hp hcl;have e8 := hJ.pt 8 81 (.pointer (some ⟨S.lb, 0, none⟩)) rfl rfl rfl (hp 8 (by decide));rw [e8] at hJ ⊢; clear e8;refine wps rfl fun K hK => ?_;go_simp;exact hJ.q hK (by kernel_rfl) rfl
         · intro L fx w' hJ hL hp hcl;have e9 := hJ.pt 9 82 (.pointer (some ⟨S.lb, 0, none⟩)) rfl rfl rfl (hp 9 (by decide));rw [e9] at hJ ⊢; clear e9;refine wps rfl fun K hK => ?_;have cl0 := (hJ.cells _ mm0).1;try dsimp only at cl0
           go_simp;exact hJ.q hK (by kernel_rfl) rfl
         · intro L fx w' hJ hL hp hcl;have e10 := hJ.pt 10 83 (.slice (some ⟨S.o, 0, none⟩) R.length S.cap) rfl rfl rfl (hp 10 (by decide));rw [e10] at hJ ⊢; clear e10;have e11 := hJ.pt 11 84 (.int .i64 (n : Int)) rfl rfl rfl (hp 11 (by decide));rw [e11] at hJ ⊢; clear e11;refine wps rfl fun K hK => ?_;go_simp;exact hJ.q hK (by kernel_rfl) rfl
         · intro L fx w' hJ hL hp hcl;have e12 := hJ.pt 12 85 (.pointer (some ⟨S.o, n, none⟩)) rfl rfl rfl (hp 12 (by decide));rw [e12] at hJ ⊢; clear e12;refine wps rfl fun K hK => ?_;have cl0 := (hJ.cells _ mm1).1;try dsimp only at cl0
           go_simp;exact hJ.q hK (by kernel_rfl) rfl
         · intro L fx w' hJ hL hp hcl;have e13 := hJ.pt 13 86 (.slice (some ⟨R[n].blk, 0, none⟩) R[n].xs.length R[n].cap) rfl rfl rfl (hp 13 (by decide));rw [e13] at hJ ⊢; clear e13;refine wps rfl fun K hK => ?_;go_simp;go_at_call 46;refine (z5T R[n].blk R[n].cap R[n].xs _ (z0c.below (w := wr.drew) HXn.out hJ.fr) (fun x hx => by have := hF.out.fit _ (List.getElem_mem hnR) x hx; omega) (by rw [Hcn.out]; omega)).mono ?_;rintro e w4 ⟨rfl, hb4⟩;try dsimp only
           rw [Hjj.out];exact hK _ _ ⟨_, by kernel_rfl, hJ.gC 14 rfl (by kernel_rfl) hb4 rfl (by omega)⟩
         · intro L fx w' hJ hL hp hcl;have e6 := hJ.pt 6 79 (.slice (some ⟨R[n].blk, 0, none⟩) R[n].xs.length R[n].cap) rfl rfl rfl (hp 6 (by decide));rw [e6] at hJ ⊢; clear e6;have e14 := hJ.pt 14 87 (.int .i64 (jj : Int)) rfl rfl rfl (hp 14 (by decide));rw [e14] at hJ ⊢; clear e14;refine wps rfl fun K hK => ?_;go_simp;exact hJ.q hK (by kernel_rfl) rfl
         · intro L fx w' hJ hL hp hcl;have e15 := hJ.pt 15 88 (.pointer (some ⟨R[n].blk, jj * 2, none⟩)) rfl rfl rfl (hp 15 (by decide));rw [e15] at hJ ⊢; clear e15;refine wps rfl fun K hK => ?_;go_simp;exact hJ.q hK (by kernel_rfl) rfl
         · intro L fx w' hJ hL hp hcl;have e16 := hJ.pt 16 89 (.pointer (some ⟨R[n].blk, jj * 2, none⟩)) rfl rfl rfl (hp 16 (by decide));rw [e16] at hJ ⊢; clear e16;refine wps rfl fun K hK => ?_;have cl0 := (hJ.cells _ mm2).1;try dsimp only at cl0
           go_simp;exact hJ.q hK (by kernel_rfl) rfl
       · intro L' x1 w7 hL hJ;have hfr : Below wr.drew.heap.size wr.drew w7 := hJ.fr;have e17 : x1 90 = .bool pn.1 := hJ.slot 17 (by show 17 < 18; decide) (hL 17 (by show 17 < 18; decide));rw [z07 (x := x1) (d := 90) (v := .bool pn.1) e17];clear hJ hL e17 cb cn cp0 cp1;have L7 := Lib.hid (z0b.below (w := wr.drew) hLq.out.drew hfr);have C7 := Lib.hid (hCq.out.drew.below hfr);clear hfr;simp only [pN, Nat.reduceEqDiff, ↓reduceIte];cases hneg : pn.1
         · have hif : (if ent R n jj < 0 then z0L R n else R) = R := if_neg (by
            have := Hsg.out; rw [hneg] at this; rw [HeN.out]; simpa using this.symm)
           have HRF := Lib.hid HF2.out; have HSF := Lib.hid HS2.out;rw [hif] at HRF HSF;clear hif;obtain ⟨RF, hRF⟩ : ∃ RF, z0u a n R = RF := ⟨_, rfl⟩;rw [hRF] at HRF HSF;have HRFe := Lib.hid hRF; clear hRF;go_wp2;go_loopw [8] (fun i_ wq => ∃ (i : Nat) (R8 : List Hd), i <= n /\ a <= i /\ i_ = .int .i64 (i : Int) /\ Hid (z0u a i R8 = RF) /\ Hid (R8.length = S.R.length) /\ Hid (z0b wq (S.z09 R8)) /\ Hid (Chg S.own w wq) /\ Hid (∀ k, (S.z09 R8).own k ↔ S.own k)) (fun i_ _ => (intOf i_).toNat)
           case atStart => exact ⟨n, R, Nat.le_refl _, ha2, rfl, HRFe, hRl, L7, C7, hO⟩
           case round =>
            obtain ⟨i, R8, hin, hai, rfl, hSw, hR8, hL8, hC8, hO8⟩ := hrel;by_cases hia : a < i
            · obtain ⟨i', rfl⟩ : ∃ i', i = i' + 1 := ⟨i - 1, by omega⟩;have hi8 : i' + 1 < R8.length := by have := hR8.out; have := hRl.out; omega
              have hi8' : i' < R8.length := by omega
              have hia1 : (a : Int) < ((i' + 1 : Nat) : Int) := by omega
              have hcast : ((i' + 1 : Nat) : Int) - 1 = (i' : Int) := by omega
              have hms := z5k (S.z09 R8) (i' + 1) i' wr hL8.out hi8 hi8' (by omega) (HT.out.z4H R8);have HMs := Lib.hid hms; clear hms;have hcast2 : ((i' + 1 : Nat) : Int) = (i' : Int) + 1 := by omega
              rw [hcast2] at hia1 hcast HMs ⊢;clear hcast2;have hia2 : (a : Int) < (i' : Int) + 1 := hia1;have hcast3 : (i' : Int) + 1 - 1 = (i' : Int) := by omega
              go_wp2_with fail
              refine HMs.out.mono ?_;rintro e w9 ⟨rfl, hL9, hC9⟩;have L9 := Lib.hid hL9;have C9 := Lib.hid (hC8.out.trans (hC9.mono (fun q _ e => (hO8.out q).1 e)));clear hL9 hC9;go_wp2;go_roundw
              case rel =>
               refine ⟨i', swapT R8 (i' + 1) i', by omega, by omega, by go_num, ?_, Lib.hid ((z0G ..).trans hR8.out), ?_, C9, Lib.hid (fun q => (z2L (S.z09 R8) (i' + 1) i' q).trans (hO8.out q))⟩
               · have := hSw.out;unfold z0u at this;rw [if_neg (by omega)] at this;exact this
               · rw [z1L hi8 hi8']; exact L9
              case measure => simp only [intOf]; omega
            · obtain rfl : i = a := by omega
              have hR8F : R8 = RF := by
               have := hSw.out;cases i with
               | zero => exact this
               | succ q => unfold z0u at this; rw [if_pos (Nat.le_refl _)] at this; exact this
              subst hR8F;have hset := z3t (S.z09 R8) (n + 1) B c R' wr hL8.out (by show n + 1 <= R8.length; have := hR8.out; omega) (by omega) HRF.out HSF.out (by show R8.length <= 1000000; have := hR8.out; omega) hc HT.out;have HSet := Lib.hid hset; clear hset;have hcn1 : ((n + 1 : Nat) : Int) = (n : Int) + 1 := by omega
              rw [hcn1] at HSet;clear hcn1;have hgt : ¬ (i : Int) > (i : Int) := by omega
              go_wp2_with fail
              refine HSet.out.mono ?_;rintro e w9 ⟨rfl, hL9, hC9⟩;have L9 := Lib.hid hL9;have C9 := Lib.hid (hC8.out.trans (hC9.mono (fun q _ e => (hO8.out q).1 e)));clear hL9 hC9;go_wp2;go_ret;exact ⟨rfl, L9.out, C9.out⟩
         · have hif : (if ent R n jj < 0 then z0L R n else R) = z0L R n := if_pos (by
            have := Hsg.out; rw [hneg] at this; rw [HeN.out]; simpa using this.symm)
           have hlenN : R[n].xs.length <= 4611686018427387903 := by rw [Hcn.out]; omega
           have hmt := zaJ (S.z09 R) n w7 L7.out hnR (fun x hx => by have := hF.out.fit _ (List.getElem_mem hnR) x hx; omega) hlenN (HT.out.z4H R) (HT.out.okR hF.out);have HMt := Lib.hid hmt; clear hmt;go_wp2_with fail
           refine HMt.out.mono ?_;rintro e w8 ⟨rfl, hL8, hC8⟩;have C8 := Lib.hid (C7.out.trans (hC8.mono (fun q _ e => (hO.out q).1 e)));have L8 : Hid (z0b w8 (S.z09 (z0L R n))) := by rw [z2W hnR]; exact hL8
           have O8 : Hid (∀ k, (S.z09 (z0L R n)).own k ↔ S.own k) := fun q => (z5K (S.z09 R) n q).trans (hO.out q);have N8 : Hid ((z0L R n).length = S.R.length) := (z2I ..).trans hRl.out;clear hL8 hC8;have HRF := Lib.hid HF2.out; have HSF := Lib.hid HS2.out;rw [hif] at HRF HSF;clear hif;obtain ⟨RF, hRF⟩ : ∃ RF, z0u a n (z0L R n) = RF := ⟨_, rfl⟩;rw [hRF] at HRF HSF;have HRFe := Lib.hid hRF; clear hRF;go_wp2;go_loopw [8] (fun i_ wq => ∃ (i : Nat) (R8 : List Hd), i <= n /\ a <= i /\ i_ = .int .i64 (i : Int) /\ Hid (z0u a i R8 = RF) /\ Hid (R8.length = S.R.length) /\ Hid (z0b wq (S.z09 R8)) /\ Hid (Chg S.own w wq) /\ Hid (∀ k, (S.z09 R8).own k ↔ S.own k)) (fun i_ _ => (intOf i_).toNat)
           case atStart => exact ⟨n, (z0L R n), Nat.le_refl _, ha2, rfl, HRFe, N8, L8, C8, O8⟩
           case round =>
            obtain ⟨i, R8, hin, hai, rfl, hSw, hR8, hL8, hC8, hO8⟩ := hrel;by_cases hia : a < i
            · obtain ⟨i', rfl⟩ : ∃ i', i = i' + 1 := ⟨i - 1, by omega⟩;have hi8 : i' + 1 < R8.length := by have := hR8.out; have := hRl.out; omega
              have hi8' : i' < R8.length := by omega
              have hia1 : (a : Int) < ((i' + 1 : Nat) : Int) := by omega
              have hcast : ((i' + 1 : Nat) : Int) - 1 = (i' : Int) := by omega
              have hms := z5k (S.z09 R8) (i' + 1) i' wr hL8.out hi8 hi8' (by omega) (HT.out.z4H R8);have HMs := Lib.hid hms; clear hms;have hcast2 : ((i' + 1 : Nat) : Int) = (i' : Int) + 1 := by omega
              rw [hcast2] at hia1 hcast HMs ⊢;clear hcast2;have hia2 : (a : Int) < (i' : Int) + 1 := hia1;have hcast3 : (i' : Int) + 1 - 1 = (i' : Int) := by omega
              go_wp2_with fail
              refine HMs.out.mono ?_;rintro e w9 ⟨rfl, hL9, hC9⟩;have L9 := Lib.hid hL9;have C9 := Lib.hid (hC8.out.trans (hC9.mono (fun q _ e => (hO8.out q).1 e)));clear hL9 hC9;go_wp2;go_roundw
              case rel =>
               refine ⟨i', swapT R8 (i' + 1) i', by omega, by omega, by go_num, ?_, Lib.hid ((z0G ..).trans hR8.out), ?_, C9, Lib.hid (fun q => (z2L (S.z09 R8) (i' + 1) i' q).trans (hO8.out q))⟩
               · have := hSw.out;unfold z0u at this;rw [if_neg (by omega)] at this;exact this
               · rw [z1L hi8 hi8']; exact L9
              case measure => simp only [intOf]; omega
            · obtain rfl : i = a := by omega
              have hR8F : R8 = RF := by
               have := hSw.out;cases i with
               | zero => exact this
               | succ q => unfold z0u at this; rw [if_pos (Nat.le_refl _)] at this; exact this
              subst hR8F;have hset := z3t (S.z09 R8) (n + 1) B c R' wr hL8.out (by show n + 1 <= R8.length; have := hR8.out; omega) (by omega) HRF.out HSF.out (by show R8.length <= 1000000; have := hR8.out; omega) hc HT.out;have HSet := Lib.hid hset; clear hset;have hcn1 : ((n + 1 : Nat) : Int) = (n : Int) + 1 := by omega
              rw [hcn1] at HSet;clear hcn1;have hgt : ¬ (i : Int) > (i : Int) := by omega
              go_wp2_with fail
              refine HSet.out.mono ?_;rintro e w9 ⟨rfl, hL9, hC9⟩;have L9 := Lib.hid hL9;have C9 := Lib.hid (hC8.out.trans (hC9.mono (fun q _ e => (hO8.out q).1 e)));clear hL9 hC9;go_wp2;go_ret;exact ⟨rfl, L9.out, C9.out⟩
def z6c : Nat -> Nat -> List Hd -> List Hd
 | 0, _, R => R
 | k + 1, i, R => z6c k (i + 1) (swapT R i (i + 1))
inductive z58 (B c : Nat) : Nat -> Nat -> List Hd -> Nat -> List Hd -> Prop
 | fin {d e : Nat} {R : List Hd} (h : e <= d) : z58 B c d e R d R
 | ok {d e k : Nat} {R R1 R' : List Hd} (h : d < e) (hp : z4n B c d 0 (-1) R true R1) (hs : z58 B c (d + 1) e R1 k R') : z58 B c d e R k R'
 | zero {d e k : Nat} {R R1 R' : List Hd} (h : d < e) (hp : z4n B c d 0 (-1) R false R1) (hs : z58 B c d (e - 1) (z6c (e - 1 - d) d R1) k R') : z58 B c d e R k R'
theorem z3m.length {B c : Nat} {ls : List Nat} {n m : Nat} {R R' : List Hd} (h : z3m B c ls n m R R') : R'.length = R.length := by
 induction h with
 | done => rfl
 | step h1 _ ih => rw [ih, h1.length]
theorem z3l (a : Nat) : ∀ (i : Nat) (R : List Hd), (z0u a i R).length = R.length
 | 0, R => rfl
 | i + 1, R => by
  unfold z0u; split
  · rfl
  · rw [z3l a i, z0G]
theorem z4n.length {B c n a : Nat} {l : Int} {R R' : List Hd} {b : Bool} (h : z4n B c n a l R b R') : R'.length = R.length := by
 induction h with
 | zero _ _ hs => exact hs.length
 | stop _ _ _ _ _ _ _ _ _ hs =>
  rw [hs.length, z3l];split
  · exact z2I ..
  · rfl
 | meet _ _ _ _ _ _ _ _ _ _ _ _ ih => rw [ih, z3D]
theorem zcP (S : LSt) (R : List Hd) (i j : Nat) (x : Int) (q : Nat) : (S.z09 (z32 R i j x)).own q ↔ (S.z09 R).own q := z6K (S.z09 R) i j x q
theorem zbG (S : LSt) (R : List Hd) (i q : Nat) : (S.z09 (z0L R i)).own q ↔ (S.z09 R).own q := z5K (S.z09 R) i q
theorem zbt (S : LSt) (R : List Hd) (k n j q : Nat) : (S.z09 (z1m R k n j)).own q ↔ (S.z09 R).own q := z88 (S.z09 R) k n j q
theorem zdC {B c i n k : Nat} {ls : List Nat} {R R' : List Hd} (h : SIn B c ls i n k R R') : ∀ (S : LSt) (q : Nat), (S.z09 R').own q ↔ (S.z09 R).own q := by
 induction h with
 | done _ => exact fun _ _ => Iff.rfl
 | step _ _ _ _ _ ih => exact fun S q => (ih S q).trans (zcP S _ _ _ _ q)
theorem z9F {B c n m : Nat} {ls : List Nat} {R R' : List Hd} (h : z3m B c ls n m R R') : ∀ (S : LSt) (q : Nat), (S.z09 R').own q ↔ (S.z09 R).own q := by
 induction h with
 | done => exact fun _ _ => Iff.rfl
 | step h1 _ ih => exact fun S q => (ih S q).trans (zdC h1 S q)
theorem z7D (a : Nat) : ∀ (i : Nat) (R : List Hd) (S : LSt) (q : Nat), (S.z09 (z0u a i R)).own q ↔ (S.z09 R).own q
 | 0, R, S, q => Iff.rfl
 | i + 1, R, S, q => by
  unfold z0u; split
  · exact Iff.rfl
  · exact (z7D a i _ S q).trans (z2L (S.z09 R) _ _ q)
theorem zbN {B c n a : Nat} {l : Int} {R R' : List Hd} {b : Bool} (h : z4n B c n a l R b R') : ∀ (S : LSt) (q : Nat), (S.z09 R').own q ↔ (S.z09 R).own q := by
 induction h with
 | zero _ _ hs => exact z9F hs
 | stop _ _ _ _ _ _ _ _ _ hs =>
  refine fun S q => (z9F hs S q).trans ((z7D _ _ _ S q).trans ?_);split
  · exact zbG S _ _ q
  · exact Iff.rfl
 | meet _ _ _ _ _ _ _ _ _ _ _ _ ih => exact fun S q => (ih S q).trans (zbt S _ _ _ _ q)
set_option maxRecDepth 100000 in
set_option maxHeartbeats 8000000 in
theorem z99 (S : LSt) (B c k : Nat) (R' : List Hd) (w : World) (h : z0b w S) (hB : B <= 4000000000000) (hP : z58 B c 0 S.R.length S.R k R') (hR : S.R.length <= 100000) (hc : c <= 1000000) (hT : S.sat B c) :
 Calls Tryz.prog 63 #[.pointer (some ⟨S.lb, 0, none⟩)] w fun e w' => e = .returned (.int .i64 (k : Int)) /\ z0b w' (S.z09 R') /\ Chg S.own w w' := by
 have HT := Lib.hid hT; clear hT;have cb : w.cell? ⟨S.lb, 0, none⟩ = some (.slice (some ⟨S.o, 0, none⟩) S.R.length S.cap) := h.lad.cell 0;have HL := Lib.hid h; clear h;have HP := Lib.hid hP; clear hP;go_enter Tryz.func63, Tryz.ntmps63;go_wp2
 go_region_held3 (fun w' => w'.cell? ⟨S.lb, 0, none⟩ = some (.slice (some ⟨S.o, 0, none⟩) S.R.length S.cap)) (first | exact cb) (fail)
 go_wp2;have HL1 := Lib.hid HL.out.drew;have HC1 := Lib.hid (Chg.refl S.own w).drew;clear cb;go_loopw [3, 4] (fun d_ e_ wr => ∃ (d e : Nat) (R : List Hd), d <= e /\ e <= S.R.length /\ d_ = .int .i64 (d : Int) /\ e_ = .int .i64 (e : Int) /\ Hid (z58 B c d e R k R') /\ Hid (R.length = S.R.length) /\ Hid (z0b wr (S.z09 R)) /\ Hid (Chg S.own w wr) /\ Hid (∀ q, (S.z09 R).own q ↔ S.own q)) (fun d_ e_ _ => (intOf e_ - intOf d_).toNat)
 case atStart => exact ⟨0, S.R.length, S.R, Nat.zero_le _, Nat.le_refl _, rfl, rfl, HP, rfl, HL1, HC1, fun _ => Iff.rfl⟩
 case round =>
  obtain ⟨d, e, R, hde, heR, rfl, rfl, hRed, hRl, hL, hC, hO⟩ := hrel;by_cases hd : d < e
  · have hd1 : (d : Int) < (e : Int) := by omega
    have hdR : d < R.length := by have := hRl.out; omega
    have hcase : ∃ b R1, z4n B c d 0 (-1) R b R1 /\ (b = true -> z58 B c (d + 1) e R1 k R') /\ (b = false -> z58 B c d (e - 1) (z6c (e - 1 - d) d R1) k R') := by
     cases hRed.out with
     | fin h => omega
     | ok _ hp hs => exact ⟨true, _, hp, fun _ => hs, fun h => by cases h⟩
     | zero _ hp hs => exact ⟨false, _, hp, fun h => (by cases h), fun _ => hs⟩
    obtain ⟨b, R1, hp, hs1, hs2⟩ := hcase;have hput := Put_c (S.z09 R) d B c b R1 wr hL.out hdR hB hp (by show R.length <= 100000; have := hRl.out; omega) hc HT.out;have HPut := Lib.hid hput;have HR1 := Lib.hid (hp.length.trans hRl.out);have HO1 := Lib.hid (fun q => (zbN hp S q).trans (hO.out q));have HS1 := Lib.hid hs1;have HS2 := Lib.hid hs2;clear hput hp hs1 hs2 hRed;go_wp2_with fail
    refine HPut.out.mono ?_;rintro e' w2 ⟨rfl, hL2, hC2⟩;have L2 := Lib.hid hL2;have C2 := Lib.hid (hC.out.trans (hC2.mono (fun q _ e => (hO.out q).1 e)));clear hL2 hC2 hL hC;cases b
    · have HSF := Lib.hid (HS2.out rfl);have hec : ((e - 1 : Nat) : Int) = (e : Int) - 1 := by omega
      have Hec := Lib.hid hec; clear hec;go_wp2;go_loopw [5] (fun i_ wq => ∃ (i : Nat) (R2 : List Hd), d <= i /\ i <= e - 1 /\ i_ = .int .i64 (i : Int) /\ Hid (z6c (e - 1 - i) i R2 = z6c (e - 1 - d) d R1) /\ Hid (R2.length = S.R.length) /\ Hid (z0b wq (S.z09 R2)) /\ Hid (Chg S.own w wq) /\ Hid (∀ q, (S.z09 R2).own q ↔ S.own q)) (fun i_ _ => ((e : Int) - intOf i_).toNat)
      case atStart => exact ⟨d, R1, Nat.le_refl _, by omega, rfl, rfl, HR1, L2, C2, HO1⟩
      case round =>
       obtain ⟨i, R2, hdi, hie, rfl, hRot, hR2, hL2, hC2, hO2⟩ := hrel;by_cases hi : i < e - 1
       · have hi1 : (i : Int) < (e : Int) - 1 := by omega
         have hiR : i < R2.length := by have := hR2.out; omega
         have hiR1 : i + 1 < R2.length := by have := hR2.out; omega
         have hms := z5k (S.z09 R2) i (i + 1) wr hL2.out hiR hiR1 (by omega) (HT.out.z4H R2);have hcast : ((i + 1 : Nat) : Int) = (i : Int) + 1 := by omega
         rw [hcast] at hms;have HMs := Lib.hid hms; clear hms hcast;go_wp2_with fail
         refine HMs.out.mono ?_;rintro e'' w9 ⟨rfl, hL9, hC9⟩;have L9 := Lib.hid hL9;have C9 := Lib.hid (hC2.out.trans (hC9.mono (fun q _ e => (hO2.out q).1 e)));clear hL9 hC9;go_wp2;go_roundw
         case rel =>
          refine ⟨i + 1, swapT R2 i (i + 1), by omega, by omega, by go_num, ?_, Lib.hid ((z0G ..).trans hR2.out), ?_, C9, Lib.hid (fun q => (z2L (S.z09 R2) i (i + 1) q).trans (hO2.out q))⟩
          · have h2 := hRot.out;have h3 : e - 1 - i = (e - 1 - (i + 1)) + 1 := by omega
            rw [h3] at h2;exact h2
          · rw [z1L hiR hiR1]; exact L9
         case measure => simp only [intOf]; omega
       · have hi1 : ¬ (i : Int) < (e : Int) - 1 := by omega
         have hie2 : e - 1 - i = 0 := by omega
         have hfin : R2 = z6c (e - 1 - d) d R1 := by
          have h2 := hRot.out;rw [hie2] at h2;exact h2
         have HFin := Lib.hid hfin; clear hfin hie2;go_wp2;go_roundw
         case rel =>
          refine ⟨d, e - 1, R2, by omega, by omega, by go_num, by go_num, ?_, hR2, hL2, hC2, hO2⟩;rw [HFin.out];exact HSF
         case measure => simp only [intOf]; omega
    · have HSF := Lib.hid (HS1.out rfl);go_wp2;go_roundw
      case rel => exact ⟨d + 1, e, R1, by omega, by omega, by go_num, by go_num, HSF, HR1, L2, C2, HO1⟩
      case measure => simp only [intOf]; omega
  · have hd1 : ¬ (d : Int) < (e : Int) := by omega
    have hfin : d = k /\ R = R' := by
     cases hRed.out with
     | fin h => exact ⟨rfl, rfl⟩
     | ok h _ _ => omega
     | zero h _ _ => omega
    have HFin := Lib.hid hfin; clear hfin;go_wp2;go_ret;rw [<- HFin.out.1, <- HFin.out.2];exact ⟨rfl, hL.out, hC.out⟩
set_option maxRecDepth 100000 in
set_option maxHeartbeats 4000000 in
theorem z8j (o cap B c k : Nat) (R R' : List Hd) (w : World) (h : z0V w o R) (hB : B <= 4000000000000) (hP : z58 B c 0 R.length R k R') (hR : R.length <= 100000) (hc : c <= 1000000) :
 Calls Tryz.prog 42 #[.slice (some ⟨o, 0, none⟩) R.length cap] w fun e w' => e = .returned (.tuple #[.slice (some ⟨o, 0, none⟩) R'.length cap, .int .i64 (k : Int)]) /\ z0V w' o R' /\ Chg (fun q => q = o ∨ ∃ r ∈ R, r.blk = q) w w' := by
 have HM := Lib.hid h; clear h;have HP := Lib.hid hP; clear hP;go_enter Tryz.func42, Tryz.ntmps42;go_wp2_with fail
 refine (New_c o cap R _ HM.out).mono ?_;rintro e w2 ⟨⟨lb, sb, g, rfl, hL, h1, h2, h3⟩, hb2⟩;have HL := Lib.hid hL; clear hL;have HB2 := Lib.hid hb2; clear hb2;go_wp2_with fail
 refine (z99 ⟨lb, o, sb, g, cap, R, none⟩ B c k R' _ HL.out hB HP.out hR hc (fun t h => by cases h)).mono ?_;rintro e w3 ⟨rfl, hL3, hC3⟩;have L3 := Lib.hid hL3;have C3 : Hid (Chg (fun q => q = o ∨ ∃ r ∈ R, r.blk = q) w w3) := Lib.hid ((Chg.z0K HB2.out).trans (hC3.mono (fun q _ e => by rcases e with e | ⟨t, ht, _⟩; exact e; cases ht)));have cb : w3.cell? ⟨lb, 0, none⟩ = some (.slice (some ⟨o, 0, none⟩) R'.length cap) := L3.out.lad.cell 0;clear hL3 hC3;go_wp2;refine bodyPost_ret (results_tmp2 (t := 2) (u := 3) (by kernel_rfl) _ _ _) rfl ?_;exact ⟨rfl, L3.out.mat, C3.out⟩
theorem z2u {fn : Func} {p : Tmp} (h : fn.results = #[.cell p 24]) (tmps : Array Value) (w : World) (g : Nat) (a b c : Value) (hp : tmps.getD p undef = .pointer (some ⟨g, 0, none⟩)) (hr : z00 w g 24 [a, b, c]) :
 (results fn tmps).run Tryz.prog w = .ok (.agg #[a, b, c]) w :=
 results_cell_row h tmps w g 24 #[a, b, c] (0, 0) _ hp hr Tryz.underlying24 rfl (by kernel_rfl)
structure z3X (w : World) (L o : Nat) (xss : List (List Int)) : Prop where
 lt : o < w.heap.size
 row : ∀ i (h : i < xss.length), ∃ ao cap, w.cell? ⟨o, i, none⟩ = some (.slice ao xss[i].length cap) /\ z0F w L ao xss[i]
theorem z3X.below {w w' : World} {L o : Nat} {xss : List (List Int)} (h : z3X w L o xss) (hb : Below w.heap.size w w') : z3X w' L o xss :=
 ⟨Nat.lt_of_lt_of_le h.lt hb.size, fun i hi => by
  obtain ⟨ao, cap, h1, h2⟩ := h.row i hi;exact ⟨ao, cap, (hb.cell (p := ⟨o, i, none⟩) h.lt).trans h1, h2.below hb⟩⟩
structure z3R (w : World) (b m n c N : Nat) (cu : List Int) (W : World) : Prop where
 box : z00 W m 24 [.int .i64 (n : Int), .int .i64 (c : Int), .slice (some ⟨b, 0, none⟩) cu.length N]
 row : z0c W b (cu ++ List.replicate (N - cu.length) 0)
 res : z00 W w.heap.size 24 [.int .i64 0, .int .i64 0, .slice none 0 0]
 bel : Below w.heap.size w W
theorem z3R.app {w : World} {b m n c N k : Nat} {cu : List Int} {W : World} (h : z3R w b m n c N cu W) (hb : w.heap.size < b /\ b < m) (hk : cu.length = k) (hkN : k + 1 <= N) {p : P4} {x : Int} (hx : z0n W (av p) x) (W2 : World)
 (e : (W.alloc (.cells #[.bool p.1, .slice p.2.1 p.2.2.1 p.2.2.2] 45)).setCells b (k * 2) [.bool p.1, .slice p.2.1 p.2.2.1 p.2.2.2] = W2) :
 z00 W2 m 24 [.int .i64 (n : Int), .int .i64 (c : Int), .slice (some ⟨b, 0, none⟩) k N] /\ z3R w b m n c N (cu ++ [x]) (W2.setCell ⟨m, 2, none⟩ (.slice (some ⟨b, 0, none⟩) (k + 1) N)) := by
 have hb1 : Below W.heap.size W (W.alloc (.cells #[.bool p.1, .slice p.2.1 p.2.2.1 p.2.2.2] 45)) := (Below.refl _ _).alloc (Nat.le_refl _) _;generalize W.alloc (.cells #[.bool p.1, .slice p.2.1 p.2.2.1 p.2.2.2] 45) = W1 at *;subst hk;have hx1 := hx.below hb1;have hr1 := h.row.below hb1;have hm1 := h.box.below hb1 h.box.lt;have hs1 := h.res.below hb1 h.res.lt;have hB1 := h.bel.trans (hb1.mono h.bel.size);have e2 : (W1.setCell ⟨b, cu.length * 2, none⟩ (.bool p.1)).setCell ⟨b, cu.length * 2 + 1, none⟩ (.slice p.2.1 p.2.2.1 p.2.2.2) = W2 := by rw [<- e]; rfl
 have hr2 : z0c W2 b ((cu ++ List.replicate (N - cu.length) 0).set cu.length x) := by rw [<- e2]; exact hr1.set cu.length hx1
 have hne : m ≠ b := by omega
 have hm2 : z00 W2 m 24 [.int .i64 (n : Int), .int .i64 (c : Int), .slice (some ⟨b, 0, none⟩) cu.length N] := by
  rw [<- e2]; exact (hm1.other (p := ⟨b, cu.length * 2, none⟩) hne _).other (p := ⟨b, cu.length * 2 + 1, none⟩) hne _
 have hs2 : z00 W2 w.heap.size 24 [.int .i64 0, .int .i64 0, .slice none 0 0] := by
  rw [<- e2]; exact (hs1.other (p := ⟨b, cu.length * 2, none⟩) (by show w.heap.size ≠ b; omega) _).other (p := ⟨b, cu.length * 2 + 1, none⟩) (by show w.heap.size ≠ b; omega) _
 have hB2 : Below w.heap.size w W2 := by
  rw [<- e2]; exact (hB1.setCell (p := ⟨b, cu.length * 2, none⟩) (Nat.le_of_lt hb.1) _).setCell (p := ⟨b, cu.length * 2 + 1, none⟩) (Nat.le_of_lt hb.1) _
 refine ⟨hm2, ?_, ?_, ?_, ?_⟩
 · have := hm2.set 2 (.slice (some ⟨b, 0, none⟩) (cu.length + 1) N);simpa using this
 · have e3 : (cu ++ List.replicate (N - cu.length) 0).set cu.length x = (cu ++ [x]) ++ List.replicate (N - (cu ++ [x]).length) 0 := by
    obtain ⟨q, hq⟩ : ∃ q, N - cu.length = q + 1 := ⟨N - cu.length - 1, by omega⟩;have hq2 : N - (cu ++ [x]).length = q := by simp; omega
    rw [hq, hq2, List.replicate_succ, List.set_append_right _ _ (Nat.le_refl _)];simp
   rw [<- e3];exact hr2.z2k hm2 (by decide) (NoW.mat (n : Int) (c : Int) _ _ _) 2 _
 · exact hs2.other (p := ⟨m, 2, none⟩) (by show w.heap.size ≠ m; omega) _
 · exact hB2.setCell (p := ⟨m, 2, none⟩) (by show w.heap.size <= m; omega) _
theorem z5H (w : World) (x y : Value) (t : TypeId) : ∀ j u, [x, y][j]? = some u -> (w.alloc (.cells #[x, y] t)).cell? ((⟨w.heap.size, 0, none⟩ : Addr).add j) = some u := by
 intro j u hj;have := (z00.new w #[x, y] t).cell j;have e : ((⟨w.heap.size, 0, none⟩ : Addr).add j) = ⟨w.heap.size, j, none⟩ := by unfold Addr.add; simp; omega
 rw [e, this]; exact hj
theorem z3R.spare {w : World} {b m n c N k : Nat} {cu : List Int} {W : World} (h : z3R w b m n c N cu W) (hk : cu.length = k) (hkN : k + 1 <= N) (X : Obj) (j : Nat) (hj : j < 2) : ((W.alloc X).cell? ⟨b, 0 + k * 2 + j, none⟩).isSome = true /\ (W.alloc X).frozen? ⟨b, 0 + k * 2 + j, none⟩ = false := by
 have hb1 : Below W.heap.size W (W.alloc X) := (Below.refl _ _).alloc (Nat.le_refl _) _;have hr1 := h.row.below hb1;refine ⟨?_, hr1.free _⟩;obtain ⟨q, h0, h1, _⟩ := hr1.get (i := k) (by simp [hk]; omega);have hj2 : j = 0 ∨ j = 1 := by omega
 rcases hj2 with rfl | rfl
 · rw [Nat.zero_add, Nat.add_zero, h0]; rfl
 · rw [Nat.zero_add, h1]; rfl
theorem z3f {xss : List (List Int)} {c : Nat} (hc : ∀ x ∈ xss, x.length = c) : xss.flatten.length = xss.length * c := by
 induction xss with
 | nil => simp
 | cons x xs ih =>
  rw [List.flatten_cons, List.length_append, ih (fun y hy => hc y (List.mem_cons_of_mem _ hy)), hc x (List.mem_cons_self ..), List.length_cons, Nat.succ_mul]; omega
theorem z5Z {xss : List (List Int)} {c i : Nat} (hc : ∀ x ∈ xss, x.length = c) (hi : i <= xss.length) : (xss.take i).flatten.length = i * c := by
 rw [z3f (fun x hx => hc x (List.mem_of_mem_take hx)), List.length_take, Nat.min_eq_left hi]
theorem z5r {xss : List (List Int)} {i : Nat} (hi : i < xss.length) : (xss.take (i + 1)).flatten = (xss.take i).flatten ++ xss[i] := by
 rw [List.take_succ_eq_append_getElem hi, List.flatten_append]; simp
set_option maxRecDepth 100000 in
set_option maxHeartbeats 4000000 in
theorem z3T (o cap n c : Nat) (xss : List (List Int)) (w : World) (h : z3X w 17592186044415 o xss) (hn : xss.length = n) (hc : ∀ x ∈ xss, x.length = c) (hn1 : n <= 10000) (hc1 : c <= 10000) :
 Calls Tryz.prog 44 #[.slice (some ⟨o, 0, none⟩) n cap, .int .i64 (c : Int)] w fun e w' => (∃ b, e = .returned (.agg #[.int .i64 (n : Int), .int .i64 (c : Int), .slice (some ⟨b, 0, none⟩) (n * c) (n * c)]) /\ w.heap.size <= b /\ z0c w' b xss.flatten) /\ Below w.heap.size w w' := by
 have hnc : n * c <= 100000000 := Nat.mul_le_mul hn1 hc1;have hw1 : wrap64 ((n : Int) * (c : Int)) = ((n * c : Nat) : Int) := by
  rw [<- Int.natCast_mul]; unfold wrap64; omega
 obtain ⟨N, hN⟩ : ∃ N, n * c = N := ⟨_, rfl⟩;rw [hN] at hw1 hnc ⊢;have HN := Lib.hid hN; clear hN;have HX := Lib.hid h; clear h;go_enter Tryz.func44, Tryz.ntmps44;go_wp2_with (at_make; refine z5s rfl _ _ rfl 0 N rfl rfl rfl (by omega) (Nat.zero_le _) (by omega) ?_; intro b w1 hm1)
 have hI : z3R w b w1.heap.size n c N [] (w1.alloc (.cells #[.int .i64 (n : Int), .int .i64 (c : Int), .slice (some ⟨b, 0, none⟩) 0 N] 24)) := by
  have h0 := z00.new w #[.int .i64 0, .int .i64 0, .slice none 0 0] 24;have hb0 : Below w.heap.size w (w.alloc (.cells #[.int .i64 0, .int .i64 0, .slice none 0 0] 24)) := (Below.refl _ _).alloc (Nat.le_refl _) _;have hb1 : Below w1.heap.size w1 (w1.alloc (.cells #[.int .i64 (n : Int), .int .i64 (c : Int), .slice (some ⟨b, 0, none⟩) 0 N] 24)) := (Below.refl _ _).alloc (Nat.le_refl _) _;refine ⟨z00.new _ _ _, ?_, ?_, ?_⟩
  · simpa using (z0c.z7u hm1.row).below hb1
  · exact (h0.below hm1.below h0.lt).alloc _
  · exact (hb0.trans (hm1.below.mono hb0.size)).trans (hb1.mono (Nat.le_trans hb0.size hm1.below.size))
 have hbl : w.heap.size < b /\ b < w1.heap.size := by
  have h1 := hm1.at_; have h2 := hm1.size; rw [World.size_alloc] at h1 h2; omega
 have HI := Lib.hid hI; clear hI;clear hm1;generalize w1.alloc (.cells #[.int .i64 (n : Int), .int .i64 (c : Int), .slice (some ⟨b, 0, none⟩) 0 N] 24) = w2 at *;obtain ⟨m, hm⟩ : ∃ m, w1.heap.size = m := ⟨_, rfl⟩;rw [hm] at hbl HI ⊢;clear hm;have HC := Lib.hid hc; clear hc;go_loopw [21] (fun i_ wr => ∃ (i : Nat), i <= n /\ i_ = .int .i64 (i : Int) /\ Hid (z3R w b m n c N (xss.take i).flatten wr)) (fun i_ _ => n - (intOf i_).toNat)
 case atStart => exact ⟨0, Nat.zero_le _, rfl, Lib.hid (by simpa using HI.out)⟩
 case round =>
  obtain ⟨i, hi, rfl, hIr⟩ := hrel;by_cases hin : i < n
  · have hix : i < xss.length := by omega
    have hin1 : (i : Int) < (n : Int) := by omega
    obtain ⟨ra, rc, hroww, hls⟩ := HX.out.row i hix;have hrow0 := (hIr.out.bel.cell (p := ⟨o, i, none⟩) HX.out.lt).trans hroww;clear hroww;have hxl : xss[i].length = c := HC.out _ (List.getElem_mem hix);rw [hxl] at hrow0;have HXL := Lib.hid hxl; clear hxl;have HLS := Lib.hid hls; clear hls;have hmul : (i + 1) * c <= N := by rw [<- HN.out]; exact Nat.mul_le_mul_right _ hin
    have hmul2 : (i + 1) * c = i * c + c := Nat.succ_mul i c;have hfl : (xss.take i).flatten.length = i * c := z5Z HC.out (by omega);have HFL := Lib.hid hfl; clear hfl;have HM := Lib.hid (And.intro hmul hmul2); clear hmul hmul2;go_wp2;go_loopw [27] (fun j_ wq => ∃ (j : Nat), j <= c /\ j_ = .int .i64 (j : Int) /\ Hid (z3R w b m n c N ((xss.take i).flatten ++ xss[i].take j) wq)) (fun j_ _ => c - (intOf j_).toNat)
    case atStart => exact ⟨0, Nat.zero_le _, rfl, Lib.hid (by simpa using hIr.out)⟩
    case round =>
     obtain ⟨j, hj, rfl, hIq⟩ := hrel;by_cases hjc : j < c
     · have hjc1 : (j : Int) < (c : Int) := by omega
       have hjx : j < xss[i].length := by rw [HXL.out]; exact hjc
       obtain ⟨k, hk⟩ : ∃ k, i * c + j = k := ⟨_, rfl⟩;have hkN : k + 1 <= N := by have := HM.out; omega
       obtain ⟨cu, hcu⟩ : ∃ cu, (xss.take i).flatten ++ xss[i].take j = cu := ⟨_, rfl⟩;rw [hcu] at hIq;have hcl : cu.length = k := by rw [<- hcu, List.length_append, HFL.out, List.length_take, Nat.min_eq_left (by omega)]; exact hk
       have hcu2 : (xss.take i).flatten ++ xss[i].take (j + 1) = cu ++ [xss[i][j]] := by
        rw [List.take_succ_eq_append_getElem hjx, <- List.append_assoc, hcu]
       obtain ⟨x, hx⟩ : ∃ x, xss[i][j] = x := ⟨_, rfl⟩;obtain ⟨ab, aoff, hra, hab, hcells⟩ := (HLS.out.below hIq.out.bel) (by omega);subst hra;obtain ⟨px, cx0, cx1, hnx⟩ := hcells j hjx;rw [hx] at hnx hcu2;have HCU := Lib.hid hcu2; clear hcu2 hcu hcells hx;have HK := Lib.hid hk; clear hk;have hb1 : Below wr.heap.size wr (wr.alloc (.cells #[.bool px.1, .slice px.2.1 px.2.2.1 px.2.2.2] 45)) := (Below.refl _ _).alloc (Nat.le_refl _) _;have Hnx := Lib.hid (hnx.below hb1); clear hnx;have hIa : z3R w b m n c N cu (wr.alloc (.cells #[.bool px.1, .slice px.2.1 px.2.2.1 px.2.2.2] 45)) :=
        ⟨hIq.out.box.below hb1 hIq.out.box.lt, hIq.out.row.below hb1, hIq.out.res.below hb1 hIq.out.res.lt, hIq.out.bel.trans (hb1.mono hIq.out.bel.size)⟩
       have HIa := Lib.hid hIa; clear hIa;have hxr := z00.new wr #[.bool px.1, .slice px.2.1 px.2.2.1 px.2.2.2] 45;have HXR := Lib.hid hxr; clear hxr;have hsm : m < wr.heap.size := hIq.out.box.lt;clear hIq hb1;go_wp2;generalize wr.alloc (.cells #[.bool px.1, .slice px.2.1 px.2.2.1 px.2.2.2] 45) = w5 at *;obtain ⟨xb, hxb⟩ : ∃ xb, wr.heap.size = xb := ⟨_, rfl⟩;rw [hxb] at HXR hsm ⊢;have q0 : w5.cell? ⟨xb, 0, none⟩ = some (.bool px.1) := HXR.out.cell 0;have q1 : w5.cell? ⟨xb, 1, none⟩ = some (.slice px.2.1 px.2.2.1 px.2.2.2) := HXR.out.cell 1;have c2 : w5.cell? ⟨m, 2, none⟩ = some (.slice (some ⟨b, 0, none⟩) k N) := by have := HIa.out.box.cell 2; rw [hcl] at this; exact this
       clear cx0 cx1 hrow0;obtain ⟨i0, hi0, hz0, hsz0, hby0⟩ := info_parts z4k;have hrl : (cu ++ List.replicate (N - cu.length) 0).length = N := by rw [List.length_append, List.length_replicate, hcl]; omega
       go_region_law (first
        | (refine step_append_room rfl (.tmp 32) (.tmp 35) 22 rfl 45 i0 2 Tryz.underlying22 hi0 hsz0 b 0 k N rfl ⟨w6.heap.size, 0, none⟩ 1 1 [.bool pz.1, .slice pz.2.1 pz.2.2.1 pz.2.2.2] rfl rfl (z5H w6 _ _ _) (by simp [Value.oneCell']) (by omega) (fun j hj => HI6.out.spare hcl hkN _ j hj) ?_; obtain ⟨w7, hw7⟩ : ∃ w7, (w6.alloc (.cells #[.bool pz.1, .slice pz.2.1 pz.2.2.1 pz.2.2.2] 45)).setCells b (k * 2) [.bool pz.1, .slice pz.2.1 pz.2.2.1 pz.2.2.2] = w7 := ⟨_, rfl⟩; have hI7 := HI6.out.app hbl hcl hkN HZ6.out w7 hw7; simp only [Nat.zero_add]; rw [hw7]; have g2 := hI7.1.cell 2; have gf2 := hI7.1.free 2; simp only [List.getElem?_cons_zero, List.getElem?_cons_succ] at g2; have HI7 := Lib.hid hI7; clear hI7 hw7)
        | (go_simp; go_at_call 69; refine (z7g (av px) x _ (z03.below (w := w5) Hnx.out (Below.refl _ _).drew)).mono ?_; rintro e w6 ⟨⟨vz, rfl, hvz⟩, hb6⟩; obtain ⟨pz, rfl⟩ := z0n.parts hvz.num; have HZ6 := Lib.hid hvz.num; unfold av at *; have hI6 : z3R w b m n c N cu w6 := ⟨z00.below (w := w5.drew) HIa.out.box hb6 HIa.out.box.lt, z0c.below (w := w5.drew) HIa.out.row hb6, z00.below (w := w5.drew) HIa.out.res hb6 HIa.out.res.lt, HIa.out.bel.drew.trans (hb6.mono HIa.out.bel.size)⟩; have HI6 := Lib.hid hI6; clear hI6; have k2 := HI6.out.box.cell 2; rw [hcl] at k2; have k3 := (HI6.out.box.alloc (.cells #[.bool pz.1, .slice pz.2.1 pz.2.2.1 pz.2.2.2] 45)).cell 2; rw [hcl] at k3; simp only [List.getElem?_cons_zero, List.getElem?_cons_succ] at k2 k3; clear hb6 hvz))
       all_goals go_wp2
       all_goals refine ⟨⟨j + 1, by omega, by go_num, Lib.hid ?_⟩, ?_⟩
       all_goals first
        | (rw [HCU.out]; exact HI7.out.2)
        | (simp [intOf]; omega)
     · obtain rfl : j = c := by omega
       go_wp2;go_roundw
       case rel =>
        refine ⟨i + 1, by omega, by go_num, Lib.hid ?_⟩;rw [z5r hix];have h9 := hIq.out;rw [List.take_of_length_le (l := xss[i]) (by rw [HXL.out]; exact Nat.le_refl _)] at h9;exact h9
       case measure => simp [intOf]; omega
  · obtain rfl : i = n := by omega
    have hce : (xss.take i).flatten = xss.flatten := by rw [List.take_of_length_le (by omega)]
    have HCE := Lib.hid hce; clear hce;have hcl : (xss.take i).flatten.length = N := by rw [HCE.out, z3f HC.out, hn]; exact HN.out
    have c0 := hIr.out.box.cell 0;have c1 := hIr.out.box.cell 1;have c2 := hIr.out.box.cell 2;have d0 := hIr.out.res.cell 0;have d1 := hIr.out.res.cell 1;have d2 := hIr.out.res.cell 2;have f0 := hIr.out.res.free 0;have f1 := hIr.out.res.free 1;have f2 := hIr.out.res.free 2;rw [hcl] at c2;simp only [List.getElem?_cons_zero, List.getElem?_cons_succ] at c0 c1 c2 d0 d1 d2;clear hcl;go_wp2;have hrm := hIr.out.row;rw [HCE.out, z3f HC.out, hn, HN.out, Nat.sub_self] at hrm;simp only [List.replicate_zero, List.append_nil] at hrm;refine bodyPost_ret (z2u (p := 4) (by kernel_rfl) _ _ w.heap.size _ _ _ rfl (hIr.out.res.z4W (.int .i64 (i : Int)) (.int .i64 (c : Int)) (.slice (some ⟨b, 0, none⟩) N N))) rfl ?_;exact ⟨⟨b, rfl, by omega, hrm.z2d hIr.out.res (i : Int) (c : Int) _ _ _⟩, ((hIr.out.bel.setCell (p := ⟨w.heap.size, 0, none⟩) (Nat.le_refl _) _).setCell (p := ⟨w.heap.size, 1, none⟩) (Nat.le_refl _) _).setCell (p := ⟨w.heap.size, 2, none⟩) (Nat.le_refl _) _⟩
def z2y (c : Nat) (f : Nat -> Nat -> Int) (k : Nat) : List Int := (List.range k).map fun q => f (q / c) (q % c)
theorem z10 (c : Nat) (f : Nat -> Nat -> Int) (k : Nat) : (z2y c f k).length = k := by simp [z2y]
theorem z8t {c i j : Nat} (f : Nat -> Nat -> Int) (hj : j < c) : z2y c f (i * c + j + 1) = z2y c f (i * c + j) ++ [f i j] := by
 have h1 : (i * c + j) / c = i := by rw [Nat.mul_comm, Nat.mul_add_div (by omega), Nat.div_eq_of_lt hj]; rfl
 have h2 : (i * c + j) % c = j := by rw [Nat.mul_comm, Nat.mul_add_mod, Nat.mod_eq_of_lt hj]
 unfold z2y;rw [List.range_succ, List.map_append];simp [h1, h2]
theorem z7U {r c i j : Nat} (f : Nat -> Nat -> Int) (hi : i < r) (hj : j < c) : (z2y c f (r * c)).getD (i * c + j) 0 = f i j := by
 have h1 : (i * c + j) / c = i := by rw [Nat.mul_comm, Nat.mul_add_div (by omega), Nat.div_eq_of_lt hj]; rfl
 have h2 : (i * c + j) % c = j := by rw [Nat.mul_comm, Nat.mul_add_mod, Nat.mod_eq_of_lt hj]
 have h3 : (i + 1) * c <= r * c := Nat.mul_le_mul_right _ hi;have h4 : (i + 1) * c = i * c + c := Nat.succ_mul i c;unfold z2y;rw [List.getD_eq_getElem?_getD, List.getElem?_map, List.getElem?_range (by omega)];simp [h1, h2]
set_option maxRecDepth 100000 in
set_option maxHeartbeats 4000000 in
theorem zcM (r c : Nat) (f : Nat -> Nat -> Int) (w : World) (hr : r <= 64) (hc : c <= 64)
 (hf : ∀ (i j : Nat) (w' : World), i < r -> j < c -> Below w.heap.size w w' -> Calls Tryz.prog 104 #[.int .i64 (i : Int), .int .i64 (j : Int)] w' fun e w'' => (∃ v, e = .returned v /\ z05 w'' w'.heap.size v (f i j)) /\ Below w'.heap.size w' w'') :
 Calls Tryz.prog 103 #[.int .i64 (r : Int), .int .i64 (c : Int), .func (.func 104) #[] #[]] w fun e w' => (∃ b, e = .returned (.agg #[.int .i64 (r : Int), .int .i64 (c : Int), .slice (some ⟨b, 0, none⟩) (r * c) (r * c)]) /\ w.heap.size <= b /\ z0c w' b (z2y c f (r * c))) /\ Below w.heap.size w w' := by
 have hnc : r * c <= 4096 := Nat.mul_le_mul hr hc;have hw1 : wrap64 ((r : Int) * (c : Int)) = ((r * c : Nat) : Int) := by
  rw [<- Int.natCast_mul]; unfold wrap64; omega
 obtain ⟨N, hN⟩ : ∃ N, r * c = N := ⟨_, rfl⟩;rw [hN] at hw1 hnc ⊢;have HN := Lib.hid hN; clear hN;have HF := Lib.hid hf; clear hf;go_enter Tryz.func103, Tryz.ntmps103;go_wp2_with (at_make; refine z5s rfl _ _ rfl 0 N rfl rfl rfl (by omega) (Nat.zero_le _) (by omega) ?_; intro b w1 hm1)
 have hI : z3R w b w1.heap.size r c N [] (w1.alloc (.cells #[.int .i64 (r : Int), .int .i64 (c : Int), .slice (some ⟨b, 0, none⟩) 0 N] 24)) := by
  have h0 := z00.new w #[.int .i64 0, .int .i64 0, .slice none 0 0] 24;have hb0 : Below w.heap.size w (w.alloc (.cells #[.int .i64 0, .int .i64 0, .slice none 0 0] 24)) := (Below.refl _ _).alloc (Nat.le_refl _) _;have hb1 : Below w1.heap.size w1 (w1.alloc (.cells #[.int .i64 (r : Int), .int .i64 (c : Int), .slice (some ⟨b, 0, none⟩) 0 N] 24)) := (Below.refl _ _).alloc (Nat.le_refl _) _;refine ⟨z00.new _ _ _, ?_, ?_, ?_⟩
  · simpa using (z0c.z7u hm1.row).below hb1
  · exact (h0.below hm1.below h0.lt).alloc _
  · exact (hb0.trans (hm1.below.mono hb0.size)).trans (hb1.mono (Nat.le_trans hb0.size hm1.below.size))
 have hbl : w.heap.size < b /\ b < w1.heap.size := by
  have h1 := hm1.at_; have h2 := hm1.size; rw [World.size_alloc] at h1 h2; omega
 have HI := Lib.hid hI; clear hI;clear hm1;generalize w1.alloc (.cells #[.int .i64 (r : Int), .int .i64 (c : Int), .slice (some ⟨b, 0, none⟩) 0 N] 24) = w2 at *;obtain ⟨m, hm⟩ : ∃ m, w1.heap.size = m := ⟨_, rfl⟩;rw [hm] at hbl HI ⊢;clear hm;go_wp2;go_loopw [18] (fun i_ wr => ∃ (i : Nat), i <= r /\ i_ = .int .i64 (i : Int) /\ Hid (z3R w b m r c N (z2y c f (i * c)) wr)) (fun i_ _ => r - (intOf i_).toNat)
 case atStart => exact ⟨0, Nat.zero_le _, rfl, Lib.hid (by rw [Nat.zero_mul]; exact HI.out)⟩
 case round =>
  obtain ⟨i, hi, rfl, hIr⟩ := hrel;by_cases hin : i < r
  · have hin1 : (i : Int) < (r : Int) := by omega
    have hmul : (i + 1) * c <= N := by rw [<- HN.out]; exact Nat.mul_le_mul_right _ hin
    have hmul2 : (i + 1) * c = i * c + c := Nat.succ_mul i c;have HM := Lib.hid (And.intro hmul hmul2); clear hmul hmul2;go_wp2;go_loopw [22] (fun j_ wq => ∃ (j : Nat), j <= c /\ j_ = .int .i64 (j : Int) /\ Hid (z3R w b m r c N (z2y c f (i * c + j)) wq)) (fun j_ _ => c - (intOf j_).toNat)
    case atStart => exact ⟨0, Nat.zero_le _, rfl, hIr⟩
    case round =>
     obtain ⟨j, hj, rfl, hIq⟩ := hrel;by_cases hjc : j < c
     · have hjc1 : (j : Int) < (c : Int) := by omega
       obtain ⟨k, hk⟩ : ∃ k, i * c + j = k := ⟨_, rfl⟩;have hkN : k + 1 <= N := by have := HM.out; omega
       have hcu2 := z8t (i := i) f hjc;rw [hk] at hIq hcu2;obtain ⟨cu, hcu⟩ : ∃ cu, z2y c f k = cu := ⟨_, rfl⟩;rw [hcu] at hIq hcu2;have hcl : cu.length = k := by rw [<- hcu, z10]
       obtain ⟨x, hx⟩ : ∃ x, f i j = x := ⟨_, rfl⟩;have hF := HF.out i j wr.drew hin hjc hIq.out.bel.drew;rw [hx] at hF hcu2;have HFC := Lib.hid hF;have HCU := Lib.hid hcu2; clear hcu2 hcu hx hF;have HK := Lib.hid hk; clear hk;have hsm : m < wr.heap.size := hIq.out.box.lt;have c2 : wr.cell? ⟨m, 2, none⟩ = some (.slice (some ⟨b, 0, none⟩) k N) := by have := hIq.out.box.cell 2; rw [hcl] at this; exact this
       obtain ⟨i0, hi0, hz0, hsz0, hby0⟩ := info_parts z4k;have hrl : (cu ++ List.replicate (N - cu.length) 0).length = N := by rw [List.length_append, List.length_replicate, hcl]; omega
       go_wp2;go_region_law (first
        | (refine step_append_room rfl (.tmp 26) (.tmp 31) 22 rfl 45 i0 2 Tryz.underlying22 hi0 hsz0 b 0 k N rfl ⟨w6.heap.size, 0, none⟩ 1 1 [.bool pz.1, .slice pz.2.1 pz.2.2.1 pz.2.2.2] rfl rfl (z5H w6 _ _ _) (by simp [Value.oneCell']) (by omega) (fun j hj => HI6.out.spare hcl hkN _ j hj) ?_; obtain ⟨w7, hw7⟩ : ∃ w7, (w6.alloc (.cells #[.bool pz.1, .slice pz.2.1 pz.2.2.1 pz.2.2.2] 45)).setCells b (k * 2) [.bool pz.1, .slice pz.2.1 pz.2.2.1 pz.2.2.2] = w7 := ⟨_, rfl⟩; have hI7 := HI6.out.app hbl hcl hkN HZ6.out w7 hw7; simp only [Nat.zero_add]; rw [hw7]; have g2 := hI7.1.cell 2; have gf2 := hI7.1.free 2; simp only [List.getElem?_cons_zero, List.getElem?_cons_succ] at g2; have HI7 := Lib.hid hI7; clear hI7 hw7)
        | (go_simp; go_at_call 104; refine HFC.out.mono ?_; rintro e w6 ⟨⟨vz, rfl, hvz⟩, hb6⟩; obtain ⟨pz, rfl⟩ := z0n.parts hvz.num; have HZ6 := Lib.hid hvz.num; unfold av at *; have hI6 : z3R w b m r c N cu w6 := ⟨z00.below (w := wr.drew) hIq.out.box hb6 hIq.out.box.lt, z0c.below (w := wr.drew) hIq.out.row hb6, z00.below (w := wr.drew) hIq.out.res hb6 hIq.out.res.lt, hIq.out.bel.drew.trans (hb6.mono hIq.out.bel.size)⟩; have HI6 := Lib.hid hI6; clear hI6; have k2 := HI6.out.box.cell 2; rw [hcl] at k2; have k3 := (HI6.out.box.alloc (.cells #[.bool pz.1, .slice pz.2.1 pz.2.2.1 pz.2.2.2] 45)).cell 2; rw [hcl] at k3; simp only [List.getElem?_cons_zero, List.getElem?_cons_succ] at k2 k3; clear hb6 hvz))
       all_goals go_wp2
       all_goals refine ⟨⟨j + 1, by omega, by go_num, Lib.hid ?_⟩, ?_⟩
       all_goals first
        | (rw [<- Nat.add_assoc, HK.out, HCU.out]; exact HI7.out.2)
        | (simp [intOf]; omega)
     · obtain rfl : j = c := by omega
       go_wp2;go_roundw
       case rel =>
        refine ⟨i + 1, by omega, by go_num, Lib.hid ?_⟩;rw [Nat.succ_mul];exact hIq.out
       case measure => simp [intOf]; omega
  · obtain rfl : i = r := by omega
    have hcl : (z2y c f (i * c)).length = N := by rw [z10]; exact HN.out
    have c0 := hIr.out.box.cell 0;have c1 := hIr.out.box.cell 1;have c2 := hIr.out.box.cell 2;have d0 := hIr.out.res.cell 0;have d1 := hIr.out.res.cell 1;have d2 := hIr.out.res.cell 2;have f0 := hIr.out.res.free 0;have f1 := hIr.out.res.free 1;have f2 := hIr.out.res.free 2;rw [hcl] at c2;simp only [List.getElem?_cons_zero, List.getElem?_cons_succ] at c0 c1 c2 d0 d1 d2;clear hcl;go_wp2;have hrm := hIr.out.row;rw [z10, HN.out, Nat.sub_self] at hrm;simp only [List.replicate_zero, List.append_nil] at hrm;refine bodyPost_ret (z2u (p := 6) (by kernel_rfl) _ _ w.heap.size _ _ _ rfl (hIr.out.res.z4W (.int .i64 (i : Int)) (.int .i64 (c : Int)) (.slice (some ⟨b, 0, none⟩) N N))) rfl ?_;exact ⟨⟨b, rfl, by omega, hrm.z2d hIr.out.res (i : Int) (c : Int) _ _ _⟩, ((hIr.out.bel.setCell (p := ⟨w.heap.size, 0, none⟩) (Nat.le_refl _) _).setCell (p := ⟨w.heap.size, 1, none⟩) (Nat.le_refl _) _).setCell (p := ⟨w.heap.size, 2, none⟩) (Nat.le_refl _) _⟩
set_option maxRecDepth 100000 in
set_option maxHeartbeats 4000000 in
theorem zcE (r c : Nat) (f : Nat -> Nat -> Int) (g : Nat) (w : World) (hr : r <= 64) (hc : c <= 64)
 (hf : ∀ (i j : Nat) (w' : World), i < r -> j < c -> Below w.heap.size w w' -> Calls Tryz.prog 114 #[.int .i64 (i : Int), .int .i64 (j : Int), .pointer (some ⟨g, 0, none⟩)] w' fun e w'' => (∃ v, e = .returned v /\ z05 w'' w'.heap.size v (f i j)) /\ Below w'.heap.size w' w'') :
 Calls Tryz.prog 103 #[.int .i64 (r : Int), .int .i64 (c : Int), .func (.func 114) #[] #[.pointer (some ⟨g, 0, none⟩)]] w fun e w' => (∃ b, e = .returned (.agg #[.int .i64 (r : Int), .int .i64 (c : Int), .slice (some ⟨b, 0, none⟩) (r * c) (r * c)]) /\ w.heap.size <= b /\ z0c w' b (z2y c f (r * c))) /\ Below w.heap.size w w' := by
 have hnc : r * c <= 4096 := Nat.mul_le_mul hr hc;have hw1 : wrap64 ((r : Int) * (c : Int)) = ((r * c : Nat) : Int) := by
  rw [<- Int.natCast_mul]; unfold wrap64; omega
 obtain ⟨N, hN⟩ : ∃ N, r * c = N := ⟨_, rfl⟩;rw [hN] at hw1 hnc ⊢;have HN := Lib.hid hN; clear hN;have HF := Lib.hid hf; clear hf;go_enter Tryz.func103, Tryz.ntmps103;go_wp2_with (at_make; refine z5s rfl _ _ rfl 0 N rfl rfl rfl (by omega) (Nat.zero_le _) (by omega) ?_; intro b w1 hm1)
 have hI : z3R w b w1.heap.size r c N [] (w1.alloc (.cells #[.int .i64 (r : Int), .int .i64 (c : Int), .slice (some ⟨b, 0, none⟩) 0 N] 24)) := by
  have h0 := z00.new w #[.int .i64 0, .int .i64 0, .slice none 0 0] 24;have hb0 : Below w.heap.size w (w.alloc (.cells #[.int .i64 0, .int .i64 0, .slice none 0 0] 24)) := (Below.refl _ _).alloc (Nat.le_refl _) _;have hb1 : Below w1.heap.size w1 (w1.alloc (.cells #[.int .i64 (r : Int), .int .i64 (c : Int), .slice (some ⟨b, 0, none⟩) 0 N] 24)) := (Below.refl _ _).alloc (Nat.le_refl _) _;refine ⟨z00.new _ _ _, ?_, ?_, ?_⟩
  · simpa using (z0c.z7u hm1.row).below hb1
  · exact (h0.below hm1.below h0.lt).alloc _
  · exact (hb0.trans (hm1.below.mono hb0.size)).trans (hb1.mono (Nat.le_trans hb0.size hm1.below.size))
 have hbl : w.heap.size < b /\ b < w1.heap.size := by
  have h1 := hm1.at_; have h2 := hm1.size; rw [World.size_alloc] at h1 h2; omega
 have HI := Lib.hid hI; clear hI;clear hm1;generalize w1.alloc (.cells #[.int .i64 (r : Int), .int .i64 (c : Int), .slice (some ⟨b, 0, none⟩) 0 N] 24) = w2 at *;obtain ⟨m, hm⟩ : ∃ m, w1.heap.size = m := ⟨_, rfl⟩;rw [hm] at hbl HI ⊢;clear hm;go_wp2;go_loopw [18] (fun i_ wr => ∃ (i : Nat), i <= r /\ i_ = .int .i64 (i : Int) /\ Hid (z3R w b m r c N (z2y c f (i * c)) wr)) (fun i_ _ => r - (intOf i_).toNat)
 case atStart => exact ⟨0, Nat.zero_le _, rfl, Lib.hid (by rw [Nat.zero_mul]; exact HI.out)⟩
 case round =>
  obtain ⟨i, hi, rfl, hIr⟩ := hrel;by_cases hin : i < r
  · have hin1 : (i : Int) < (r : Int) := by omega
    have hmul : (i + 1) * c <= N := by rw [<- HN.out]; exact Nat.mul_le_mul_right _ hin
    have hmul2 : (i + 1) * c = i * c + c := Nat.succ_mul i c;have HM := Lib.hid (And.intro hmul hmul2); clear hmul hmul2;go_wp2;go_loopw [22] (fun j_ wq => ∃ (j : Nat), j <= c /\ j_ = .int .i64 (j : Int) /\ Hid (z3R w b m r c N (z2y c f (i * c + j)) wq)) (fun j_ _ => c - (intOf j_).toNat)
    case atStart => exact ⟨0, Nat.zero_le _, rfl, hIr⟩
    case round =>
     obtain ⟨j, hj, rfl, hIq⟩ := hrel;by_cases hjc : j < c
     · have hjc1 : (j : Int) < (c : Int) := by omega
       obtain ⟨k, hk⟩ : ∃ k, i * c + j = k := ⟨_, rfl⟩;have hkN : k + 1 <= N := by have := HM.out; omega
       have hcu2 := z8t (i := i) f hjc;rw [hk] at hIq hcu2;obtain ⟨cu, hcu⟩ : ∃ cu, z2y c f k = cu := ⟨_, rfl⟩;rw [hcu] at hIq hcu2;have hcl : cu.length = k := by rw [<- hcu, z10]
       obtain ⟨x, hx⟩ : ∃ x, f i j = x := ⟨_, rfl⟩;have hF := HF.out i j wr.drew hin hjc hIq.out.bel.drew;rw [hx] at hF hcu2;have HFC := Lib.hid hF;have HCU := Lib.hid hcu2; clear hcu2 hcu hx hF;have HK := Lib.hid hk; clear hk;have hsm : m < wr.heap.size := hIq.out.box.lt;have c2 : wr.cell? ⟨m, 2, none⟩ = some (.slice (some ⟨b, 0, none⟩) k N) := by have := hIq.out.box.cell 2; rw [hcl] at this; exact this
       obtain ⟨i0, hi0, hz0, hsz0, hby0⟩ := info_parts z4k;have hrl : (cu ++ List.replicate (N - cu.length) 0).length = N := by rw [List.length_append, List.length_replicate, hcl]; omega
       go_wp2;go_region_law (first
        | (refine step_append_room rfl (.tmp 26) (.tmp 31) 22 rfl 45 i0 2 Tryz.underlying22 hi0 hsz0 b 0 k N rfl ⟨w6.heap.size, 0, none⟩ 1 1 [.bool pz.1, .slice pz.2.1 pz.2.2.1 pz.2.2.2] rfl rfl (z5H w6 _ _ _) (by simp [Value.oneCell']) (by omega) (fun j hj => HI6.out.spare hcl hkN _ j hj) ?_; obtain ⟨w7, hw7⟩ : ∃ w7, (w6.alloc (.cells #[.bool pz.1, .slice pz.2.1 pz.2.2.1 pz.2.2.2] 45)).setCells b (k * 2) [.bool pz.1, .slice pz.2.1 pz.2.2.1 pz.2.2.2] = w7 := ⟨_, rfl⟩; have hI7 := HI6.out.app hbl hcl hkN HZ6.out w7 hw7; simp only [Nat.zero_add]; rw [hw7]; have g2 := hI7.1.cell 2; have gf2 := hI7.1.free 2; simp only [List.getElem?_cons_zero, List.getElem?_cons_succ] at g2; have HI7 := Lib.hid hI7; clear hI7 hw7)
        | (go_simp; go_at_call 114; refine HFC.out.mono ?_; rintro e w6 ⟨⟨vz, rfl, hvz⟩, hb6⟩; obtain ⟨pz, rfl⟩ := z0n.parts hvz.num; have HZ6 := Lib.hid hvz.num; unfold av at *; have hI6 : z3R w b m r c N cu w6 := ⟨z00.below (w := wr.drew) hIq.out.box hb6 hIq.out.box.lt, z0c.below (w := wr.drew) hIq.out.row hb6, z00.below (w := wr.drew) hIq.out.res hb6 hIq.out.res.lt, hIq.out.bel.drew.trans (hb6.mono hIq.out.bel.size)⟩; have HI6 := Lib.hid hI6; clear hI6; have k2 := HI6.out.box.cell 2; rw [hcl] at k2; have k3 := (HI6.out.box.alloc (.cells #[.bool pz.1, .slice pz.2.1 pz.2.2.1 pz.2.2.2] 45)).cell 2; rw [hcl] at k3; simp only [List.getElem?_cons_zero, List.getElem?_cons_succ] at k2 k3; clear hb6 hvz))
       all_goals go_wp2
       all_goals refine ⟨⟨j + 1, by omega, by go_num, Lib.hid ?_⟩, ?_⟩
       all_goals first
        | (rw [<- Nat.add_assoc, HK.out, HCU.out]; exact HI7.out.2)
        | (simp [intOf]; omega)
     · obtain rfl : j = c := by omega
       go_wp2;go_roundw
       case rel =>
        refine ⟨i + 1, by omega, by go_num, Lib.hid ?_⟩;rw [Nat.succ_mul];exact hIq.out
       case measure => simp [intOf]; omega
  · obtain rfl : i = r := by omega
    have hcl : (z2y c f (i * c)).length = N := by rw [z10]; exact HN.out
    have c0 := hIr.out.box.cell 0;have c1 := hIr.out.box.cell 1;have c2 := hIr.out.box.cell 2;have d0 := hIr.out.res.cell 0;have d1 := hIr.out.res.cell 1;have d2 := hIr.out.res.cell 2;have f0 := hIr.out.res.free 0;have f1 := hIr.out.res.free 1;have f2 := hIr.out.res.free 2;rw [hcl] at c2;simp only [List.getElem?_cons_zero, List.getElem?_cons_succ] at c0 c1 c2 d0 d1 d2;clear hcl;go_wp2;have hrm := hIr.out.row;rw [z10, HN.out, Nat.sub_self] at hrm;simp only [List.replicate_zero, List.append_nil] at hrm;refine bodyPost_ret (z2u (p := 6) (by kernel_rfl) _ _ w.heap.size _ _ _ rfl (hIr.out.res.z4W (.int .i64 (i : Int)) (.int .i64 (c : Int)) (.slice (some ⟨b, 0, none⟩) N N))) rfl ?_;exact ⟨⟨b, rfl, by omega, hrm.z2d hIr.out.res (i : Int) (c : Int) _ _ _⟩, ((hIr.out.bel.setCell (p := ⟨w.heap.size, 0, none⟩) (Nat.le_refl _) _).setCell (p := ⟨w.heap.size, 1, none⟩) (Nat.le_refl _) _).setCell (p := ⟨w.heap.size, 2, none⟩) (Nat.le_refl _) _⟩
theorem zd4 {r c i j : Nat} (hi : i < r) (hj : j < c) : i * c + j < r * c := by
 have h1 : (i + 1) * c <= r * c := Nat.mul_le_mul_right _ hi;have h2 : (i + 1) * c = i * c + c := Nat.succ_mul i c;omega
set_option maxRecDepth 100000 in
set_option maxHeartbeats 4000000 in
theorem zdg (i j : Nat) (w : World) (hi : i <= 1000) (hj : j <= 1000) :
 Calls Tryz.prog 104 #[.int .i64 (i : Int), .int .i64 (j : Int)] w fun e w' => (∃ v, e = .returned v /\ z05 w' w.heap.size v (if i = j then 1 else 0)) /\ Below w.heap.size w w' := by
 have h0 := z00.new w #[.bool false, .slice none 0 0] 45;have hb0 : Below w.heap.size w (w.alloc (.cells #[.bool false, .slice none 0 0] 45)) := (Below.refl _ _).alloc (Nat.le_refl _) _;have hs0 : w.heap.size < (w.alloc (.cells #[.bool false, .slice none 0 0] 45)).heap.size := h0.lt;have H0 := Lib.hid h0;have HB0 := Lib.hid hb0;clear h0 hb0;go_enter Tryz.func104, Tryz.ntmps104;by_cases e : i = j
 · subst e;rw [if_pos rfl];have hee : ((i : Int) == (i : Int)) = true := by simp
   go_wp2_with fail
   generalize w.alloc (.cells #[.bool false, .slice none 0 0] 45) = w1 at *;refine (z6W 1 _ (by decide) (by decide)).mono ?_;rintro e w2 ⟨⟨v, rfl, hv⟩, hb⟩;have hz : w.heap.size < w1.heap.size := H0.out.lt;obtain ⟨p, rfl⟩ := z0n.parts hv.num;have R2 := Lib.hid (H0.out.below hb H0.out.lt);have HV := Lib.hid (z05.mono hv (Nat.le_of_lt hz));have HB2 := Lib.hid (HB0.out.trans (hb.mono HB0.out.size));clear hv hb;unfold av at *;have c0 := R2.out.cell 0;have c1 := R2.out.cell 1;have f0 := R2.out.free 0;have f1 := R2.out.free 1;go_wp2;refine bodyPost_ret (z0i (p := 4) (by kernel_rfl) _ _ w.heap.size _ _ rfl (R2.out.z2n (.bool p.1) (.slice p.2.1 p.2.2.1 p.2.2.2))) rfl ?_;exact ⟨⟨_, rfl, z05.setRow (z05.setRow HV.out R2.out (by decide) 0 _) (R2.out.set 0 _) (by decide) 1 _⟩, (HB2.out.setCell (p := ⟨w.heap.size, 0, none⟩) (Nat.le_refl _) _).setCell (p := ⟨w.heap.size, 1, none⟩) (Nat.le_refl _) _⟩
 · rw [if_neg e];have hee : ((i : Int) == (j : Int)) = false := by simp; omega
   go_wp2;refine bodyPost_ret (z0i (p := 4) (by kernel_rfl) _ _ w.heap.size _ _ rfl H0.out) rfl ?_;exact ⟨⟨_, rfl, z05.zero _ _⟩, HB0.out⟩
theorem zde {n : Nat} (h : n <= 64) : z0X (n : Int) = true := by unfold z0X; simp; omega
set_option maxRecDepth 100000 in
set_option maxHeartbeats 4000000 in
theorem Unit_c (n : Nat) (w : World) (hn : n <= 64) :
 Calls Tryz.prog 60 #[.int .i64 (n : Int)] w fun e w' => (∃ b, e = .returned (.tuple #[.agg #[.int .i64 (n : Int), .int .i64 (n : Int), .slice (some ⟨b, 0, none⟩) (n * n) (n * n)], .int .i64 0]) /\ w.heap.size <= b /\ z0c w' b (z2y n (fun i j => if i = j then 1 else 0) (n * n))) /\ Below w.heap.size w w' := by
 have h0 := z00.new w #[.int .i64 0, .int .i64 0, .slice none 0 0] 24;have hb0 : Below w.heap.size w (w.alloc (.cells #[.int .i64 0, .int .i64 0, .slice none 0 0] 24)) := (Below.refl _ _).alloc (Nat.le_refl _) _;go_enter Tryz.func60, Tryz.ntmps60;go_wp2_with fail
 generalize w.alloc (.cells #[.int .i64 0, .int .i64 0, .slice none 0 0] 24) = w1 at *;refine (zak (n : Int) _).mono ?_;rintro e w2 ⟨rfl, rfl⟩;rw [zde hn];have H0 := Lib.hid h0;have HB0 := Lib.hid hb0;clear h0 hb0;go_wp2_with fail
 refine (zcM n n (fun i j => if i = j then 1 else 0) _ hn hn (fun i j w' hi hj _ => zdg i j w' (by omega) (by omega))).mono ?_;rintro e w3 ⟨⟨b, rfl, hb, hR⟩, hb3⟩;have R2 := Lib.hid (H0.out.below hb3 H0.out.lt);have HB3 := Lib.hid (HB0.out.trans (hb3.mono HB0.out.size));have HR := Lib.hid hR;have hz := HB0.out.size;clear hR hb3;have z0 := R2.out.cell 0;have z1 := R2.out.cell 1;have z2 := R2.out.cell 2;have y0 := R2.out.free 0;have y1 := R2.out.free 1;have y2 := R2.out.free 2;go_wp2;refine bodyPost_ret (z0W (p := 2) (q := 3) (by kernel_rfl) _ _ w.heap.size _ _ _ rfl (R2.out.z4W (.int .i64 (n : Int)) (.int .i64 (n : Int)) (.slice (some ⟨b, 0, none⟩) (n * n) (n * n)))) rfl ?_;exact ⟨⟨b, rfl, by omega, HR.out.z2d R2.out (n : Int) (n : Int) _ _ _⟩, ((HB3.out.setCell (p := ⟨w.heap.size, 0, none⟩) (Nat.le_refl _) _).setCell (p := ⟨w.heap.size, 1, none⟩) (Nat.le_refl _) _).setCell (p := ⟨w.heap.size, 2, none⟩) (Nat.le_refl _) _⟩
def z6d (xs : List Int) (c : Nat) : Nat -> Nat -> Int := fun i j => xs.getD (j * c + i) 0
set_option maxRecDepth 100000 in
set_option maxHeartbeats 4000000 in
theorem zdb (r c g : Nat) (ao : Option Addr) (cap : Nat) (xs : List Int) (i j : Nat) (w : World) (hr : r <= 64) (hc : c <= 64) (hi : i < c) (hj : j < r) (hs : xs.length = r * c) (hg : z00 w g 24 [.int .i64 (r : Int), .int .i64 (c : Int), .slice ao xs.length cap]) (h : z0F w 17592186044415 ao xs) :
 Calls Tryz.prog 114 #[.int .i64 (i : Int), .int .i64 (j : Int), .pointer (some ⟨g, 0, none⟩)] w fun e w' => (∃ v, e = .returned v /\ z05 w' w.heap.size v (z6d xs c i j)) /\ Below w.heap.size w w' := by
 have hjc : j * c + i < r * c := zd4 hj hi;have hrc : r * c <= 4096 := Nat.mul_le_mul hr hc;have HS := Lib.hid hs;obtain ⟨bx, ox, rfl, hbx, hcs⟩ := h (by omega);obtain ⟨p, x0, x1, hx⟩ := hcs (j * c + i) (by omega);have hxe : xs[j * c + i]'(by omega) = z6d xs c i j := by unfold z6d; rw [List.getD_eq_getElem?_getD, List.getElem?_eq_getElem (by omega)]; rfl
 rw [hxe] at hx;obtain ⟨y, hy⟩ : ∃ y, z6d xs c i j = y := ⟨_, rfl⟩;rw [hy] at hx ⊢;obtain ⟨P, hP⟩ : ∃ P, j * c = P := ⟨_, rfl⟩;obtain ⟨Q1, hQ⟩ : ∃ q, P + i = q := ⟨_, rfl⟩;rw [hP, hQ] at x0 x1 hjc;have hw1 : IntKind.i64.wrap ((j : Int) * (c : Int)) = (P : Int) := by
  rw [<- Int.natCast_mul, hP]; exact wrap_small (by omega) (by omega)
 have hw2 : IntKind.i64.wrap ((P : Int) + (i : Int)) = (Q1 : Int) := by
  rw [<- Int.natCast_add, hQ]; exact wrap_small (by omega) (by omega)
 have hql : (Q1 : Int) < (xs.length : Int) := by omega
 have hz : w.heap.size < (w.alloc (.cells #[.bool false, .slice none 0 0] 45)).heap.size := (z00.new w #[.bool false, .slice none 0 0] 45).lt;have H0 := Lib.hid (z00.new w #[.bool false, .slice none 0 0] 45);have HB0 : Hid (Below w.heap.size w (w.alloc (.cells #[.bool false, .slice none 0 0] 45))) := Lib.hid ((Below.refl _ _).alloc (Nat.le_refl _) _);have HX := Lib.hid hx;have HG := Lib.hid hg;have G1 := hg.alloc (.cells #[.bool false, .slice none 0 0] 45);have cg1 := G1.cell 1;have cg2 := G1.cell 2;have cx0 := (HB0.out.cell (p := ⟨bx, ox + Q1 * 2, none⟩) hbx).trans x0;have cx1 := (HB0.out.cell (p := ⟨bx, ox + Q1 * 2 + 1, none⟩) hbx).trans x1;simp only [List.getElem?_cons_zero, List.getElem?_cons_succ] at cg1 cg2;have HQ := Lib.hid (And.intro hP hQ);clear hcs hx hxe hy hP hQ hs hg h G1 x0 x1;go_enter Tryz.func114, Tryz.ntmps114;go_wp2_with fail
 have HX1 := Lib.hid (HX.out.below HB0.out);generalize w.alloc (.cells #[.bool false, .slice none 0 0] 45) = w1 at *;refine (z7g _ y _ HX1.out).mono ?_;rintro e w2 ⟨⟨v, rfl, hv⟩, hb⟩;obtain ⟨q, rfl⟩ := z0n.parts hv.num;have R2 := Lib.hid (H0.out.below hb H0.out.lt);have HV := Lib.hid (z05.mono hv (Nat.le_of_lt hz));have HB2 := Lib.hid (HB0.out.trans (hb.mono HB0.out.size));clear hv hb cg1 cg2 cx0 cx1;unfold av at *;have c0 := R2.out.cell 0;have c1 := R2.out.cell 1;have f0 := R2.out.free 0;have f1 := R2.out.free 1;go_wp2;refine bodyPost_ret (z0i (p := 5) (by kernel_rfl) _ _ w.heap.size _ _ rfl (R2.out.z2n (.bool q.1) (.slice q.2.1 q.2.2.1 q.2.2.2))) rfl ?_;exact ⟨⟨_, rfl, z05.setRow (z05.setRow HV.out R2.out (by decide) 0 _) (R2.out.set 0 _) (by decide) 1 _⟩, (HB2.out.setCell (p := ⟨w.heap.size, 0, none⟩) (Nat.le_refl _) _).setCell (p := ⟨w.heap.size, 1, none⟩) (Nat.le_refl _) _⟩
set_option maxRecDepth 100000 in
set_option maxHeartbeats 4000000 in
theorem zcs (r c : Nat) (ao : Option Addr) (len cap : Nat) (xs : List Int) (w : World) (hr : r <= 64) (hc : c <= 64) (h : z0F w 17592186044415 ao xs) (hl : len = xs.length) (hs : xs.length = r * c) :
 Calls Tryz.prog 64 #[.agg #[.int .i64 (r : Int), .int .i64 (c : Int), .slice ao len cap]] w fun e w' => (∃ b, e = .returned (.tuple #[.agg #[.int .i64 (c : Int), .int .i64 (r : Int), .slice (some ⟨b, 0, none⟩) (c * r) (c * r)], .int .i64 0]) /\ w.heap.size <= b /\ z0c w' b (z2y r (z6d xs c) (c * r))) /\ Below w.heap.size w w' := by
 subst hl;have hsnd : z0v (r : Int) (c : Int) xs.length = true := by
  unfold z0v z0X;rw [hs]; simp; omega
 have HCK := Lib.hid (z4E hsnd); clear hsnd;have HXS := Lib.hid h; clear h;have HS := Lib.hid hs; clear hs;obtain ⟨r1, r2, hb⟩ := z0H w #[.int .i64 (r : Int), .int .i64 (c : Int), .slice ao xs.length cap] #[.int .i64 0, .int .i64 0, .slice none 0 0] 24 24;go_enter Tryz.func64, Tryz.ntmps64;go_wp2_with fail
 generalize (w.alloc (.cells #[.int .i64 (r : Int), .int .i64 (c : Int), .slice ao xs.length cap] 24)).alloc (.cells #[.int .i64 0, .int .i64 0, .slice none 0 0] 24) = w2 at *;refine (z4v (r : Int) (c : Int) ao xs.length cap _ (by omega) (by omega)).mono ?_;rintro e w3 ⟨rfl, hb3⟩;rw [HCK.out];have R1 := Lib.hid (r1.below hb3 r1.lt);have R2 := Lib.hid (r2.below hb3 r2.lt);have L3 := Lib.hid ((HXS.out.below hb).below hb3);have B3 := Lib.hid (hb.trans (hb3.mono hb.size));have hs2 : w.heap.size + 1 < w3.heap.size := R2.out.lt;have e0 : w3.cell? ⟨w.heap.size, 0, none⟩ = some (.int .i64 (r : Int)) := R1.out.cell 0;have e1 : w3.cell? ⟨w.heap.size, 1, none⟩ = some (.int .i64 (c : Int)) := R1.out.cell 1;clear r1 r2 hb hb3;go_wp2_with fail
 refine (zcE c r (z6d xs c) w.heap.size w3 hc hr (fun i j w' hi hj hw => zdb r c w.heap.size ao cap xs i j w' hr hc hi hj HS.out (R1.out.below hw R1.out.lt) (L3.out.below hw))).mono ?_;rintro e w4 ⟨⟨b, rfl, hbb, hR⟩, hb4⟩;have R24 := Lib.hid (R2.out.below hb4 R2.out.lt);have B4 := Lib.hid (B3.out.trans (hb4.mono B3.out.size));have HR := Lib.hid hR;have hs3 := B3.out.size;clear hR hb4 e0 e1;have z0 := R24.out.cell 0;have z1 := R24.out.cell 1;have z2 := R24.out.cell 2;have y0 := R24.out.free 0;have y1 := R24.out.free 1;have y2 := R24.out.free 2;go_wp2;refine bodyPost_ret (z0W (p := 2) (q := 3) (by kernel_rfl) _ _ (w.heap.size + 1) _ _ _ rfl (R24.out.z4W (.int .i64 (c : Int)) (.int .i64 (r : Int)) (.slice (some ⟨b, 0, none⟩) (c * r) (c * r)))) rfl ?_;exact ⟨⟨b, rfl, by omega, HR.out.z2d R24.out (c : Int) (r : Int) _ _ _⟩, ((B4.out.setCell (p := ⟨w.heap.size + 1, 0, none⟩) (Nat.le_succ _) _).setCell (p := ⟨w.heap.size + 1, 1, none⟩) (Nat.le_succ _) _).setCell (p := ⟨w.heap.size + 1, 2, none⟩) (Nat.le_succ _) _⟩
theorem z0V.setHd {w : World} {o : Nat} {R : List Hd} (h : z0V w o R) {i : Nat} (hi : i < R.length) {b cap : Nat} {ys : List Int} (hn : z0c w b ys) (hb : ∀ x ∈ R, x.blk ≠ b) (hbo : b ≠ o) : z0V (w.setCell ⟨o, i, none⟩ (Hd.hdr ⟨b, cap, ys⟩)) o (R.set i ⟨b, cap, ys⟩) := by
 have hc : Chg (· = o) w (w.setCell ⟨o, i, none⟩ (Hd.hdr ⟨b, cap, ys⟩)) := (Chg.refl (· = o) w).set (p := ⟨o, i, none⟩) rfl _;have hw : z15 (· = o) w := by
  rintro g rfl;obtain ⟨tl, n, ho⟩ := h.out;exact ⟨_, _, ho, NoW.append (z3U _) n⟩
 refine ⟨?_, fun x hx => ?_, ?_⟩
 · have := h.out.set (i := i) (by simpa using hi) (Hd.hdr ⟨b, cap, ys⟩);rw [List.map_set];exact this
 · rcases List.mem_or_eq_of_mem_set hx with hx | rfl
   · exact hc.z9N hw (h.row x hx) (h.ne hx)
   · exact hc.z9N hw hn hbo
 · refine List.pairwise_iff_getElem.2 fun a c ha hc' hac => ?_;have ha' : a < R.length := by simpa using ha
   have hc2 : c < R.length := by simpa using hc'
   simp only [List.getElem_map, List.getElem_set];by_cases e1 : i = a
   · have e2 : ¬ i = c := by omega
     rw [if_pos e1, if_neg e2];exact fun e => hb _ (List.getElem_mem hc2) e.symm
   · rw [if_neg e1];by_cases e2 : i = c
     · rw [if_pos e2];exact fun e => hb _ (List.getElem_mem ha') e
     · rw [if_neg e2];exact z3E h.nd ha' hc2 (by omega)
def z4U (R : List Hd) (xs us : List Int) (c n i : Nat) (R1 : List Hd) : Prop :=
 R1.length = R.length /\ (∀ k (h : k < R1.length), k < i -> R1[k].xs = rowOf xs c k ++ rowOf us n k) /\ ∀ k (h : k < R1.length) (h' : k < R.length), i <= k -> R1[k] = R[k]
theorem z4U.start (R : List Hd) (xs us : List Int) (c n : Nat) : z4U R xs us c n 0 R := ⟨rfl, fun k _ h => by omega, fun _ _ _ _ => rfl⟩
theorem z4U.next {R R1 : List Hd} {xs us : List Int} {c n i : Nat} (h : z4U R xs us c n i R1) (hi : i < R1.length) (b cap : Nat) : z4U R xs us c n (i + 1) (R1.set i ⟨b, cap, rowOf xs c i ++ rowOf us n i⟩) := by
 refine ⟨by simpa using h.1, fun k hk hki => ?_, fun k hk hk' hki => ?_⟩
 · rw [List.getElem_set];split
   · rename_i e; subst e; rfl
   · exact h.2.1 k (by simpa using hk) (by omega)
 · rw [List.getElem_set, if_neg (by omega)];exact h.2.2 k (by simpa using hk) hk' (by omega)
end Go.Proofs.YtknkkceioockjaaGreat
