/- Part 7 of 8 of the proof that the law SnfDet returns true for every input of bulk at most 1048576 and leaves its arguments as they were: here the contracts of the functions that it calls, and plain lemmas. -/
import Derived.Deep.RegionLaw
import Derived.Test.YtcpjoiffkniccaaGreatDtF
set_option linter.all false
namespace Go.Proofs.YtcpjoiffkniccaaGreat
open Go.RowKit
theorem IExtF_c (v u : Value) (a b : Int) (w : World) (hA : IntAt w 4398046511103 v a) (hB : IntAt w 4398046511103 u b) :
 Calls Tryz.prog 100 #[v, u] w fun e w' => (∃ vg vx vy, e = .returned (.tuple #[vg, vx, vy]) /\ OwnI w' w.heap.size vg (extG a b) /\ OwnI w' w.heap.size vx (extX a b) /\ OwnI w' w.heap.size vy (extY a b)) /\ Below w.heap.size w w' := by
 refine (IExt_c v u a b w hA hB).mono ?_;rintro e w' ⟨⟨g, x, y, vg, vx, vy, rfl, hE, h1, h2, h3⟩, hb⟩;obtain ⟨rfl, rfl, rfl⟩ := hE.unique (ext_is a b);exact ⟨⟨vg, vx, vy, rfl, h1, h2, h3⟩, hb⟩
theorem fmod_wlen {x y : Int} {B : Nat} (hy : y ≠ 0) (h : wlen y.natAbs <= B) : wlen (x.fmod y).natAbs <= B := by
 refine Nat.le_trans (wlen_mono ?_) h;have h1 := Int.emod_nonneg x hy;have h2 := Int.emod_lt x hy;rw [Int.fmod_eq_emod];split <;> omega
theorem extG_dvd (a b : Int) : extG a b ∣ a /\ extG a b ∣ b /\ (a ≠ 0 -> extG a b ≠ 0) /\ 0 <= extG a b := by
 have h := ext_is a b;unfold ExtIs at h;by_cases hb : b = 0
 · rw [if_pos hb] at h;rw [h.1, hb];refine ⟨Int.natAbs_dvd.2 (Int.dvd_refl a), Int.dvd_zero _, fun ha => by omega, by omega⟩
 · rw [if_neg hb] at h;rw [h.1];refine ⟨Int.gcd_dvd_left .., Int.gcd_dvd_right .., fun ha h0 => ?_, by omega⟩;have : Int.gcd a b = 0 := by omega
   exact ha (Int.gcd_eq_zero_iff.1 this).1
theorem ext_det (a b : Int) (hg : extG a b ≠ 0) : extX a b * (a / extG a b) + extY a b * (b / extG a b) = 1 := by
 have h := ext_is a b;have hd := extG_dvd a b;have key : a * extX a b + b * extY a b = extG a b := by
  unfold ExtIs at h;split at h
  · rename_i hb;rw [h.1, h.2.1, h.2.2, hb, Int.zero_mul, Int.add_zero, Int.mul_comm];rcases Int.lt_trichotomy a 0 with e | e | e
    · rw [Int.sign_eq_neg_one_of_neg e]; omega
    · subst e; rfl
    · rw [Int.sign_eq_one_of_pos e]; omega
  · exact h.2.2.2
 have ha : extG a b * (a / extG a b) = a := Int.mul_ediv_cancel' hd.1;have hb : extG a b * (b / extG a b) = b := Int.mul_ediv_cancel' hd.2.1;refine Int.eq_of_mul_eq_mul_left hg ?_;rw [Int.mul_add, Int.mul_left_comm, ha, Int.mul_left_comm, hb, Int.mul_one, Int.mul_comm (extX a b), Int.mul_comm (extY a b)];exact key
theorem extX_le (a b : Int) : (extX a b).natAbs <= b.natAbs + 1 := by
 have h := ext_is a b;have hg := extG_dvd a b;unfold ExtIs at h;by_cases hb : b = 0
 · rw [if_pos hb] at h;rw [h.2.1];have := Int.natAbs_sign a;rcases Int.lt_trichotomy a 0 with h1 | h1 | h1
   · rw [Int.sign_eq_neg_one_of_neg h1]; simp
   · subst h1; simp
   · rw [Int.sign_eq_one_of_pos h1]; simp
 · rw [if_neg hb] at h;obtain ⟨h1, h2, h3, h4⟩ := h;have hg1 : 1 <= extG a b := by
    have h0 : extG a b ≠ 0 := by
     rw [h1]; intro h0;have : Int.gcd a b = 0 := by omega
     exact hb (Int.gcd_eq_zero_iff.1 this).2
    have := hg.2.2.2;omega
   have : extX a b * 1 <= extX a b * extG a b := Int.mul_le_mul_of_nonneg_left hg1 h2;omega
theorem extY_le (a b : Int) : (extY a b).natAbs <= a.natAbs + 1 := by
 have h := ext_is a b;have hx := extX_le a b;unfold ExtIs at h;by_cases hb : b = 0
 · rw [if_pos hb] at h;rw [h.2.2]; simp
 · rw [if_neg hb] at h;obtain ⟨h1, h2, h3, h4⟩ := h;have hg := (extG_dvd a b).2.2.2;have hgb : (extG a b).natAbs <= b.natAbs := by
    rw [h1];simp only [Int.natAbs_natCast];exact Nat.le_of_dvd (by omega) (Int.natAbs_dvd_natAbs.2 (Int.gcd_dvd_right a b) |> fun h => by simpa using h)
   have hg1 : 1 <= extG a b := by
    have h0 : extG a b ≠ 0 := by
     rw [h1]; intro h0;have : Int.gcd a b = 0 := by omega
     exact hb (Int.gcd_eq_zero_iff.1 this).2
    omega
   have hxl : (extX a b).natAbs <= b.natAbs := by
    have : extX a b * 1 <= extX a b * extG a b := Int.mul_le_mul_of_nonneg_left hg1 h2;omega
   have h5 : b * extY a b = extG a b - a * extX a b := by omega
   have h6 : b.natAbs * (extY a b).natAbs <= b.natAbs * (a.natAbs + 1) := by
    rw [<- Int.natAbs_mul, h5];have h7 : (extG a b - a * extX a b).natAbs <= (extG a b).natAbs + (a * extX a b).natAbs := Int.natAbs_sub_le ..;have h8 : (a * extX a b).natAbs <= a.natAbs * b.natAbs := by rw [Int.natAbs_mul]; exact Nat.mul_le_mul_left _ hxl
    rw [Nat.mul_add, Nat.mul_one, Nat.mul_comm b.natAbs a.natAbs];omega
   exact Nat.le_of_mul_le_mul_left h6 (by omega)
theorem wlen_succ {n m B : Nat} (h : n <= m + 1) (hm : wlen m <= B) : wlen n <= B + 2 := by
 have h3 := wlen_mono h;have h4 := wlen_add m 1;have h5 : wlen 1 <= 1 := wlen_le_of_lt (by decide);have h6 : max (wlen m) (wlen 1) <= B + 1 := Nat.max_le.2 ⟨by omega, by omega⟩;omega
def mixT (R : List Hd) (i j : Nat) (a b c d : Int) : List Hd := if h : i < R.length /\ j < R.length then mixR R i j a b c d h.1 h.2 else R
theorem mixT_eq {R : List Hd} {i j : Nat} {a b c d : Int} (hi : i < R.length) (hj : j < R.length) : mixT R i j a b c d = mixR R i j a b c d hi hj := by unfold mixT; rw [dif_pos ⟨hi, hj⟩]
def meetA (R : List Hd) (k n j : Nat) : List Hd := addT R n k (-((ent R n j).fdiv (ent R k j)))
def meetT (R : List Hd) (k n j : Nat) : List Hd :=
 if (ent R n j).fmod (ent R k j) = 0 then meetA R k n j
 else mixT (meetA R k n j) k n (extX (ent (meetA R k n j) k j) (ent (meetA R k n j) n j)) (extY (ent (meetA R k n j) k j) (ent (meetA R k n j) n j))
  (-(ent (meetA R k n j) n j / extG (ent (meetA R k n j) k j) (ent (meetA R k n j) n j))) (ent (meetA R k n j) k j / extG (ent (meetA R k n j) k j) (ent (meetA R k n j) n j))
def AV.int4 (B : Nat) (a b c d : Int) : AV := AV.free (fun w v => ∃ p q r s : P4, v = .agg #[.bool p.1, .slice p.2.1 p.2.2.1 p.2.2.2, .bool q.1, .slice q.2.1 q.2.2.1 q.2.2.2, .bool r.1, .slice r.2.1 r.2.2.1 r.2.2.2, .bool s.1, .slice s.2.1 s.2.2.1 s.2.2.2] /\ OwnI w B (av p) a /\ OwnI w B (av q) b /\ OwnI w B (av r) c /\ OwnI w B (av s) d) (fun ⟨p, q, r, s, e, h1, h2, h3, h4⟩ hb => ⟨p, q, r, s, e, OwnI.below h1 hb, OwnI.below h2 hb, OwnI.below h3 hb, OwnI.below h4 hb⟩) (fun ⟨p, q, r, s, e, h1, h2, h3, h4⟩ hr _ ht k u _ => ⟨p, q, r, s, e, OwnI.setRow h1 hr ht k u, OwnI.setRow h2 hr ht k u, OwnI.setRow h3 hr ht k u, OwnI.setRow h4 hr ht k u⟩)
theorem RowAt.ownBlock {w : World} {g : Nat} {t : TypeId} {cs : List Value} (h : RowAt w g t cs) {g' : Nat} {cur : Array Value} (hg : w.heap[g']? = some (.cells cur 52 (0, 0))) (ht : t ≠ 52) : g' ≠ g := by
 rintro rfl;unfold RowAt at h;rw [hg] at h;simp only [Option.some.injEq, Obj.cells.injEq] at h;exact ht h.2.1.symm
theorem SdAt.typed {w : World} {S : LSt} (h : SdAt w S) : ∀ g, S.rws g -> ∃ t cs, RowAt w g t cs /\ t ≠ 52 := by
 intro g hg;rcases hg with rfl | ⟨r, hr, rfl⟩
 · obtain ⟨tl, n, ho⟩ := h.mat.out; exact ⟨_, _, ho, by decide⟩
 · obtain ⟨ps, tl, nt, hp, _⟩ := h.mat.row r hr;exact ⟨_, _, hp, by decide⟩
theorem LadAt.ownTyped {w : World} {S : LSt} (h : LadAt w S) : ∀ g, S.own g -> ∃ t cs, RowAt w g t cs /\ t ≠ 52 := by
 rintro g (e | ⟨t, ht, e⟩)
 · exact h.sd.typed g e
 · obtain ⟨V, hV⟩ := h.ext t ht;exact hV.sd.typed g ((hV.own g).1 e)
theorem Chg.ownI {S : Nat -> Prop} {w w' : World} (h : Chg S w w') (hS : ∀ g, S g -> ∃ t cs, RowAt w g t cs /\ t ≠ 52) {B : Nat} {v : Value} {x : Int} (hx : OwnI w B v x) : OwnI w' B v x := by
 obtain ⟨ao, cap, rfl, h1, h2, h3, h4⟩ := hx;refine ⟨ao, cap, rfl, h1, h2, h3, ?_⟩;rcases h4 with h0 | ⟨g, c, cur, hv, hbb, hg, r⟩
 · exact .inl h0
 · refine .inr ⟨g, c, cur, hv, hbb, ?_, r⟩;rw [h.block g (Array.getElem?_eq_some_iff.1 hg).1 (fun hs => by obtain ⟨t, cs, hr, ht⟩ := hS g hs; exact hr.ownBlock hg ht rfl)];exact hg
set_option maxRecDepth 100000 in
set_option maxHeartbeats 8000000 in
theorem Meet_c (S : LSt) (k n j B c : Nat) (w : World) (h : LadAt w S) (hk : k < S.R.length) (hn : n < S.R.length) (hkn : k ≠ n) (hj : j < c) (hB : B <= 4000000000000) (hF : Fit B c S.R) (hF1 : Fit B c (meetA S.R k n j)) (hp : ent S.R k j ≠ 0) (hp1 : ent (meetA S.R k n j) k j ≠ 0) (hR : S.R.length <= 1000000) (hc : c <= 1000000) (hT : S.sat B c) :
 Calls Tryz.prog 95 #[.pointer (some ⟨S.lb, 0, none⟩), .int .i64 (k : Int), .int .i64 (n : Int), .int .i64 (j : Int)] w fun e w' => e = .returned (.tuple #[]) /\ LadAt w' (S.withR (meetT S.R k n j)) /\ Chg S.own w w' := by
 have HL := Lib.hid h; clear h;have HF := Lib.hid hF; clear hF;have HF1 := Lib.hid hF1; clear hF1;have HP := Lib.hid hp; clear hp;have HP1 := Lib.hid hp1; clear hp1;have HT := Lib.hid hT; clear hT;go_enter Tryz.func95, Tryz.ntmps95;have cb : w.cell? ⟨S.lb, 0, none⟩ = some (.slice (some ⟨S.o, 0, none⟩) S.R.length S.cap) := HL.out.lad.cell 0;have ci : w.cell? ⟨S.o, n, none⟩ = some (.slice (some ⟨S.R[n].blk, 0, none⟩) S.R[n].xs.length S.R[n].cap) := HL.out.mat.hdr (i := n) hn;have ck : w.cell? ⟨S.o, k, none⟩ = some (.slice (some ⟨S.R[k].blk, 0, none⟩) S.R[k].xs.length S.R[k].cap) := HL.out.mat.hdr (i := k) hk;have hXi := HL.out.mat.row _ (List.getElem_mem (l := S.R) hn);have hXk := HL.out.mat.row _ (List.getElem_mem (l := S.R) hk);have hjl : j < S.R[n].xs.length := by rw [HF.out.len _ (List.getElem_mem hn)]; exact hj
 have hjk : j < S.R[k].xs.length := by rw [HF.out.len _ (List.getElem_mem hk)]; exact hj
 have hjl1 : (j : Int) < (S.R[n].xs.length : Int) := by omega
 have hjk1 : (j : Int) < (S.R[k].xs.length : Int) := by omega
 have hi1 : (n : Int) < (S.R.length : Int) := by omega
 have hk1 : (k : Int) < (S.R.length : Int) := by omega
 obtain ⟨pi, ci0, ci1, hni⟩ := hXi.get hjl;obtain ⟨pk, ck0, ck1, hnk⟩ := hXk.get hjk;have hwi : wlen (S.R[n].xs[j]).natAbs <= B := HF.out.fit _ (List.getElem_mem hn) _ (List.getElem_mem hjl);have hwk : wlen (S.R[k].xs[j]).natAbs <= B := HF.out.fit _ (List.getElem_mem hk) _ (List.getElem_mem hjk);obtain ⟨xi, hxi⟩ : ∃ xi, S.R[n].xs[j] = xi := ⟨_, rfl⟩;obtain ⟨xk, hxk⟩ : ∃ xk, S.R[k].xs[j] = xk := ⟨_, rfl⟩;rw [hxi] at hni hwi;rw [hxk] at hnk hwk;have Hxi := Lib.hid ((ent_eq hn hjl).trans hxi); clear hxi;have Hxk := Lib.hid ((ent_eq hk hjk).trans hxk); clear hxk;have sb1 := hXi.lt;have sb2 := hXk.lt;have sb3 : S.lb < w.heap.size := HL.out.lad.lt;have sb4 : S.o < w.heap.size := HL.out.mat.out.lt;clear hXi hXk;have hpz : xk ≠ 0 := by have := HP.out; rw [Hxk.out] at this; exact this
 have Hpz := Lib.hid hpz; clear hpz;have Hni := Lib.hid (hni.int (L := 17592186044415) (by omega));have Hnk := Lib.hid (hnk.int (L := 17592186044415) (by omega));clear hni hnk;go_wp2;refine wp_region_J ⟨30, fun q_ => [21, 22, 23, 24, 25, 26, 27, 28, 29, 30, 31, 32, 33, 34, 35, 36, 37, 38, 39, 40, 41, 20, 42, 43, 44, 8, 9, 1027, 1028, 10].getD q_ 0,
  fun q_ => [.val (.pointer (some ⟨S.lb, 0, none⟩)), .val (.pointer (some ⟨S.lb, 0, none⟩)), .val (.pointer (some ⟨S.lb, 0, none⟩)), .val (.slice (some ⟨S.o, 0, none⟩) S.R.length S.cap), .val (.int .i64 (n : Int)), .val (.pointer (some ⟨S.o, n, none⟩)), .val (.slice (some ⟨S.R[n].blk, 0, none⟩) S.R[n].xs.length S.R[n].cap), .val (.int .i64 (j : Int)), .val (.pointer (some ⟨S.R[n].blk, j * 2, none⟩)), .val (.agg #[.bool pi.1, .slice pi.2.1 pi.2.2.1 pi.2.2.2]), .val (.pointer (some ⟨S.lb, 0, none⟩)), .val (.pointer (some ⟨S.lb, 0, none⟩)), .val (.pointer (some ⟨S.lb, 0, none⟩)), .val (.slice (some ⟨S.o, 0, none⟩) S.R.length S.cap), .val (.int .i64 (k : Int)), .val (.pointer (some ⟨S.o, k, none⟩)), .val (.slice (some ⟨S.R[k].blk, 0, none⟩) S.R[k].xs.length S.R[k].cap), .val (.int .i64 (j : Int)), .val (.pointer (some ⟨S.R[k].blk, j * 2, none⟩)), .val (.agg #[.bool pk.1, .slice pk.2.1 pk.2.2.1 pk.2.2.2]), .tup2 0 (xi.fdiv xk) (xi.fmod xk), .tup2 0 (xi.fdiv xk) (xi.fmod xk), .int 0 (xi.fdiv xk), .int 0 (xi.fmod xk), .val (.int .i64 0), .ptr w.heap.size 33 2, .ptr w.heap.size 33 2, .any, .any, .val (.int .i64 0)].getD q_ .any,
  [],
  [(.agg #[.bool pi.1, .slice pi.2.1 pi.2.2.1 pi.2.2.2], .at_ 17592186044415 xi), (.agg #[.bool pk.1, .slice pk.2.1 pk.2.2.1 pk.2.2.2], .at_ 17592186044415 xk)],
  [],
  [(27, 8, 33, .int 0 (xi.fdiv xk)), (28, 9, 33, .int 0 (xi.fmod xk))], [(⟨S.lb, 0, none⟩, .slice (some ⟨S.o, 0, none⟩) S.R.length S.cap), (⟨S.o, n, none⟩, .slice (some ⟨S.R[n].blk, 0, none⟩) S.R[n].xs.length S.R[n].cap), (⟨S.o, k, none⟩, .slice (some ⟨S.R[k].blk, 0, none⟩) S.R[k].xs.length S.R[k].cap), (⟨S.R[n].blk, j * 2, none⟩, .bool pi.1), (⟨S.R[n].blk, j * 2 + 1, none⟩, .slice pi.2.1 pi.2.2.1 pi.2.2.2), (⟨S.R[k].blk, j * 2, none⟩, .bool pk.1), (⟨S.R[k].blk, j * 2 + 1, none⟩, .slice pk.2.1 pk.2.2.1 pk.2.2.2)], [(25, 8), (26, 9)]⟩ [21, 22, 23, 24, 25, 26, 27, 28, 29, 30, 31, 32, 33, 34, 35, 36, 37, 38, 39, 40, 41, 20, 42, 43, 44, 8, 9, 10] (w.heap.size) (by kernel_rfl) (by kernel_rfl) (by kernel_rfl) (by kernel_rfl) ?_ ?_ ?_ ?_ ?_ ?_
 · exact allq (Hni.out) (allq (Hnk.out) allz)
 · exact allz
 · exact allq (⟨cb, by dsimp only; omega, allz⟩) (allq (⟨ci, by dsimp only; omega, allz⟩) (allq (⟨ck, by dsimp only; omega, allz⟩) (allq (⟨ci0, by dsimp only; omega, allz⟩) (allq (⟨ci1, by dsimp only; omega, allz⟩) (allq (⟨ck0, by dsimp only; omega, allz⟩) (allq (⟨ck1, by dsimp only; omega, allz⟩) allz))))))
 · exact allz
 · refine allc ?_ (allc ?_ (allc ?_ (allc ?_ (allc ?_ (allc ?_ (allc ?_ (allc ?_ (allc ?_ (allc ?_ (allc ?_ (allc ?_ (allc ?_ (allc ?_ (allc ?_ (allc ?_ (allc ?_ (allc ?_ (allc ?_ (allc ?_ (allc ?_ (allc ?_ (allc ?_ (allc ?_ (allc ?_ (allc ?_ (allc ?_ (allc ?_ (allc ?_ (allc ?_ alln)))))))))))))))))))))))))))));any_goals (first | (intro L fx w' hJ hL hp hcl; have _ := hp0 hp (by decide +kernel); refine wps rfl fun K hK => ?_; go_simp; exact hJ.q hK (by kernel_rfl) rfl) | fail)
   · intro L fx w' hJ hL hp hcl;have e0 := hJ.pt 0 21 (.pointer (some ⟨S.lb, 0, none⟩)) rfl rfl rfl (hp 0 (by decide));rw [e0] at hJ ⊢; clear e0;refine wps rfl fun K hK => ?_;go_simp;exact hJ.q hK (by kernel_rfl) rfl
   · intro L fx w' hJ hL hp hcl;have e1 := hJ.pt 1 22 (.pointer (some ⟨S.lb, 0, none⟩)) rfl rfl rfl (hp 1 (by decide));rw [e1] at hJ ⊢; clear e1;refine wps rfl fun K hK => ?_;go_simp;exact hJ.q hK (by kernel_rfl) rfl
   · intro L fx w' hJ hL hp hcl;have e2 := hJ.pt 2 23 (.pointer (some ⟨S.lb, 0, none⟩)) rfl rfl rfl (hp 2 (by decide));rw [e2] at hJ ⊢; clear e2;refine wps rfl fun K hK => ?_;have cl0 := (hJ.cells _ mm0).1;try dsimp only at cl0
     go_simp;exact hJ.q hK (by kernel_rfl) rfl
   · intro L fx w' hJ hL hp hcl;have e3 := hJ.pt 3 24 (.slice (some ⟨S.o, 0, none⟩) S.R.length S.cap) rfl rfl rfl (hp 3 (by decide));rw [e3] at hJ ⊢; clear e3;have e4 := hJ.pt 4 25 (.int .i64 (n : Int)) rfl rfl rfl (hp 4 (by decide));rw [e4] at hJ ⊢; clear e4;refine wps rfl fun K hK => ?_;go_simp;exact hJ.q hK (by kernel_rfl) rfl
   · intro L fx w' hJ hL hp hcl;have e5 := hJ.pt 5 26 (.pointer (some ⟨S.o, n, none⟩)) rfl rfl rfl (hp 5 (by decide));rw [e5] at hJ ⊢; clear e5;refine wps rfl fun K hK => ?_;have cl0 := (hJ.cells _ mm1).1;try dsimp only at cl0
     go_simp;exact hJ.q hK (by kernel_rfl) rfl
   · intro L fx w' hJ hL hp hcl;have e6 := hJ.pt 6 27 (.slice (some ⟨S.R[n].blk, 0, none⟩) S.R[n].xs.length S.R[n].cap) rfl rfl rfl (hp 6 (by decide));rw [e6] at hJ ⊢; clear e6;have e7 := hJ.pt 7 28 (.int .i64 (j : Int)) rfl rfl rfl (hp 7 (by decide));rw [e7] at hJ ⊢; clear e7;refine wps rfl fun K hK => ?_;go_simp;exact hJ.q hK (by kernel_rfl) rfl
   · intro L fx w' hJ hL hp hcl;have e8 := hJ.pt 8 29 (.pointer (some ⟨S.R[n].blk, j * 2, none⟩)) rfl rfl rfl (hp 8 (by decide));rw [e8] at hJ ⊢; clear e8;refine wps rfl fun K hK => ?_;have cl0 := (hJ.cells _ mm3).1;have cl1 := (hJ.cells _ mm4).1;try dsimp only at cl0 cl1
     go_simp;exact hJ.q hK (by kernel_rfl) rfl
   · intro L fx w' hJ hL hp hcl;have e10 := hJ.pt 10 31 (.pointer (some ⟨S.lb, 0, none⟩)) rfl rfl rfl (hp 10 (by decide));rw [e10] at hJ ⊢; clear e10;refine wps rfl fun K hK => ?_;go_simp;exact hJ.q hK (by kernel_rfl) rfl
   · intro L fx w' hJ hL hp hcl;have e11 := hJ.pt 11 32 (.pointer (some ⟨S.lb, 0, none⟩)) rfl rfl rfl (hp 11 (by decide));rw [e11] at hJ ⊢; clear e11;refine wps rfl fun K hK => ?_;go_simp;exact hJ.q hK (by kernel_rfl) rfl
   · intro L fx w' hJ hL hp hcl;have e12 := hJ.pt 12 33 (.pointer (some ⟨S.lb, 0, none⟩)) rfl rfl rfl (hp 12 (by decide));rw [e12] at hJ ⊢; clear e12;refine wps rfl fun K hK => ?_;have cl0 := (hJ.cells _ mm0).1;try dsimp only at cl0
     go_simp;exact hJ.q hK (by kernel_rfl) rfl
   · intro L fx w' hJ hL hp hcl;have e13 := hJ.pt 13 34 (.slice (some ⟨S.o, 0, none⟩) S.R.length S.cap) rfl rfl rfl (hp 13 (by decide));rw [e13] at hJ ⊢; clear e13;have e14 := hJ.pt 14 35 (.int .i64 (k : Int)) rfl rfl rfl (hp 14 (by decide));rw [e14] at hJ ⊢; clear e14;refine wps rfl fun K hK => ?_;go_simp;exact hJ.q hK (by kernel_rfl) rfl
   · intro L fx w' hJ hL hp hcl;have e15 := hJ.pt 15 36 (.pointer (some ⟨S.o, k, none⟩)) rfl rfl rfl (hp 15 (by decide));rw [e15] at hJ ⊢; clear e15;refine wps rfl fun K hK => ?_;have cl0 := (hJ.cells _ mm2).1;try dsimp only at cl0
     go_simp;exact hJ.q hK (by kernel_rfl) rfl
   · intro L fx w' hJ hL hp hcl;have e16 := hJ.pt 16 37 (.slice (some ⟨S.R[k].blk, 0, none⟩) S.R[k].xs.length S.R[k].cap) rfl rfl rfl (hp 16 (by decide));rw [e16] at hJ ⊢; clear e16;have e17 := hJ.pt 17 38 (.int .i64 (j : Int)) rfl rfl rfl (hp 17 (by decide));rw [e17] at hJ ⊢; clear e17;refine wps rfl fun K hK => ?_;go_simp;exact hJ.q hK (by kernel_rfl) rfl
   · intro L fx w' hJ hL hp hcl;have e18 := hJ.pt 18 39 (.pointer (some ⟨S.R[k].blk, j * 2, none⟩)) rfl rfl rfl (hp 18 (by decide));rw [e18] at hJ ⊢; clear e18;refine wps rfl fun K hK => ?_;have cl0 := (hJ.cells _ mm5).1;have cl1 := (hJ.cells _ mm6).1;try dsimp only at cl0 cl1
     go_simp;exact hJ.q hK (by kernel_rfl) rfl
   · intro L fx w' hJ hL hp hcl;have e9 := hJ.pt 9 30 (.agg #[.bool pi.1, .slice pi.2.1 pi.2.2.1 pi.2.2.2]) rfl rfl rfl (hp 9 (by decide));rw [e9] at hJ ⊢; clear e9;have e19 := hJ.pt 19 40 (.agg #[.bool pk.1, .slice pk.2.1 pk.2.2.1 pk.2.2.2]) rfl rfl rfl (hp 19 (by decide));rw [e19] at hJ ⊢; clear e19;refine wps rfl fun K hK => ?_;go_simp;go_at_call 98;refine (IFloor_c _ _ xi xk _ (show IntAt w' _ _ _ from hJ.base _ mm0) (show IntAt w' _ _ _ from hJ.base _ mm1) Hpz.out).mono ?_;rintro e w4 ⟨⟨v5, v6, rfl, h5, h6⟩, hb4⟩;try dsimp only
     exact hK _ _ ⟨_, by kernel_rfl, hJ.gC 20 rfl (by kernel_rfl) hb4 ⟨_, _, rfl, OwnI.mono h5 (Nat.zero_le _), OwnI.mono h6 (Nat.zero_le _)⟩ (by omega)⟩
   · intro L fx w' hJ hL hp hcl;have e20 := hJ.slot 20 (by show 20 < 30; decide) (hp 20 (by decide));refine wps rfl fun K hK => ?_;go_simp;exact hJ.q hK (by kernel_rfl) e20
   · intro L fx w' hJ hL hp hcl;have e21 := hJ.slot 21 (by show 21 < 30; decide) (hp 21 (by decide));obtain ⟨vq, vr, hvt, hq1, hr1⟩ := e21;rw [patchX (x := fx) (d := 20) (v := (.tuple #[vq, vr, .int .i64 0])) hvt] at hJ ⊢;refine wps rfl fun K hK => ?_;go_simp;exact hJ.q hK (by kernel_rfl) hq1
   · intro L fx w' hJ hL hp hcl;have e21 := hJ.slot 21 (by show 21 < 30; decide) (hp 21 (by decide));obtain ⟨vq, vr, hvt, hq1, hr1⟩ := e21;rw [patchX (x := fx) (d := 20) (v := (.tuple #[vq, vr, .int .i64 0])) hvt] at hJ ⊢;refine wps rfl fun K hK => ?_;go_simp;exact hJ.q hK (by kernel_rfl) hr1
   · intro L fx w' hJ hL hp hcl;have e21 := hJ.slot 21 (by show 21 < 30; decide) (hp 21 (by decide));obtain ⟨vq, vr, hvt, hq1, hr1⟩ := e21;rw [patchX (x := fx) (d := 20) (v := (.tuple #[vq, vr, .int .i64 0])) hvt] at hJ ⊢;refine wps rfl fun K hK => ?_;go_simp;exact hJ.q hK (by kernel_rfl) rfl
   · intro L fx w' hJ hL hp hcl;have hg0 : w.heap.size <= w'.heap.size := Nat.le_trans (by omega : w.heap.size <= w.heap.size) hJ.size;refine wps rfl fun K hK => ?_;go_simp;exact hK _ _ ⟨_, by kernel_rfl, hJ.grow 25 (by show 25 < 30; decide) _ (by kernel_rfl) (by kernel_rfl) (by intro t ht; rcases mc ht with rfl | ht; exact ⟨by show 27 ≠ 25; decide, fun _ => by cases hh : L 27 with | false => rfl | true => have := hcl 27 (by show 27 < 30; decide) hh 25 (by decide); rw [hL] at this; cases this⟩; rcases mc ht with rfl | ht; exact ⟨by show 28 ≠ 25; decide, fun h => absurd (show 9 = 8 from h) (by decide)⟩; cases ht) (by intro p hp; rcases mc hp with rfl | hp; exact ⟨⟨fun _ => rfl, fun _ => rfl⟩, fun _ q hq hne hLq => (by rcases mc hq with rfl | hq; exact absurd rfl hne; rcases mc hq with rfl | hq; (obtain ⟨g9, cs9, hx9, _, hr9, _⟩ := hJ.slot 26 (by show 26 < 30; decide) hLq; have hx9 : fx 9 = _ := hx9; show _ ≠ fx 9; rw [hx9]; intro e9; injection e9 with e9; injection e9 with e9; injection e9 with e9; exact absurd e9 (Nat.ne_of_gt hr9.lt)); cases hq)⟩; rcases mc hp with rfl | hp; exact ⟨⟨fun h => absurd (show 26 = 25 from h) (by decide), fun h => absurd (show 9 = 8 from h) (by decide)⟩, fun h => absurd (show 26 = 25 from h) (by decide)⟩; cases hp) ((Below.refl _ _).alloc (Nat.le_refl _) _) ⟨w'.heap.size, _, rfl, hJ.size, RowAt.new _ _ _, NoW.two _ _ _ _, rfl⟩ hg0⟩
   · intro L fx w' hJ hL hp hcl;have hg0 : w.heap.size <= w'.heap.size := Nat.le_trans (by omega : w.heap.size <= w.heap.size) hJ.size;refine wps rfl fun K hK => ?_;go_simp;exact hK _ _ ⟨_, by kernel_rfl, hJ.grow 26 (by show 26 < 30; decide) _ (by kernel_rfl) (by kernel_rfl) (by intro t ht; rcases mc ht with rfl | ht; exact ⟨by show 27 ≠ 26; decide, fun h => absurd (show 8 = 9 from h) (by decide)⟩; rcases mc ht with rfl | ht; exact ⟨by show 28 ≠ 26; decide, fun _ => by cases hh : L 28 with | false => rfl | true => have := hcl 28 (by show 28 < 30; decide) hh 26 (by decide); rw [hL] at this; cases this⟩; cases ht) (by intro p hp; rcases mc hp with rfl | hp; exact ⟨⟨fun h => absurd (show 25 = 26 from h) (by decide), fun h => absurd (show 8 = 9 from h) (by decide)⟩, fun h => absurd (show 25 = 26 from h) (by decide)⟩; rcases mc hp with rfl | hp; exact ⟨⟨fun _ => rfl, fun _ => rfl⟩, fun _ q hq hne hLq => (by rcases mc hq with rfl | hq; (obtain ⟨g9, cs9, hx9, _, hr9, _⟩ := hJ.slot 25 (by show 25 < 30; decide) hLq; have hx9 : fx 8 = _ := hx9; show _ ≠ fx 8; rw [hx9]; intro e9; injection e9 with e9; injection e9 with e9; injection e9 with e9; exact absurd e9 (Nat.ne_of_gt hr9.lt)); rcases mc hq with rfl | hq; exact absurd rfl hne; cases hq)⟩; cases hp) ((Below.refl _ _).alloc (Nat.le_refl _) _) ⟨w'.heap.size, _, rfl, hJ.size, RowAt.new _ _ _, NoW.two _ _ _ _, rfl⟩ hg0⟩
   · intro L fx w' hJ hL hp hcl;have e25 := hJ.slot 25 (by show 25 < 30; decide) (hp 25 (by decide));have e22 := hJ.slot 22 (by show 22 < 30; decide) (hp 22 (by decide));have e22' := e22;obtain ⟨b7, o7, l7, k7, hv0⟩ := OwnI.parts e22;rw [hv0] at e22';rw [patchX (x := fx) (d := 42) (v := (.agg #[.bool b7, .slice o7 l7 k7])) hv0] at hJ ⊢;obtain ⟨g, cs, hx, hgB, hr0, hn0, hl0⟩ := e25;obtain ⟨z0, z1, rfl⟩ : ∃ z0 z1, cs = [z0, z1] := list2 hl0;have hf0 := RowAt.free hr0 0;have hc0 := RowAt.cell hr0 0;have hf1 := RowAt.free hr0 1;have hc1 := RowAt.cell hr0 1;try dsimp only at hf0 hc0 hf1 hc1
     have hx1 := hx;rw [patchX (x := (updX fx 42 (.agg #[.bool b7, .slice o7 l7 k7]))) (d := 8) hx] at hJ ⊢;refine wps rfl fun K hK => ?_;go_simp;exact hK _ _ ⟨_, by kernel_rfl, hJ.storeNew (us := [.bool b7, .slice o7 l7 k7]) 27 8 _ _ (by show 27 < 30; decide) rfl mm0 (by intro t ht h; rcases mc ht with rfl | ht; rfl; rcases mc ht with rfl | ht; exact absurd (show 28 = 27 from h) (by decide); cases ht) (by intro t ht hne hLt; rcases mc ht with rfl | ht; exact absurd rfl hne; rcases mc ht with rfl | ht; exact hJ.apart (26, 9) mm1 (25, 8) mm0 (by show 26 ≠ 25; decide) (hcl 28 (by show 28 < 30; decide) hLt 26 (by decide)) (hp 25 (by decide)); cases ht) (by kernel_rfl) (by kernel_rfl) (by decide) (by rfl) hgB hr0 hn0 rfl (NoW.two _ _ _ _) ⟨_, _, _, _, rfl, e22'⟩ (by omega)⟩
   · intro L fx w' hJ hL hp hcl;have e26 := hJ.slot 26 (by show 26 < 30; decide) (hp 26 (by decide));have e23 := hJ.slot 23 (by show 23 < 30; decide) (hp 23 (by decide));have e23' := e23;obtain ⟨b7, o7, l7, k7, hv0⟩ := OwnI.parts e23;rw [hv0] at e23';rw [patchX (x := fx) (d := 43) (v := (.agg #[.bool b7, .slice o7 l7 k7])) hv0] at hJ ⊢;obtain ⟨g, cs, hx, hgB, hr0, hn0, hl0⟩ := e26;obtain ⟨z0, z1, rfl⟩ : ∃ z0 z1, cs = [z0, z1] := list2 hl0;have hf0 := RowAt.free hr0 0;have hc0 := RowAt.cell hr0 0;have hf1 := RowAt.free hr0 1;have hc1 := RowAt.cell hr0 1;try dsimp only at hf0 hc0 hf1 hc1
     have hx1 := hx;rw [patchX (x := (updX fx 43 (.agg #[.bool b7, .slice o7 l7 k7]))) (d := 9) hx] at hJ ⊢;refine wps rfl fun K hK => ?_;go_simp;exact hK _ _ ⟨_, by kernel_rfl, hJ.storeNew (us := [.bool b7, .slice o7 l7 k7]) 28 9 _ _ (by show 28 < 30; decide) rfl mm1 (by intro t ht h; rcases mc ht with rfl | ht; exact absurd (show 27 = 28 from h) (by decide); rcases mc ht with rfl | ht; rfl; cases ht) (by intro t ht hne hLt; rcases mc ht with rfl | ht; exact hJ.apart (25, 8) mm0 (26, 9) mm1 (by show 25 ≠ 26; decide) (hcl 27 (by show 27 < 30; decide) hLt 25 (by decide)) (hp 26 (by decide)); rcases mc ht with rfl | ht; exact absurd rfl hne; cases ht) (by kernel_rfl) (by kernel_rfl) (by decide) (by rfl) hgB hr0 hn0 rfl (NoW.two _ _ _ _) ⟨_, _, _, _, rfl, e23'⟩ (by omega)⟩
   · intro L fx w' hJ hL hp hcl;have e24 := hJ.pt 24 44 (.int .i64 0) rfl rfl rfl (hp 24 (by decide));rw [e24] at hJ ⊢; clear e24;refine wps rfl fun K hK => ?_;go_simp;exact hJ.q hK (by kernel_rfl) rfl
 · intro L x' w3 hL hJ;have hfr : Below w.drew.heap.size w.drew w3 := hJ.fr;obtain ⟨g8, cs8, hx8, hg8, hr8, b8, o8, l8, k8, hcs8, hI8⟩ := hJ.new _ mm0 (hL 27 (by show 27 < 30; decide));obtain ⟨g9, cs9, hx9, hg9, hr9, b9, o9, l9, k9, hcs9, hI9⟩ := hJ.new _ mm1 (hL 28 (by show 28 < 30; decide));subst hcs8;subst hcs9;have hx8 : x' 8 = _ := hx8;have hx9 : x' 9 = _ := hx9;rw [patchX (x := x') (d := 8) hx8];rw [patchX (x := updX x' 8 (.pointer (some ⟨g8, 0, none⟩))) (d := 9) (v := .pointer (some ⟨g9, 0, none⟩)) hx9];have hg8 : w.heap.size <= g8 := hg8;have hg9 : w.heap.size <= g9 := hg9;have G8 : Hid (RowAt w3 g8 33 [.bool b8, .slice o8 l8 k8]) := Lib.hid hr8;have G9 : Hid (RowAt w3 g9 33 [.bool b9, .slice o9 l9 k9]) := Lib.hid hr9;have I8 : Hid (OwnI w3 0 (.agg #[.bool b8, .slice o8 l8 k8]) (xi.fdiv xk)) := Lib.hid hI8;have I9 : Hid (OwnI w3 0 (.agg #[.bool b9, .slice o9 l9 k9]) (xi.fmod xk)) := Lib.hid hI9;clear hJ hL hx8 hx9 hr8 hr9 hI8 hI9 cb ci ck ci0 ci1 ck0 ck1;have L3 := Lib.hid (LadAt.below (w := w.drew) HL.out.drew hfr);have C3 := Lib.hid ((Chg.refl S.own w).drew.below hfr);simp only [pN, Nat.reduceEqDiff, ↓reduceIte];have q0 : w3.cell? ⟨g8, 0, none⟩ = some (.bool b8) := G8.out.cell 0;have q1 : w3.cell? ⟨g8, 1, none⟩ = some (.slice o8 l8 k8) := G8.out.cell 1;go_wp2_with fail
   clear q0 q1;have hqw : wlen ((xi.fdiv xk)).natAbs <= B + 2 := fdiv_wlen Hpz.out hwi;refine (INeg_c _ (xi.fdiv xk) _ (OwnI.int I8.out (by omega))).mono ?_;rintro e w4 ⟨⟨vn, rfl, hn4⟩, hb4⟩;have L4 := Lib.hid (L3.out.below hb4);have C4 := Lib.hid (C3.out.below hb4);have G4 := Lib.hid (G9.out.below hb4 G9.out.lt);have I4 := Lib.hid (I9.out.below hb4);have N4 := Lib.hid (OwnI.int (L := B + 2) hn4 (by rw [Int.natAbs_neg]; exact hqw));clear hb4 hn4 L3 C3 G9 I9 G8 I8;go_wp2_with fail
   have hlx : S.R[n].xs.length = S.R[k].xs.length := by rw [HF.out.len _ (List.getElem_mem hn), HF.out.len _ (List.getElem_mem hk)]
   have hlen2 : S.R[n].xs.length <= 4611686018427387903 := by rw [HF.out.len _ (List.getElem_mem hn)]; omega
   refine (MAdd_c S n k vn (-(xi.fdiv xk)) (B + 2) B _ L4.out hn hk (fun e => hkn e.symm) N4.out hlx (fun x hx => by have := HF.out.fit _ (List.getElem_mem hn) x hx; omega) (fun y hy => HF.out.fit _ (List.getElem_mem hk) y hy) (by omega) hlen2 (HT.out.good S.R) (HT.out.okR HF.out) (by omega)).mono ?_;rintro e w5 ⟨rfl, hL5, hC5⟩;have hA : addR S.R n k (-(xi.fdiv xk)) hn hk = meetA S.R k n j := by unfold meetA; rw [Hxi.out, Hxk.out, addT_eq hn hk]
   rw [hA] at hL5;have hns : ¬ S.own g9 := by
    intro e;have := HL.out.own_lt _ e;omega
   have G5 := Lib.hid (hC5.row G4.out hns);have I5 := Lib.hid (hC5.ownI L4.out.ownTyped I4.out);have C5 := Lib.hid (C4.out.trans hC5);have L5 := Lib.hid hL5;clear hC5 hL5 L4 C4 G4 I4 N4 hlx hlen2 hA;have q0 : w5.cell? ⟨g9, 0, none⟩ = some (.bool b9) := G5.out.cell 0;have q1 : w5.cell? ⟨g9, 1, none⟩ = some (.slice o9 l9 k9) := G5.out.cell 1;go_wp2_with fail
   clear q0 q1;refine (ISign_c _ (xi.fmod xk) _ (OwnI.int I5.out (by have := fmod_wlen (x := xi) Hpz.out hwk; omega))).mono ?_;rintro e w6 ⟨rfl, hb6⟩;have L6 := Lib.hid (L5.out.below hb6);have C6 := Lib.hid (C5.out.below hb6);clear hb6 L5 C5 G5 I5;by_cases hr0 : xi.fmod xk = 0
   · have hz : zsign (xi.fmod xk) = 0 := zsign_beq.2 hr0;rw [hz];have HR0 := Lib.hid hr0;clear hz hr0;go_wp2;refine bodyPost_ret (results_none (by kernel_rfl) _ _ _) rfl ?_;have e : meetT S.R k n j = meetA S.R k n j := by unfold meetT; rw [Hxi.out, Hxk.out, if_pos HR0.out]
     rw [e];exact ⟨rfl, L6.out, C6.out⟩
   have hz0 : ¬ zsign (xi.fmod xk) = 0 := fun h => hr0 (zsign_beq.1 h);have HR0 := Lib.hid hr0;obtain ⟨sg, hsg⟩ : ∃ s, zsign (xi.fmod xk) = s := ⟨_, rfl⟩;rw [hsg] at hz0 ⊢;have hzb : (sg == 0) = false := by simpa using hz0
   clear hsg hr0;have hlenA : (meetA S.R k n j).length = S.R.length := addT_length ..;have hmT : meetT S.R k n j = mixT (meetA S.R k n j) k n (extX (ent (meetA S.R k n j) k j) (ent (meetA S.R k n j) n j)) (extY (ent (meetA S.R k n j) k j) (ent (meetA S.R k n j) n j)) (-(ent (meetA S.R k n j) n j / extG (ent (meetA S.R k n j) k j) (ent (meetA S.R k n j) n j))) (ent (meetA S.R k n j) k j / extG (ent (meetA S.R k n j) k j) (ent (meetA S.R k n j) n j)) := by
    unfold meetT; rw [Hxi.out, Hxk.out, if_neg HR0.out]
   obtain ⟨R1, hR1⟩ : ∃ R1, meetA S.R k n j = R1 := ⟨_, rfl⟩;rw [hR1] at hmT hlenA L6 HF1 HP1;have hkA : k < R1.length := by omega
   have hnA : n < R1.length := by omega
   have HMT := Lib.hid hmT; clear hmT;have HLA := Lib.hid hlenA; clear hlenA;have HR1 := Lib.hid hR1; clear hR1;clear hjl hjk hjl1 hjk1 hi1 hk1 sb1 sb2 sb3 sb4;go_wp2_with fail
   clear hzb hz0;have cb : w6.cell? ⟨S.lb, 0, none⟩ = some (.slice (some ⟨S.o, 0, none⟩) R1.length S.cap) := L6.out.lad.cell 0;have ci : w6.cell? ⟨S.o, k, none⟩ = some (.slice (some ⟨R1[k].blk, 0, none⟩) R1[k].xs.length R1[k].cap) := L6.out.mat.hdr (i := k) hkA;have ck : w6.cell? ⟨S.o, n, none⟩ = some (.slice (some ⟨R1[n].blk, 0, none⟩) R1[n].xs.length R1[n].cap) := L6.out.mat.hdr (i := n) hnA;have hXi := L6.out.mat.row _ (List.getElem_mem (l := R1) hkA);have hXk := L6.out.mat.row _ (List.getElem_mem (l := R1) hnA);have hjl : j < R1[k].xs.length := by rw [HF1.out.len _ (List.getElem_mem hkA)]; exact hj
   have hjk : j < R1[n].xs.length := by rw [HF1.out.len _ (List.getElem_mem hnA)]; exact hj
   have hjl1 : (j : Int) < (R1[k].xs.length : Int) := by omega
   have hjk1 : (j : Int) < (R1[n].xs.length : Int) := by omega
   have hi1 : (k : Int) < (R1.length : Int) := by omega
   have hk1 : (n : Int) < (R1.length : Int) := by omega
   obtain ⟨pp, ci0, ci1, hni⟩ := hXi.get hjl;obtain ⟨pv, ck0, ck1, hnk⟩ := hXk.get hjk;have hwi : wlen (R1[k].xs[j]).natAbs <= B := HF1.out.fit _ (List.getElem_mem hkA) _ (List.getElem_mem hjl);have hwk : wlen (R1[n].xs[j]).natAbs <= B := HF1.out.fit _ (List.getElem_mem hnA) _ (List.getElem_mem hjk);obtain ⟨xp, hxi⟩ : ∃ xp, R1[k].xs[j] = xp := ⟨_, rfl⟩;obtain ⟨xv, hxk⟩ : ∃ xv, R1[n].xs[j] = xv := ⟨_, rfl⟩;rw [hxi] at hni hwi;rw [hxk] at hnk hwk;have Hxp := Lib.hid ((ent_eq hkA hjl).trans hxi); clear hxi;have Hxv := Lib.hid ((ent_eq hnA hjk).trans hxk); clear hxk;have sb1 := hXi.lt;have sb2 := hXk.lt;have sb3 : S.lb < w6.heap.size := L6.out.lad.lt;have sb4 : S.o < w6.heap.size := L6.out.mat.out.lt;clear hXi hXk;have Hnp := Lib.hid (hni.int (L := 4398046511103) (by omega));have Hnv := Lib.hid (hnk.int (L := 4398046511103) (by omega));clear hni hnk;have hxp0 : xp ≠ 0 := by have := HP1.out; rw [Hxp.out] at this; exact this
   have Hxp0 := Lib.hid hxp0; clear hxp0;refine wp_region_J ⟨24, fun q_ => [54, 55, 56, 57, 58, 59, 60, 61, 62, 63, 64, 65, 66, 67, 68, 69, 70, 71, 72, 73, 11, 12, 1022, 1023].getD q_ 0,
    fun q_ => [.val (.pointer (some ⟨S.lb, 0, none⟩)), .val (.pointer (some ⟨S.lb, 0, none⟩)), .val (.pointer (some ⟨S.lb, 0, none⟩)), .val (.slice (some ⟨S.o, 0, none⟩) R1.length S.cap), .val (.int .i64 (k : Int)), .val (.pointer (some ⟨S.o, k, none⟩)), .val (.slice (some ⟨R1[k].blk, 0, none⟩) R1[k].xs.length R1[k].cap), .val (.int .i64 (j : Int)), .val (.pointer (some ⟨R1[k].blk, j * 2, none⟩)), .val (.agg #[.bool pp.1, .slice pp.2.1 pp.2.2.1 pp.2.2.2]), .val (.pointer (some ⟨S.lb, 0, none⟩)), .val (.pointer (some ⟨S.lb, 0, none⟩)), .val (.pointer (some ⟨S.lb, 0, none⟩)), .val (.slice (some ⟨S.o, 0, none⟩) R1.length S.cap), .val (.int .i64 (n : Int)), .val (.pointer (some ⟨S.o, n, none⟩)), .val (.slice (some ⟨R1[n].blk, 0, none⟩) R1[n].xs.length R1[n].cap), .val (.int .i64 (j : Int)), .val (.pointer (some ⟨R1[n].blk, j * 2, none⟩)), .val (.agg #[.bool pv.1, .slice pv.2.1 pv.2.2.1 pv.2.2.2]), .ptr w6.heap.size 33 2, .ptr w6.heap.size 33 2, .any, .any].getD q_ .any,
    [],
    [],
    [],
    [(22, 11, 33, .cells [.bool pp.1, .slice pp.2.1 pp.2.2.1 pp.2.2.2]), (23, 12, 33, .cells [.bool pv.1, .slice pv.2.1 pv.2.2.1 pv.2.2.2])], [(⟨S.lb, 0, none⟩, .slice (some ⟨S.o, 0, none⟩) R1.length S.cap), (⟨S.o, k, none⟩, .slice (some ⟨R1[k].blk, 0, none⟩) R1[k].xs.length R1[k].cap), (⟨S.o, n, none⟩, .slice (some ⟨R1[n].blk, 0, none⟩) R1[n].xs.length R1[n].cap), (⟨R1[k].blk, j * 2, none⟩, .bool pp.1), (⟨R1[k].blk, j * 2 + 1, none⟩, .slice pp.2.1 pp.2.2.1 pp.2.2.2), (⟨R1[n].blk, j * 2, none⟩, .bool pv.1), (⟨R1[n].blk, j * 2 + 1, none⟩, .slice pv.2.1 pv.2.2.1 pv.2.2.2)], [(20, 11), (21, 12)]⟩ [54, 55, 56, 57, 58, 59, 60, 61, 62, 63, 64, 65, 66, 67, 68, 69, 70, 71, 72, 73, 11, 12] (w6.heap.size) (by kernel_rfl) (by kernel_rfl) (by kernel_rfl) (by kernel_rfl) ?_ ?_ ?_ ?_ ?_ ?_
   · exact allz
   · exact allz
   · exact allq (⟨cb, by dsimp only; omega, allz⟩) (allq (⟨ci, by dsimp only; omega, allz⟩) (allq (⟨ck, by dsimp only; omega, allz⟩) (allq (⟨ci0, by dsimp only; omega, allz⟩) (allq (⟨ci1, by dsimp only; omega, allz⟩) (allq (⟨ck0, by dsimp only; omega, allz⟩) (allq (⟨ck1, by dsimp only; omega, allz⟩) allz))))))
   · exact allz
   · refine allc ?_ (allc ?_ (allc ?_ (allc ?_ (allc ?_ (allc ?_ (allc ?_ (allc ?_ (allc ?_ (allc ?_ (allc ?_ (allc ?_ (allc ?_ (allc ?_ (allc ?_ (allc ?_ (allc ?_ (allc ?_ (allc ?_ (allc ?_ (allc ?_ (allc ?_ (allc ?_ (allc ?_ alln)))))))))))))))))))))));any_goals (first | (intro L fx w' hJ hL hp hcl; have _ := hp0 hp (by decide +kernel); refine wps rfl fun K hK => ?_; go_simp; exact hJ.q hK (by kernel_rfl) rfl) | fail)
     · intro L fx w' hJ hL hp hcl;have e0 := hJ.pt 0 54 (.pointer (some ⟨S.lb, 0, none⟩)) rfl rfl rfl (hp 0 (by decide));rw [e0] at hJ ⊢; clear e0;refine wps rfl fun K hK => ?_;go_simp;exact hJ.q hK (by kernel_rfl) rfl
     · intro L fx w' hJ hL hp hcl;have e1 := hJ.pt 1 55 (.pointer (some ⟨S.lb, 0, none⟩)) rfl rfl rfl (hp 1 (by decide));rw [e1] at hJ ⊢; clear e1;refine wps rfl fun K hK => ?_;go_simp;exact hJ.q hK (by kernel_rfl) rfl
     · intro L fx w' hJ hL hp hcl;have e2 := hJ.pt 2 56 (.pointer (some ⟨S.lb, 0, none⟩)) rfl rfl rfl (hp 2 (by decide));rw [e2] at hJ ⊢; clear e2;refine wps rfl fun K hK => ?_;have cl0 := (hJ.cells _ mm0).1;try dsimp only at cl0
       go_simp;exact hJ.q hK (by kernel_rfl) rfl
     · intro L fx w' hJ hL hp hcl;have e3 := hJ.pt 3 57 (.slice (some ⟨S.o, 0, none⟩) R1.length S.cap) rfl rfl rfl (hp 3 (by decide));rw [e3] at hJ ⊢; clear e3;have e4 := hJ.pt 4 58 (.int .i64 (k : Int)) rfl rfl rfl (hp 4 (by decide));rw [e4] at hJ ⊢; clear e4;refine wps rfl fun K hK => ?_;go_simp;exact hJ.q hK (by kernel_rfl) rfl
     · intro L fx w' hJ hL hp hcl;have e5 := hJ.pt 5 59 (.pointer (some ⟨S.o, k, none⟩)) rfl rfl rfl (hp 5 (by decide));rw [e5] at hJ ⊢; clear e5;refine wps rfl fun K hK => ?_;have cl0 := (hJ.cells _ mm1).1;try dsimp only at cl0
       go_simp;exact hJ.q hK (by kernel_rfl) rfl
     · intro L fx w' hJ hL hp hcl;have e6 := hJ.pt 6 60 (.slice (some ⟨R1[k].blk, 0, none⟩) R1[k].xs.length R1[k].cap) rfl rfl rfl (hp 6 (by decide));rw [e6] at hJ ⊢; clear e6;have e7 := hJ.pt 7 61 (.int .i64 (j : Int)) rfl rfl rfl (hp 7 (by decide));rw [e7] at hJ ⊢; clear e7;refine wps rfl fun K hK => ?_;go_simp;exact hJ.q hK (by kernel_rfl) rfl
     · intro L fx w' hJ hL hp hcl;have e8 := hJ.pt 8 62 (.pointer (some ⟨R1[k].blk, j * 2, none⟩)) rfl rfl rfl (hp 8 (by decide));rw [e8] at hJ ⊢; clear e8;refine wps rfl fun K hK => ?_;have cl0 := (hJ.cells _ mm3).1;have cl1 := (hJ.cells _ mm4).1;try dsimp only at cl0 cl1
       go_simp;exact hJ.q hK (by kernel_rfl) rfl
     · intro L fx w' hJ hL hp hcl;have e10 := hJ.pt 10 64 (.pointer (some ⟨S.lb, 0, none⟩)) rfl rfl rfl (hp 10 (by decide));rw [e10] at hJ ⊢; clear e10;refine wps rfl fun K hK => ?_;go_simp;exact hJ.q hK (by kernel_rfl) rfl
     · intro L fx w' hJ hL hp hcl;have e11 := hJ.pt 11 65 (.pointer (some ⟨S.lb, 0, none⟩)) rfl rfl rfl (hp 11 (by decide));rw [e11] at hJ ⊢; clear e11;refine wps rfl fun K hK => ?_;go_simp;exact hJ.q hK (by kernel_rfl) rfl
     · intro L fx w' hJ hL hp hcl;have e12 := hJ.pt 12 66 (.pointer (some ⟨S.lb, 0, none⟩)) rfl rfl rfl (hp 12 (by decide));rw [e12] at hJ ⊢; clear e12;refine wps rfl fun K hK => ?_;have cl0 := (hJ.cells _ mm0).1;try dsimp only at cl0
       go_simp;exact hJ.q hK (by kernel_rfl) rfl
     · intro L fx w' hJ hL hp hcl;have e13 := hJ.pt 13 67 (.slice (some ⟨S.o, 0, none⟩) R1.length S.cap) rfl rfl rfl (hp 13 (by decide));rw [e13] at hJ ⊢; clear e13;have e14 := hJ.pt 14 68 (.int .i64 (n : Int)) rfl rfl rfl (hp 14 (by decide));rw [e14] at hJ ⊢; clear e14;refine wps rfl fun K hK => ?_;go_simp;exact hJ.q hK (by kernel_rfl) rfl
     · intro L fx w' hJ hL hp hcl;have e15 := hJ.pt 15 69 (.pointer (some ⟨S.o, n, none⟩)) rfl rfl rfl (hp 15 (by decide));rw [e15] at hJ ⊢; clear e15;refine wps rfl fun K hK => ?_;have cl0 := (hJ.cells _ mm2).1;try dsimp only at cl0
       go_simp;exact hJ.q hK (by kernel_rfl) rfl
     · intro L fx w' hJ hL hp hcl;have e16 := hJ.pt 16 70 (.slice (some ⟨R1[n].blk, 0, none⟩) R1[n].xs.length R1[n].cap) rfl rfl rfl (hp 16 (by decide));rw [e16] at hJ ⊢; clear e16;have e17 := hJ.pt 17 71 (.int .i64 (j : Int)) rfl rfl rfl (hp 17 (by decide));rw [e17] at hJ ⊢; clear e17;refine wps rfl fun K hK => ?_;go_simp;exact hJ.q hK (by kernel_rfl) rfl
     · intro L fx w' hJ hL hp hcl;have e18 := hJ.pt 18 72 (.pointer (some ⟨R1[n].blk, j * 2, none⟩)) rfl rfl rfl (hp 18 (by decide));rw [e18] at hJ ⊢; clear e18;refine wps rfl fun K hK => ?_;have cl0 := (hJ.cells _ mm5).1;have cl1 := (hJ.cells _ mm6).1;try dsimp only at cl0 cl1
       go_simp;exact hJ.q hK (by kernel_rfl) rfl
     · intro L fx w' hJ hL hp hcl;have hg0 : w6.heap.size <= w'.heap.size := Nat.le_trans (by omega : w6.heap.size <= w6.heap.size) hJ.size;refine wps rfl fun K hK => ?_;go_simp;exact hK _ _ ⟨_, by kernel_rfl, hJ.grow 20 (by show 20 < 24; decide) _ (by kernel_rfl) (by kernel_rfl) (by intro t ht; rcases mc ht with rfl | ht; exact ⟨by show 22 ≠ 20; decide, fun _ => by cases hh : L 22 with | false => rfl | true => have := hcl 22 (by show 22 < 24; decide) hh 20 (by decide); rw [hL] at this; cases this⟩; rcases mc ht with rfl | ht; exact ⟨by show 23 ≠ 20; decide, fun h => absurd (show 12 = 11 from h) (by decide)⟩; cases ht) (by intro p hp; rcases mc hp with rfl | hp; exact ⟨⟨fun _ => rfl, fun _ => rfl⟩, fun _ q hq hne hLq => (by rcases mc hq with rfl | hq; exact absurd rfl hne; rcases mc hq with rfl | hq; (obtain ⟨g9, cs9, hx9, _, hr9, _⟩ := hJ.slot 21 (by show 21 < 24; decide) hLq; have hx9 : fx 12 = _ := hx9; show _ ≠ fx 12; rw [hx9]; intro e9; injection e9 with e9; injection e9 with e9; injection e9 with e9; exact absurd e9 (Nat.ne_of_gt hr9.lt)); cases hq)⟩; rcases mc hp with rfl | hp; exact ⟨⟨fun h => absurd (show 21 = 20 from h) (by decide), fun h => absurd (show 12 = 11 from h) (by decide)⟩, fun h => absurd (show 21 = 20 from h) (by decide)⟩; cases hp) ((Below.refl _ _).alloc (Nat.le_refl _) _) ⟨w'.heap.size, _, rfl, hJ.size, RowAt.new _ _ _, NoW.two _ _ _ _, rfl⟩ hg0⟩
     · intro L fx w' hJ hL hp hcl;have hg0 : w6.heap.size <= w'.heap.size := Nat.le_trans (by omega : w6.heap.size <= w6.heap.size) hJ.size;refine wps rfl fun K hK => ?_;go_simp;exact hK _ _ ⟨_, by kernel_rfl, hJ.grow 21 (by show 21 < 24; decide) _ (by kernel_rfl) (by kernel_rfl) (by intro t ht; rcases mc ht with rfl | ht; exact ⟨by show 22 ≠ 21; decide, fun h => absurd (show 11 = 12 from h) (by decide)⟩; rcases mc ht with rfl | ht; exact ⟨by show 23 ≠ 21; decide, fun _ => by cases hh : L 23 with | false => rfl | true => have := hcl 23 (by show 23 < 24; decide) hh 21 (by decide); rw [hL] at this; cases this⟩; cases ht) (by intro p hp; rcases mc hp with rfl | hp; exact ⟨⟨fun h => absurd (show 20 = 21 from h) (by decide), fun h => absurd (show 11 = 12 from h) (by decide)⟩, fun h => absurd (show 20 = 21 from h) (by decide)⟩; rcases mc hp with rfl | hp; exact ⟨⟨fun _ => rfl, fun _ => rfl⟩, fun _ q hq hne hLq => (by rcases mc hq with rfl | hq; (obtain ⟨g9, cs9, hx9, _, hr9, _⟩ := hJ.slot 20 (by show 20 < 24; decide) hLq; have hx9 : fx 11 = _ := hx9; show _ ≠ fx 11; rw [hx9]; intro e9; injection e9 with e9; injection e9 with e9; injection e9 with e9; exact absurd e9 (Nat.ne_of_gt hr9.lt)); rcases mc hq with rfl | hq; exact absurd rfl hne; cases hq)⟩; cases hp) ((Below.refl _ _).alloc (Nat.le_refl _) _) ⟨w'.heap.size, _, rfl, hJ.size, RowAt.new _ _ _, NoW.two _ _ _ _, rfl⟩ hg0⟩
     · intro L fx w' hJ hL hp hcl;have e20 := hJ.slot 20 (by show 20 < 24; decide) (hp 20 (by decide));have e9 := hJ.pt 9 63 (.agg #[.bool pp.1, .slice pp.2.1 pp.2.2.1 pp.2.2.2]) rfl rfl rfl (hp 9 (by decide));rw [e9] at hJ ⊢; clear e9;obtain ⟨g, cs, hx, hgB, hr0, hn0, hl0⟩ := e20;obtain ⟨z0, z1, rfl⟩ : ∃ z0 z1, cs = [z0, z1] := list2 hl0;have hf0 := RowAt.free hr0 0;have hc0 := RowAt.cell hr0 0;have hf1 := RowAt.free hr0 1;have hc1 := RowAt.cell hr0 1;try dsimp only at hf0 hc0 hf1 hc1
       have hx1 := hx;rw [patchX (x := (updX fx 63 (.agg #[.bool pp.1, .slice pp.2.1 pp.2.2.1 pp.2.2.2]))) (d := 11) hx] at hJ ⊢;refine wps rfl fun K hK => ?_;go_simp;exact hK _ _ ⟨_, by kernel_rfl, hJ.storeNew (us := [.bool pp.1, .slice pp.2.1 pp.2.2.1 pp.2.2.2]) 22 11 _ _ (by show 22 < 24; decide) rfl mm0 (by intro t ht h; rcases mc ht with rfl | ht; rfl; rcases mc ht with rfl | ht; exact absurd (show 23 = 22 from h) (by decide); cases ht) (by intro t ht hne hLt; rcases mc ht with rfl | ht; exact absurd rfl hne; rcases mc ht with rfl | ht; exact hJ.apart (21, 12) mm1 (20, 11) mm0 (by show 21 ≠ 20; decide) (hcl 23 (by show 23 < 24; decide) hLt 21 (by decide)) (hp 20 (by decide)); cases ht) (by kernel_rfl) (by kernel_rfl) (by decide) (by rfl) hgB hr0 hn0 rfl (NoW.two _ _ _ _) rfl (by omega)⟩
     · intro L fx w' hJ hL hp hcl;have e21 := hJ.slot 21 (by show 21 < 24; decide) (hp 21 (by decide));have e19 := hJ.pt 19 73 (.agg #[.bool pv.1, .slice pv.2.1 pv.2.2.1 pv.2.2.2]) rfl rfl rfl (hp 19 (by decide));rw [e19] at hJ ⊢; clear e19;obtain ⟨g, cs, hx, hgB, hr0, hn0, hl0⟩ := e21;obtain ⟨z0, z1, rfl⟩ : ∃ z0 z1, cs = [z0, z1] := list2 hl0;have hf0 := RowAt.free hr0 0;have hc0 := RowAt.cell hr0 0;have hf1 := RowAt.free hr0 1;have hc1 := RowAt.cell hr0 1;try dsimp only at hf0 hc0 hf1 hc1
       have hx1 := hx;rw [patchX (x := (updX fx 73 (.agg #[.bool pv.1, .slice pv.2.1 pv.2.2.1 pv.2.2.2]))) (d := 12) hx] at hJ ⊢;refine wps rfl fun K hK => ?_;go_simp;exact hK _ _ ⟨_, by kernel_rfl, hJ.storeNew (us := [.bool pv.1, .slice pv.2.1 pv.2.2.1 pv.2.2.2]) 23 12 _ _ (by show 23 < 24; decide) rfl mm1 (by intro t ht h; rcases mc ht with rfl | ht; exact absurd (show 22 = 23 from h) (by decide); rcases mc ht with rfl | ht; rfl; cases ht) (by intro t ht hne hLt; rcases mc ht with rfl | ht; exact hJ.apart (20, 11) mm0 (21, 12) mm1 (by show 20 ≠ 21; decide) (hcl 22 (by show 22 < 24; decide) hLt 20 (by decide)) (hp 21 (by decide)); rcases mc ht with rfl | ht; exact absurd rfl hne; cases ht) (by kernel_rfl) (by kernel_rfl) (by decide) (by rfl) hgB hr0 hn0 rfl (NoW.two _ _ _ _) rfl (by omega)⟩
   · intro L' x1 w7 hL hJ;have hfr : Below w6.drew.heap.size w6.drew w7 := hJ.fr;obtain ⟨g11, cs11, hx11, hg11, hr11, hcs11⟩ := hJ.new _ mm0 (hL 22 (by show 22 < 24; decide));obtain ⟨g12, cs12, hx12, hg12, hr12, hcs12⟩ := hJ.new _ mm1 (hL 23 (by show 23 < 24; decide));obtain rfl : cs11 = _ := hcs11;obtain rfl : cs12 = _ := hcs12;have hx11 : x1 11 = _ := hx11;have hx12 : x1 12 = _ := hx12;rw [patchX (x := x1) (d := 11) hx11];rw [patchX (x := updX x1 11 (.pointer (some ⟨g11, 0, none⟩))) (d := 12) (v := .pointer (some ⟨g12, 0, none⟩)) hx12];have G11 : Hid (RowAt w7 g11 33 [.bool pp.1, .slice pp.2.1 pp.2.2.1 pp.2.2.2]) := Lib.hid hr11;have G12 : Hid (RowAt w7 g12 33 [.bool pv.1, .slice pv.2.1 pv.2.2.1 pv.2.2.2]) := Lib.hid hr12;clear hJ hL hx11 hx12 hr11 hr12 cb ci ck ci0 ci1 ck0 ck1;have L7 := Lib.hid (LadAt.below (w := w6.drew) L6.out.drew hfr);have C7 := Lib.hid (C6.out.drew.below hfr);have P7 := Lib.hid (IntAt.below (w := w6.drew) Hnp.out hfr);have V7 := Lib.hid (IntAt.below (w := w6.drew) Hnv.out hfr);clear L6 C6 Hnp Hnv;simp only [pN, Nat.reduceEqDiff, ↓reduceIte];have q0 : w7.cell? ⟨g11, 0, none⟩ = some (.bool pp.1) := G11.out.cell 0;have q1 : w7.cell? ⟨g11, 1, none⟩ = some (.slice pp.2.1 pp.2.2.1 pp.2.2.2) := G11.out.cell 1;have q2 : w7.cell? ⟨g12, 0, none⟩ = some (.bool pv.1) := G12.out.cell 0;have q3 : w7.cell? ⟨g12, 1, none⟩ = some (.slice pv.2.1 pv.2.2.1 pv.2.2.2) := G12.out.cell 1;go_wp2_with fail
     clear q0 q1 q2 q3;refine (IExtF_c _ _ xp xv _ P7.out V7.out).mono ?_;rintro e w8 ⟨⟨vg, vx, vy, rfl, hge, hxe, hye⟩, hb8⟩;obtain ⟨zg, rfl⟩ := NumAt.parts hge.num;obtain ⟨zx, rfl⟩ := NumAt.parts hxe.num;obtain ⟨zy, rfl⟩ := NumAt.parts hye.num;have hge := hge.mono (Nat.zero_le _);have hxe := hxe.mono (Nat.zero_le _);have hye := hye.mono (Nat.zero_le _);unfold av at *;obtain ⟨GG, hGG⟩ : ∃ GG, extG xp xv = GG := ⟨_, rfl⟩;obtain ⟨XX, hXX⟩ : ∃ XX, extX xp xv = XX := ⟨_, rfl⟩;obtain ⟨YY, hYY⟩ : ∃ YY, extY xp xv = YY := ⟨_, rfl⟩;obtain ⟨hd1, hd2, hg0, hg1⟩ := extG_dvd xp xv;have hxl := extX_le xp xv;have hyl := extY_le xp xv;rw [hGG] at hge hd1 hd2 hg0;rw [hXX] at hxe hxl;rw [hYY] at hye hyl;have hgw : wlen GG.natAbs <= 4398046511103 := by
      refine Nat.le_trans (wlen_mono (Nat.le_of_dvd ?_ (Int.natAbs_dvd_natAbs.2 hd1))) (by omega : wlen xp.natAbs <= _);have := Hxp0.out; omega
     have hxw : wlen XX.natAbs <= B + 2 := wlen_succ hxl hwk;have hyw : wlen YY.natAbs <= B + 2 := wlen_succ hyl hwi;have HG0 := Lib.hid (hg0 Hxp0.out);have HD1 := Lib.hid hd1;have HD2 := Lib.hid hd2;have HGG := Lib.hid hGG; clear hGG;have HXX := Lib.hid hXX; clear hXX;have HYY := Lib.hid hYY; clear hYY;clear hd1 hd2 hg0 hg1 hxl hyl;have GA_0 := Lib.hid (G11.out.below hb8 G11.out.lt);have GB_0 := Lib.hid (G12.out.below hb8 G12.out.lt);have GE_0 := Lib.hid hge;have XE_0 := Lib.hid hxe;have YE_0 := Lib.hid hye;have PA_0 := Lib.hid (P7.out.below hb8);have VA_0 := Lib.hid (V7.out.below hb8);have LL_0 := Lib.hid (L7.out.below hb8);have CC_0 := Lib.hid (C7.out.below hb8);clear G11 G12 P7 V7 L7 C7 hge hxe hye hb8;obtain ⟨n13, n14, n15, hb9⟩ := three_new w8 #[.bool zg.1, .slice zg.2.1 zg.2.2.1 zg.2.2.2] #[.bool zx.1, .slice zx.2.1 zx.2.2.1 zx.2.2.2] #[.bool zy.1, .slice zy.2.1 zy.2.2.1 zy.2.2.2] 33 33 33;have GA_1 := Lib.hid (RowAt.below (w := w8) GA_0.out hb9 GA_0.out.lt);have GB_1 := Lib.hid (RowAt.below (w := w8) GB_0.out hb9 GB_0.out.lt);have GE_1 := Lib.hid (OwnI.below (w := w8) GE_0.out hb9);have XE_1 := Lib.hid (OwnI.below (w := w8) XE_0.out hb9);have YE_1 := Lib.hid (OwnI.below (w := w8) YE_0.out hb9);have PA_1 := Lib.hid (IntAt.below (w := w8) PA_0.out hb9);have VA_1 := Lib.hid (IntAt.below (w := w8) VA_0.out hb9);have LL_1 := Lib.hid (LadAt.below (w := w8) LL_0.out hb9);have CC_1 := Lib.hid (Chg.below CC_0.out hb9);clear GA_0 GB_0 GE_0 XE_0 YE_0 PA_0 VA_0 LL_0 CC_0;have N13_1 := Lib.hid n13;have N14_1 := Lib.hid n14;have N15_1 := Lib.hid n15;clear n13 n14 n15 hb9;have qa0 : (((w8.alloc (.cells #[.bool zg.1, .slice zg.2.1 zg.2.2.1 zg.2.2.2] 33)).alloc (.cells #[.bool zx.1, .slice zx.2.1 zx.2.2.1 zx.2.2.2] 33)).alloc (.cells #[.bool zy.1, .slice zy.2.1 zy.2.2.1 zy.2.2.2] 33)).cell? ⟨g11, 0, none⟩ = some (.bool pp.1) := GA_1.out.cell 0;have qa1 : (((w8.alloc (.cells #[.bool zg.1, .slice zg.2.1 zg.2.2.1 zg.2.2.2] 33)).alloc (.cells #[.bool zx.1, .slice zx.2.1 zx.2.2.1 zx.2.2.2] 33)).alloc (.cells #[.bool zy.1, .slice zy.2.1 zy.2.2.1 zy.2.2.2] 33)).cell? ⟨g11, 1, none⟩ = some (.slice pp.2.1 pp.2.2.1 pp.2.2.2) := GA_1.out.cell 1;have qb0 : (((w8.alloc (.cells #[.bool zg.1, .slice zg.2.1 zg.2.2.1 zg.2.2.2] 33)).alloc (.cells #[.bool zx.1, .slice zx.2.1 zx.2.2.1 zx.2.2.2] 33)).alloc (.cells #[.bool zy.1, .slice zy.2.1 zy.2.2.1 zy.2.2.2] 33)).cell? ⟨w8.heap.size, 0, none⟩ = some (.bool zg.1) := N13_1.out.cell 0;have qb1 : (((w8.alloc (.cells #[.bool zg.1, .slice zg.2.1 zg.2.2.1 zg.2.2.2] 33)).alloc (.cells #[.bool zx.1, .slice zx.2.1 zx.2.2.1 zx.2.2.2] 33)).alloc (.cells #[.bool zy.1, .slice zy.2.1 zy.2.2.1 zy.2.2.2] 33)).cell? ⟨w8.heap.size, 1, none⟩ = some (.slice zg.2.1 zg.2.2.1 zg.2.2.2) := N13_1.out.cell 1;go_wp2_with fail
     clear qa0 qa1 qb0 qb1;generalize (((w8.alloc (.cells #[.bool zg.1, .slice zg.2.1 zg.2.2.1 zg.2.2.2] 33)).alloc (.cells #[.bool zx.1, .slice zx.2.1 zx.2.2.1 zx.2.2.2] 33)).alloc (.cells #[.bool zy.1, .slice zy.2.1 zy.2.2.1 zy.2.2.2] 33)) = w9 at *;refine (IExact_c _ _ xp GG _ (PA_1.out.mono (by omega)) (OwnI.int GE_1.out (by omega)) HG0.out HD1.out).mono ?_;rintro e w10 ⟨⟨va, rfl, hva⟩, hb10⟩;obtain ⟨za, rfl⟩ := NumAt.parts hva.num;have hva := hva.mono (Nat.zero_le _);unfold av at *;have GA_2 := Lib.hid (RowAt.below (w := w9) GA_1.out hb10 GA_1.out.lt);have GB_2 := Lib.hid (RowAt.below (w := w9) GB_1.out hb10 GB_1.out.lt);have N13_2 := Lib.hid (RowAt.below (w := w9) N13_1.out hb10 N13_1.out.lt);have N14_2 := Lib.hid (RowAt.below (w := w9) N14_1.out hb10 N14_1.out.lt);have N15_2 := Lib.hid (RowAt.below (w := w9) N15_1.out hb10 N15_1.out.lt);have GE_2 := Lib.hid (OwnI.below (w := w9) GE_1.out hb10);have XE_2 := Lib.hid (OwnI.below (w := w9) XE_1.out hb10);have YE_2 := Lib.hid (OwnI.below (w := w9) YE_1.out hb10);have PA_2 := Lib.hid (IntAt.below (w := w9) PA_1.out hb10);have VA_2 := Lib.hid (IntAt.below (w := w9) VA_1.out hb10);have LL_2 := Lib.hid (LadAt.below (w := w9) LL_1.out hb10);have CC_2 := Lib.hid (Chg.below CC_1.out hb10);clear GA_1 GB_1 N13_1 N14_1 N15_1 GE_1 XE_1 YE_1 PA_1 VA_1 LL_1 CC_1;have AE_2 := Lib.hid hva;clear hva hb10;have hb11 : Below w10.heap.size w10 (w10.alloc (.cells #[.bool za.1, .slice za.2.1 za.2.2.1 za.2.2.2] 33)) := (Below.refl _ _).alloc (Nat.le_refl _) _;have n16 := RowAt.new w10 #[.bool za.1, .slice za.2.1 za.2.2.1 za.2.2.2] 33;have GA_3 := Lib.hid (RowAt.below (w := w10) GA_2.out hb11 GA_2.out.lt);have GB_3 := Lib.hid (RowAt.below (w := w10) GB_2.out hb11 GB_2.out.lt);have N13_3 := Lib.hid (RowAt.below (w := w10) N13_2.out hb11 N13_2.out.lt);have N14_3 := Lib.hid (RowAt.below (w := w10) N14_2.out hb11 N14_2.out.lt);have N15_3 := Lib.hid (RowAt.below (w := w10) N15_2.out hb11 N15_2.out.lt);have GE_3 := Lib.hid (OwnI.below (w := w10) GE_2.out hb11);have XE_3 := Lib.hid (OwnI.below (w := w10) XE_2.out hb11);have YE_3 := Lib.hid (OwnI.below (w := w10) YE_2.out hb11);have AE_3 := Lib.hid (OwnI.below (w := w10) AE_2.out hb11);have PA_3 := Lib.hid (IntAt.below (w := w10) PA_2.out hb11);have VA_3 := Lib.hid (IntAt.below (w := w10) VA_2.out hb11);have LL_3 := Lib.hid (LadAt.below (w := w10) LL_2.out hb11);have CC_3 := Lib.hid (Chg.below CC_2.out hb11);clear GA_2 GB_2 N13_2 N14_2 N15_2 GE_2 XE_2 YE_2 AE_2 PA_2 VA_2 LL_2 CC_2;have N16_3 := Lib.hid n16;clear n16 hb11;have qa0 : (w10.alloc (.cells #[.bool za.1, .slice za.2.1 za.2.2.1 za.2.2.2] 33)).cell? ⟨g12, 0, none⟩ = some (.bool pv.1) := GB_3.out.cell 0;have qa1 : (w10.alloc (.cells #[.bool za.1, .slice za.2.1 za.2.2.1 za.2.2.2] 33)).cell? ⟨g12, 1, none⟩ = some (.slice pv.2.1 pv.2.2.1 pv.2.2.2) := GB_3.out.cell 1;have qb0 : (w10.alloc (.cells #[.bool za.1, .slice za.2.1 za.2.2.1 za.2.2.2] 33)).cell? ⟨w8.heap.size, 0, none⟩ = some (.bool zg.1) := N13_3.out.cell 0;have qb1 : (w10.alloc (.cells #[.bool za.1, .slice za.2.1 za.2.2.1 za.2.2.2] 33)).cell? ⟨w8.heap.size, 1, none⟩ = some (.slice zg.2.1 zg.2.2.1 zg.2.2.2) := N13_3.out.cell 1;go_wp2_with fail
     clear qa0 qa1 qb0 qb1;generalize (w10.alloc (.cells #[.bool za.1, .slice za.2.1 za.2.2.1 za.2.2.2] 33)) = w11 at *;refine (IExact_c _ _ xv GG _ (VA_3.out.mono (by omega)) (OwnI.int GE_3.out (by omega)) HG0.out HD2.out).mono ?_;rintro e w12 ⟨⟨vb, rfl, hvb⟩, hb12⟩;obtain ⟨zb, rfl⟩ := NumAt.parts hvb.num;have hvb := hvb.mono (Nat.zero_le _);unfold av at *;have N14_4 := Lib.hid (RowAt.below (w := w11) N14_3.out hb12 N14_3.out.lt);have N15_4 := Lib.hid (RowAt.below (w := w11) N15_3.out hb12 N15_3.out.lt);have N16_4 := Lib.hid (RowAt.below (w := w11) N16_3.out hb12 N16_3.out.lt);have XE_4 := Lib.hid (OwnI.below (w := w11) XE_3.out hb12);have YE_4 := Lib.hid (OwnI.below (w := w11) YE_3.out hb12);have AE_4 := Lib.hid (OwnI.below (w := w11) AE_3.out hb12);have LL_4 := Lib.hid (LadAt.below (w := w11) LL_3.out hb12);have CC_4 := Lib.hid (Chg.below CC_3.out hb12);clear N14_3 N15_3 N16_3 XE_3 YE_3 AE_3 LL_3 CC_3;clear GA_3 GB_3 N13_3 GE_3 PA_3 VA_3;have BE_4 := Lib.hid hvb;clear hvb hb12;have hb13 : Below w12.heap.size w12 (w12.alloc (.cells #[.bool zb.1, .slice zb.2.1 zb.2.2.1 zb.2.2.2] 33)) := (Below.refl _ _).alloc (Nat.le_refl _) _;have n18 := RowAt.new w12 #[.bool zb.1, .slice zb.2.1 zb.2.2.1 zb.2.2.2] 33;have N14_5 := Lib.hid (RowAt.below (w := w12) N14_4.out hb13 N14_4.out.lt);have N15_5 := Lib.hid (RowAt.below (w := w12) N15_4.out hb13 N15_4.out.lt);have N16_5 := Lib.hid (RowAt.below (w := w12) N16_4.out hb13 N16_4.out.lt);have XE_5 := Lib.hid (OwnI.below (w := w12) XE_4.out hb13);have YE_5 := Lib.hid (OwnI.below (w := w12) YE_4.out hb13);have AE_5 := Lib.hid (OwnI.below (w := w12) AE_4.out hb13);have BE_5 := Lib.hid (OwnI.below (w := w12) BE_4.out hb13);have LL_5 := Lib.hid (LadAt.below (w := w12) LL_4.out hb13);have CC_5 := Lib.hid (Chg.below CC_4.out hb13);clear N14_4 N15_4 N16_4 XE_4 YE_4 AE_4 BE_4 LL_4 CC_4;have N18_5 := Lib.hid n18;clear n18 hb13;go_wp2;generalize (w12.alloc (.cells #[.bool zb.1, .slice zb.2.1 zb.2.2.1 zb.2.2.2] 33)) = w13 at *;have hs18 := N18_5.out.lt;have hs16 := N16_5.out.lt;have hs15 := N15_5.out.lt;have hs14 := N14_5.out.lt;obtain ⟨aq, haq⟩ : ∃ aq, xp / GG = aq := ⟨_, rfl⟩;obtain ⟨bq, hbq⟩ : ∃ bq, xv / GG = bq := ⟨_, rfl⟩;have haw : wlen aq.natAbs <= B := by rw [<- haq]; exact Nat.le_trans (wlen_mono (Int.natAbs_ediv_le_natAbs ..)) hwi
     have hbqw : wlen bq.natAbs <= B := by rw [<- hbq]; exact Nat.le_trans (wlen_mono (Int.natAbs_ediv_le_natAbs ..)) hwk
     have AE := AE_5.out;rw [haq] at AE;have AE := Lib.hid AE;have BE := BE_5.out;rw [hbq] at BE;have BE := Lib.hid BE;have HAQ := Lib.hid haq; clear haq;have HBQ := Lib.hid hbq; clear hbq;clear AE_5 BE_5;refine wp_region_K ⟨11, fun q_ => [93, 94, 95, 96, 97, 98, 99, 100, 101, 102, 103].getD q_ 0,
      fun q_ => [.val (.pointer (some ⟨S.lb, 0, none⟩)), .val (.int .i64 (k : Int)), .val (.int .i64 (n : Int)), .val (.agg #[.bool zx.1, .slice zx.2.1 zx.2.2.1 zx.2.2.2]), .val (.agg #[.bool zy.1, .slice zy.2.1 zy.2.2.1 zy.2.2.2]), .val (.agg #[.bool zx.1, .slice zx.2.1 zx.2.2.1 zx.2.2.2, .bool zy.1, .slice zy.2.1 zy.2.2.1 zy.2.2.2]), .val (.agg #[.bool zb.1, .slice zb.2.1 zb.2.2.1 zb.2.2.2]), .int 0 (-bq), .val (.agg #[.bool za.1, .slice za.2.1 za.2.2.1 za.2.2.2]), .int2 0 (-bq) aq, .int4 0 XX YY (-bq) aq].getD q_ .any,
      [],
      [(.agg #[.bool zx.1, .slice zx.2.1 zx.2.2.1 zx.2.2.2], .int 0 XX), (.agg #[.bool zy.1, .slice zy.2.1 zy.2.2.1 zy.2.2.2], .int 0 YY), (.agg #[.bool za.1, .slice za.2.1 za.2.2.1 za.2.2.2], .int 0 aq), (.agg #[.bool zb.1, .slice zb.2.1 zb.2.2.1 zb.2.2.2], .int 0 bq)],
      [(w8.heap.size + 1, 33, [.bool zx.1, .slice zx.2.1 zx.2.2.1 zx.2.2.2]), (w8.heap.size + 2, 33, [.bool zy.1, .slice zy.2.1 zy.2.2.1 zy.2.2.2]), (w10.heap.size, 33, [.bool za.1, .slice za.2.1 za.2.2.1 za.2.2.2]), (w12.heap.size, 33, [.bool zb.1, .slice zb.2.1 zb.2.2.1 zb.2.2.2])],
      [], [], []⟩ [93, 94, 95, 96, 97, 98, 99, 100, 101, 102, 103, 104] (w13.heap.size) (by kernel_rfl) (by kernel_rfl) (by kernel_rfl) (by kernel_rfl) (by kernel_rfl) ?_ ?_ ?_ ?_ ?_ ?_
     · exact allq (XE_5.out) (allq (YE_5.out) (allq (AE.out) (allq (BE.out) allz)))
     · exact allq (⟨N14_5.out, (N14_5.out).lt, allz⟩) (allq (⟨N15_5.out, (N15_5.out).lt, allz⟩) (allq (⟨N16_5.out, (N16_5.out).lt, allz⟩) (allq (⟨N18_5.out, (N18_5.out).lt, allz⟩) allz)))
     · exact allz
     · exact allz
     · refine allc ?_ (allc ?_ (allc ?_ (allc ?_ (allc ?_ (allc ?_ (allc ?_ (allc ?_ (allc ?_ (allc ?_ (allc ?_ alln))))))))));any_goals (first | (intro L fx w' hJ hL hp hcl; have _ := hp0 hp (by decide +kernel); refine wps rfl fun K hK => ?_; go_simp; exact hJ.q hK (by kernel_rfl) rfl) | fail)
       · intro L fx w' hJ hL hp hcl;refine wps rfl fun K hK => ?_;have rw0 := (hJ.rows _ mm0).1;have cl0 : w'.cell? ⟨w8.heap.size + 1, 0, none⟩ = some (.bool zx.1) := rw0.cell 0;have cl1 : w'.cell? ⟨w8.heap.size + 1, 1, none⟩ = some (.slice zx.2.1 zx.2.2.1 zx.2.2.2) := rw0.cell 1;go_simp;exact hJ.q hK (by kernel_rfl) rfl
       · intro L fx w' hJ hL hp hcl;refine wps rfl fun K hK => ?_;have rw0 := (hJ.rows _ mm1).1;have cl0 : w'.cell? ⟨w8.heap.size + 2, 0, none⟩ = some (.bool zy.1) := rw0.cell 0;have cl1 : w'.cell? ⟨w8.heap.size + 2, 1, none⟩ = some (.slice zy.2.1 zy.2.2.1 zy.2.2.2) := rw0.cell 1;go_simp;exact hJ.q hK (by kernel_rfl) rfl
       · intro L fx w' hJ hL hp hcl;have e3 := hJ.pt 3 96 (.agg #[.bool zx.1, .slice zx.2.1 zx.2.2.1 zx.2.2.2]) rfl rfl rfl (hp 3 (by decide));rw [e3] at hJ ⊢; clear e3;have e4 := hJ.pt 4 97 (.agg #[.bool zy.1, .slice zy.2.1 zy.2.2.1 zy.2.2.2]) rfl rfl rfl (hp 4 (by decide));rw [e4] at hJ ⊢; clear e4;refine wps rfl fun K hK => ?_;go_simp;exact hJ.q hK (by kernel_rfl) rfl
       · intro L fx w' hJ hL hp hcl;refine wps rfl fun K hK => ?_;have rw0 := (hJ.rows _ mm3).1;have cl0 : w'.cell? ⟨w12.heap.size, 0, none⟩ = some (.bool zb.1) := rw0.cell 0;have cl1 : w'.cell? ⟨w12.heap.size, 1, none⟩ = some (.slice zb.2.1 zb.2.2.1 zb.2.2.2) := rw0.cell 1;go_simp;exact hJ.q hK (by kernel_rfl) rfl
       · intro L fx w' hJ hL hp hcl;have e6 := hJ.pt 6 99 (.agg #[.bool zb.1, .slice zb.2.1 zb.2.2.1 zb.2.2.2]) rfl rfl rfl (hp 6 (by decide));rw [e6] at hJ ⊢; clear e6;refine wps rfl fun K hK => ?_;go_simp;go_at_call 28;refine (INeg_c _ bq _ (OwnI.int (show OwnI w' _ _ _ from hJ.base _ mm3) (by omega))).mono ?_;rintro e w4 ⟨⟨v5, rfl, h5⟩, hb4⟩;try dsimp only
         exact hK _ _ ⟨_, by kernel_rfl, hJ.gC 7 rfl (by kernel_rfl) hb4 (OwnI.mono h5 (Nat.zero_le _)) (by omega)⟩
       · intro L fx w' hJ hL hp hcl;refine wps rfl fun K hK => ?_;have rw0 := (hJ.rows _ mm2).1;have cl0 : w'.cell? ⟨w10.heap.size, 0, none⟩ = some (.bool za.1) := rw0.cell 0;have cl1 : w'.cell? ⟨w10.heap.size, 1, none⟩ = some (.slice za.2.1 za.2.2.1 za.2.2.2) := rw0.cell 1;go_simp;exact hJ.q hK (by kernel_rfl) rfl
       · intro L fx w' hJ hL hp hcl;have e7 := hJ.slot 7 (by show 7 < 11; decide) (hp 7 (by decide));have e8 := hJ.pt 8 101 (.agg #[.bool za.1, .slice za.2.1 za.2.2.1 za.2.2.2]) rfl rfl rfl (hp 8 (by decide));rw [e8] at hJ ⊢; clear e8;have e7' := e7;obtain ⟨b7, o7, l7, k7, hv0⟩ := OwnI.parts e7;rw [hv0] at e7';rw [patchX (x := (updX fx 101 (.agg #[.bool za.1, .slice za.2.1 za.2.2.1 za.2.2.2]))) (d := 100) (v := (.agg #[.bool b7, .slice o7 l7 k7])) hv0] at hJ ⊢;refine wps rfl fun K hK => ?_;go_simp;exact hK _ _ ⟨_, by kernel_rfl, hJ.pC 9 rfl (by kernel_rfl) ⟨_, _, _, _, _, _, _, _, rfl, e7', (show OwnI w' _ _ _ from hJ.base _ mm2)⟩ (by omega)⟩
       · intro L fx w' hJ hL hp hcl;have e9 := hJ.slot 9 (by show 9 < 11; decide) (hp 9 (by decide));have e5 := hJ.pt 5 98 (.agg #[.bool zx.1, .slice zx.2.1 zx.2.2.1 zx.2.2.2, .bool zy.1, .slice zy.2.1 zy.2.2.1 zy.2.2.2]) rfl rfl rfl (hp 5 (by decide));rw [e5] at hJ ⊢; clear e5;obtain ⟨b1, o1, l1, k1, b2, o2, l2, k2, hv0, hO1, hO2⟩ := e9;rw [patchX (x := (updX fx 98 (.agg #[.bool zx.1, .slice zx.2.1 zx.2.2.1 zx.2.2.2, .bool zy.1, .slice zy.2.1 zy.2.2.1 zy.2.2.2]))) (d := 102) (v := (.agg #[.bool b1, .slice o1 l1 k1, .bool b2, .slice o2 l2 k2])) hv0] at hJ ⊢;refine wps rfl fun K hK => ?_;go_simp;exact hK _ _ ⟨_, by kernel_rfl, hJ.pC 10 rfl (by kernel_rfl) ⟨zx, zy, (b1, o1, l1, k1), (b2, o2, l2, k2), rfl, (show OwnI w' _ _ _ from hJ.base _ mm0), (show OwnI w' _ _ _ from hJ.base _ mm1), hO1, hO2⟩ (by omega)⟩
     · intro L2 x2 w14 hL hJ;have hfr : Below w13.drew.heap.size w13.drew w14 := hJ.fr;have e0 : x2 93 = .pointer (some ⟨S.lb, 0, none⟩) := hJ.slot 0 (by show 0 < 11; decide) (hL 0 (by show 0 < 11; decide));have e1 : x2 94 = .int .i64 (k : Int) := hJ.slot 1 (by show 1 < 11; decide) (hL 1 (by show 1 < 11; decide));have e2 : x2 95 = .int .i64 (n : Int) := hJ.slot 2 (by show 2 < 11; decide) (hL 2 (by show 2 < 11; decide));obtain ⟨mp, mq, mr, ms, e10, hm1, hm2, hm3, hm4⟩ := hJ.slot 10 (by show 10 < 11; decide) (hL 10 (by show 10 < 11; decide));have e10 : x2 103 = .agg #[.bool mp.1, .slice mp.2.1 mp.2.2.1 mp.2.2.2, .bool mq.1, .slice mq.2.1 mq.2.2.1 mq.2.2.2, .bool mr.1, .slice mr.2.1 mr.2.2.1 mr.2.2.2, .bool ms.1, .slice ms.2.1 ms.2.2.1 ms.2.2.2] := e10;rw [patchX (x := x2) (d := 93) (v := .pointer (some ⟨S.lb, 0, none⟩)) e0];rw [patchX (x := (updX x2 93 (.pointer (some ⟨S.lb, 0, none⟩)))) (d := 94) (v := .int .i64 (k : Int)) e1];rw [patchX (x := (updX (updX x2 93 (.pointer (some ⟨S.lb, 0, none⟩))) 94 (.int .i64 (k : Int)))) (d := 95) (v := .int .i64 (n : Int)) e2];rw [patchX (x := (updX (updX (updX x2 93 (.pointer (some ⟨S.lb, 0, none⟩))) 94 (.int .i64 (k : Int))) 95 (.int .i64 (n : Int)))) (d := 103) (v := .agg #[.bool mp.1, .slice mp.2.1 mp.2.2.1 mp.2.2.2, .bool mq.1, .slice mq.2.1 mq.2.2.1 mq.2.2.2, .bool mr.1, .slice mr.2.1 mr.2.2.1 mr.2.2.2, .bool ms.1, .slice ms.2.1 ms.2.2.1 ms.2.2.2]) e10];have LF := Lib.hid (LadAt.below (w := w13.drew) LL_5.out.drew hfr);have CF := Lib.hid (CC_5.out.drew.below hfr);have M1 := Lib.hid (OwnI.int (L := B + 2) hm1 hxw);have M2 := Lib.hid (OwnI.int (L := B + 2) hm2 hyw);have M3 := Lib.hid (OwnI.int (L := B + 2) hm3 (by rw [Int.natAbs_neg]; omega));have M4 := Lib.hid (OwnI.int (L := B + 2) hm4 (by omega));clear hJ hL e0 e1 e2 e10 hm1 hm2 hm3 hm4 LL_5 CC_5;refine wps rfl fun K hK => ?_;go_simp;go_at_call 101;have hlx : R1[k].xs.length = R1[n].xs.length := by rw [HF1.out.len _ (List.getElem_mem hkA), HF1.out.len _ (List.getElem_mem hnA)]
       have hlen2 : R1[k].xs.length <= 4611686018427387903 := by rw [HF1.out.len _ (List.getElem_mem hkA)]; omega
       have hdet : XX * aq - YY * (-bq) = 1 := by
        have := ext_det xp xv (by rw [HGG.out]; exact HG0.out);rw [HGG.out, HXX.out, HYY.out, HAQ.out, HBQ.out] at this;rw [Int.mul_neg];omega
       refine (MMix_c (S.withR R1) k n mp mq mr ms XX YY (-bq) aq (B + 2) B _ LF.out hkA hnA hkn M1.out M2.out M3.out M4.out hlx (fun x hx => HF1.out.fit _ (List.getElem_mem hkA) x hx) (fun y hy => HF1.out.fit _ (List.getElem_mem hnA) y hy) (by omega) hlen2 (HT.out.good R1) (HT.out.okR HF1.out) (by omega) hdet).mono ?_;rintro e w15 ⟨rfl, hL15, hC15⟩;try dsimp only
       refine hK _ _ ⟨⟨updX (updX (updX (updX (updX x2 93 (.pointer (some ⟨S.lb, 0, none⟩))) 94 (.int .i64 (k : Int))) 95 (.int .i64 (n : Int))) 103 (.agg #[.bool mp.1, .slice mp.2.1 mp.2.2.1 mp.2.2.2, .bool mq.1, .slice mq.2.1 mq.2.2.1 mq.2.2.2, .bool mr.1, .slice mr.2.1 mr.2.2.1 mr.2.2.2, .bool ms.1, .slice ms.2.1 ms.2.2.1 ms.2.2.2])) 104 (.tuple #[]), by kernel_rfl⟩, ?_⟩;clear hK;have hE : meetT S.R k n j = mixR R1 k n XX YY (-bq) aq hkA hnA := by
        rw [HMT.out, Hxp.out, Hxv.out, HGG.out, HXX.out, HYY.out, HAQ.out, HBQ.out, mixT_eq hkA hnA]
       have hown : ∀ q, (S.withR R1).own q ↔ S.own q := by
        intro q;rw [<- HR1.out];unfold meetA;rw [addT_eq hn hk];exact own_setXs S n _ q
       have HE := Lib.hid hE; clear hE;have HO := Lib.hid hown; clear hown;have LG := Lib.hid hL15; clear hL15;have CG := Lib.hid (CF.out.trans (hC15.mono (fun q _ e => (HO.out q).1 e))); clear hC15;go_wp2;refine bodyPost_end (results_none (by kernel_rfl) _ _ _) rfl ?_;rw [HE.out];exact ⟨rfl, LG.out, CG.out⟩
theorem lead_ne : ∀ {xs : List Int} {j : Nat} (_ : lead xs = j) (hj : j < xs.length), xs[j] ≠ 0
 | x :: xs, j, h, hj => by
  unfold lead at h;by_cases h0 : x = 0
  · rw [if_pos h0] at h;subst h;simpa using lead_ne (xs := xs) rfl (by simpa using hj)
  · rw [if_neg h0] at h;subst h;simpa using h0
theorem NumAt.sign {w : World} {p : P4} {x : Int} (h : NumAt w (av p) x) (hx : x ≠ 0) : p.1 = decide (x < 0) := by
 obtain ⟨n, ao, len, cap, ws, he, hW, hl, hL, hc, rfl⟩ := h.1;unfold av at he;have : p.1 = n := by injection he with he; simp at he; exact he.1
 rw [this];exact zi_neg_iff hx
def turnT (R : List Hd) (i : Nat) : List Hd := if h : i < R.length then turnR R i h else R
def swapT (R : List Hd) (i j : Nat) : List Hd := if h : i < R.length /\ j < R.length then swapR R i j h.1 h.2 else R
theorem turnT_eq {R : List Hd} {i : Nat} (hi : i < R.length) : turnT R i = turnR R i hi := by unfold turnT; rw [dif_pos hi]
theorem swapT_eq {R : List Hd} {i j : Nat} (hi : i < R.length) (hj : j < R.length) : swapT R i j = swapR R i j hi hj := by unfold swapT; rw [dif_pos ⟨hi, hj⟩]
theorem turnT_length (R : List Hd) (i : Nat) : (turnT R i).length = R.length := by
 unfold turnT; split
 · unfold turnR; rw [setXs_length]
 · rfl
theorem swapT_length (R : List Hd) (i j : Nat) : (swapT R i j).length = R.length := by
 unfold swapT; split
 · exact swapR_length ..
 · rfl
theorem mixT_length (R : List Hd) (i j : Nat) (a b c d : Int) : (mixT R i j a b c d).length = R.length := by
 unfold mixT; split
 · unfold mixR; rw [setXs_length, setXs_length]
 · rfl
theorem meetT_length (R : List Hd) (k n j : Nat) : (meetT R k n j).length = R.length := by
 unfold meetT meetA; split
 · exact addT_length ..
 · rw [mixT_length]; exact addT_length ..
def swapsT (at_ : Nat) : Nat -> List Hd -> List Hd
 | 0, R => R
 | i + 1, R => if i + 1 <= at_ then R else swapsT at_ i (swapT R (i + 1) i)
inductive PutT (B c n : Nat) : Nat -> Int -> List Hd -> Bool -> List Hd -> Prop
 | zero {at_ : Nat} {last : Int} {R R' : List Hd} (hF : Fit B c R) (h : leadOf R n = c ∨ (leadOf R n : Int) <= last) (hs : SOut B c (leadsOf R n) n n R R') : PutT B c n at_ last R false R'
 | stop {at_ : Nat} {last : Int} {R R' : List Hd} (hF : Fit B c R) (h1 : leadOf R n < c) (h2 : last < leadOf R n) (a : Nat) (ha : at_ <= a) (hn : a <= n) (hlt : ∀ i, at_ <= i -> i < a -> leadOf R i < leadOf R n) (hb : a = n ∨ leadOf R n < leadOf R a)
  (hF2 : Fit B c (swapsT a n (if ent R n (leadOf R n) < 0 then turnT R n else R)))
  (hs : SOut B c (leadsOf (swapsT a n (if ent R n (leadOf R n) < 0 then turnT R n else R)) (n + 1)) (n + 1) (n + 1) (swapsT a n (if ent R n (leadOf R n) < 0 then turnT R n else R)) R') : PutT B c n at_ last R true R'
 | meet {at_ : Nat} {last : Int} {R R' : List Hd} {b : Bool} (hF : Fit B c R) (h1 : leadOf R n < c) (h2 : last < leadOf R n) (a : Nat) (ha : at_ <= a) (hn : a < n) (hlt : ∀ i, at_ <= i -> i < a -> leadOf R i < leadOf R n) (hj : leadOf R a = leadOf R n)
  (hp : ent R a (leadOf R n) ≠ 0) (hF1 : Fit B c (meetA R a n (leadOf R n))) (hp1 : ent (meetA R a n (leadOf R n)) a (leadOf R n) ≠ 0)
  (hs : PutT B c n a (leadOf R n) (meetT R a n (leadOf R n)) b R') : PutT B c n at_ last R b R'
theorem own_turnT (S : LSt) (i k : Nat) : (S.withR (turnT S.R i)).own k ↔ S.own k := by
 unfold turnT; split
 · exact own_setXs S i _ k
 · exact Iff.rfl
theorem own_addT (S : LSt) (i j : Nat) (x : Int) (k : Nat) : (S.withR (addT S.R i j x)).own k ↔ S.own k := by
 unfold addT; split
 · exact own_setXs S i _ k
 · exact Iff.rfl
theorem own_mixT (S : LSt) (i j : Nat) (a b c d : Int) (k : Nat) : (S.withR (mixT S.R i j a b c d)).own k ↔ S.own k := by
 unfold mixT; split
 · exact (own_setXs (S.withR (setXs S.R i _)) j _ k).trans (own_setXs S i _ k)
 · exact Iff.rfl
theorem own_meetT (S : LSt) (a n j k : Nat) : (S.withR (meetT S.R a n j)).own k ↔ S.own k := by
 unfold meetT meetA; split
 · exact own_addT S n a _ k
 · exact (own_mixT (S.withR (addT S.R n a _)) a n _ _ _ _ k).trans (own_addT S n a _ k)
theorem own_swapT (S : LSt) (i j k : Nat) : (S.withR (swapT S.R i j)).own k ↔ S.own k := by
 unfold swapT; split
 · rename_i h;exact or_congr (rws_blk (fun b => swapR_blk h.1 h.2 b) k) Iff.rfl
 · exact Iff.rfl
set_option maxRecDepth 100000 in
set_option maxHeartbeats 8000000 in
theorem Put_c (S : LSt) (n B c : Nat) (res : Bool) (R' : List Hd) (w : World) (h : LadAt w S) (hn : n < S.R.length) (hB : B <= 4000000000000) (hP : PutT B c n 0 (-1) S.R res R') (hR : S.R.length <= 100000) (hc : c <= 1000000) (hT : S.sat B c) :
 Calls Tryz.prog 77 #[.pointer (some ⟨S.lb, 0, none⟩), .int .i64 (n : Int)] w fun e w' => e = .returned (.bool res) /\ LadAt w' (S.withR R') /\ Chg S.own w w' := by
 have HT := Lib.hid hT; clear hT;have HL := Lib.hid h; clear h;have HP := Lib.hid hP; clear hP;go_enter Tryz.func77, Tryz.ntmps77;go_wp2;go_loopw [5, 6] (fun a_ l_ wr => ∃ (at_ : Nat) (last : Int) (R : List Hd), at_ <= n /\ (-1 <= last /\ last <= (c : Int)) /\ a_ = .int .i64 (at_ : Int) /\ l_ = .int .i64 last /\ Hid (R.length = S.R.length) /\ Hid (PutT B c n at_ last R res R') /\ Hid (LadAt wr (S.withR R)) /\ Hid (Chg S.own w wr) /\ Hid (∀ k, (S.withR R).own k ↔ S.own k)) (fun _ l_ _ => ((c : Int) - intOf l_).toNat)
 case atStart => exact ⟨0, -1, S.R, Nat.zero_le _, ⟨by omega, by omega⟩, rfl, rfl, rfl, HP, HL, Chg.refl .., fun _ => Iff.rfl⟩
 case round =>
  obtain ⟨at_, last, R, hat, ⟨hl1, hl2⟩, rfl, rfl, hRl, hPt, hL, hC, hO⟩ := hrel;have hnR : n < R.length := by have := hRl.out; omega
  have hF : Hid (Fit B c R) := by
   have := hPt.out;cases this with
   | zero hF _ _ => exact hF
   | stop hF _ _ _ _ _ _ _ _ _ => exact hF
   | meet hF _ _ _ _ _ _ _ _ _ _ _ => exact hF
  have hcn : R[n].xs.length = c := hF.out.len _ (List.getElem_mem hnR);have hlead : leadOf R n = lead R[n].xs := leadOf_eq hnR;have hle := lead_le R[n].xs;have hn1 : (n : Int) < (R.length : Int) := by omega
  have cb : wr.cell? ⟨S.lb, 0, none⟩ = some (.slice (some ⟨S.o, 0, none⟩) R.length S.cap) := hL.out.lad.cell 0;have cn : wr.cell? ⟨S.o, n, none⟩ = some (.slice (some ⟨R[n].blk, 0, none⟩) R[n].xs.length R[n].cap) := hL.out.mat.hdr (i := n) hnR;rw [hcn] at cn hle;have Hcn := Lib.hid hcn; clear hcn;have Hlead := Lib.hid hlead; clear hlead;go_wp2_with fail
  have hLd := Lead_c R[n].blk R[n].cap R[n].xs wr (hL.out.mat.row _ (List.getElem_mem (l := R) hnR)) (fun x hx => by have := hF.out.fit _ (List.getElem_mem hnR) x hx; omega) (by rw [Hcn.out]; omega);rw [Hcn.out] at hLd;refine hLd.mono ?_;rintro e w2 ⟨rfl, hb2⟩;have L2 := Lib.hid (hL.out.below hb2);have C2 := Lib.hid (hC.out.below hb2);clear hLd hL hC hb2 cb cn;have cb : w2.cell? ⟨S.lb, 0, none⟩ = some (.slice (some ⟨S.o, 0, none⟩) R.length S.cap) := L2.out.lad.cell 0;have cn : w2.cell? ⟨S.o, n, none⟩ = some (.slice (some ⟨R[n].blk, 0, none⟩) R[n].xs.length R[n].cap) := L2.out.mat.hdr (i := n) hnR;rw [Hcn.out] at cn;obtain ⟨jj, hjj⟩ : ∃ jj, lead R[n].xs = jj := ⟨_, rfl⟩;rw [hjj] at hle ⊢;have hPj := hPt.out;have hld := Hlead.out;rw [hjj] at hld;have Hld := Lib.hid hld; clear hld;by_cases hz : jj = c ∨ (jj : Int) <= last
  · have hfin : res = false /\ SOut B c (leadsOf R n) n n R R' := by
     cases hPj with
     | zero _ _ hs => exact ⟨rfl, hs⟩
     | stop _ h1 h2 _ _ _ _ _ _ _ => rw [Hld.out] at h1 h2; omega
     | meet _ h1 h2 _ _ _ _ _ _ _ _ _ => rw [Hld.out] at h1 h2; omega
    obtain ⟨rfl, hs⟩ := hfin;have HSO := Lib.hid hs; clear hs;clear hPj hPt;by_cases hz1 : jj = c
    · have hz2 : ((jj : Int) == (c : Int)) = true := by rw [hz1]; simp
      obtain ⟨j2, hj2⟩ : ∃ j2, j2 = jj := ⟨_, rfl⟩;have hz3 : (jj : Int) = (c : Int) := by omega
      have Hz1 := Lib.hid hz1;clear hz hz1 hz2 hj2;go_wp2_with fail
      refine (Settle_c (S.withR R) n B c R' _ L2.out (Nat.le_of_lt hnR) (by omega) hF.out HSO.out (by show R.length <= 1000000; have := hRl.out; omega) hc HT.out).mono ?_;rintro e w3 ⟨rfl, hL3, hC3⟩;have CF := Lib.hid (C2.out.trans (hC3.mono (fun q _ e => (hO.out q).1 e)));have LF := Lib.hid hL3;clear hL3 hC3;go_wp2;go_ret;exact ⟨rfl, LF.out, CF.out⟩
    · have hz3 : ¬ (jj : Int) = (c : Int) := by omega
      have hz2 : ((jj : Int) == (c : Int)) = false := beq_eq_false_iff_ne.2 hz3;have hz4 : (jj : Int) <= last := by omega
      have Hz1 := Lib.hid hz1;clear hz hz1;go_wp2_with fail
      refine (Settle_c (S.withR R) n B c R' _ L2.out (Nat.le_of_lt hnR) (by omega) hF.out HSO.out (by show R.length <= 1000000; have := hRl.out; omega) hc HT.out).mono ?_;rintro e w3 ⟨rfl, hL3, hC3⟩;have CF := Lib.hid (C2.out.trans (hC3.mono (fun q _ e => (hO.out q).1 e)));have LF := Lib.hid hL3;clear hL3 hC3;go_wp2;go_ret;exact ⟨rfl, LF.out, CF.out⟩
  · have hz3 : ¬ (jj : Int) = (c : Int) := by omega
    have hz2 : ((jj : Int) == (c : Int)) = false := beq_eq_false_iff_ne.2 hz3;have hz4 : ¬ (jj : Int) <= last := by omega
    have hjc : jj < c := by omega
    have hjl : last < (jj : Int) := by omega
    have Hjj := Lib.hid hjj; clear hjj;clear hz hPj;go_wp2;clear hz2 hz3 hz4 cb cn;go_loopw [5] (fun a_ wq => ∃ a : Nat, at_ <= a /\ a <= n /\ a_ = .int .i64 (a : Int) /\ Hid (∀ i, at_ <= i -> i < a -> leadOf R i < jj) /\ Hid (LadAt wq (S.withR R)) /\ Hid (Chg S.own w wq)) (fun a_ _ => n - (intOf a_).toNat)
    case atStart => exact ⟨at_, Nat.le_refl _, hat, rfl, fun i h1 h2 => by omega, L2, C2⟩
    case round =>
     obtain ⟨a, ha1, ha2, rfl, hlt, hLq, hCq⟩ := hrel;by_cases han : a < n
     · have haR : a < R.length := by omega
       have han1 : (a : Int) < (n : Int) := by omega
       have haR1 : (a : Int) < (R.length : Int) := by omega
       have cb : wr.cell? ⟨S.lb, 0, none⟩ = some (.slice (some ⟨S.o, 0, none⟩) R.length S.cap) := hLq.out.lad.cell 0;have ca : wr.cell? ⟨S.o, a, none⟩ = some (.slice (some ⟨R[a].blk, 0, none⟩) R[a].xs.length R[a].cap) := hLq.out.mat.hdr (i := a) haR;go_wp2_with fail
       refine (Lead_c R[a].blk R[a].cap R[a].xs _ (hLq.out.mat.row _ (List.getElem_mem (l := R) haR)) (fun x hx => by have := hF.out.fit _ (List.getElem_mem haR) x hx; omega) (by rw [hF.out.len _ (List.getElem_mem haR)]; omega)).mono ?_;rintro e w3 ⟨rfl, hb3⟩;have L3 := Lib.hid (hLq.out.below hb3);have C3 := Lib.hid (hCq.out.below hb3);clear hLq hCq hb3 cb ca;obtain ⟨la, hla⟩ : ∃ la, lead R[a].xs = la := ⟨_, rfl⟩;have hla2 : leadOf R a = la := (leadOf_eq haR).trans hla;rw [hla];have Hla := Lib.hid hla2; clear hla hla2;by_cases hlj : la < jj
       · have hlj1 : (la : Int) < (jj : Int) := by omega
         go_wp2;go_roundw
         case rel => exact ⟨a + 1, by omega, by omega, by go_num, Lib.hid (fun i h1 h2 => (Nat.lt_succ_iff_lt_or_eq.1 h2).elim (fun h => hlt.out i h1 h) (fun h => by subst h; rw [Hla.out]; exact hlj)), L3, C3⟩
         case measure => simp [intOf]; omega
       · have hlj1 : ¬ (la : Int) < (jj : Int) := by omega
         have haR2 : (a : Int) < (R.length : Int) := by omega
         have cb : w3.cell? ⟨S.lb, 0, none⟩ = some (.slice (some ⟨S.o, 0, none⟩) R.length S.cap) := L3.out.lad.cell 0;have ca : w3.cell? ⟨S.o, a, none⟩ = some (.slice (some ⟨R[a].blk, 0, none⟩) R[a].xs.length R[a].cap) := L3.out.mat.hdr (i := a) haR;have hanb : ((a : Int) == (n : Int)) = false := beq_eq_false_iff_ne.2 (by omega);have hane : ¬ (a : Int) = (n : Int) := by omega
         go_wp2_with fail
         refine (Lead_c R[a].blk R[a].cap R[a].xs _ (L3.out.mat.row _ (List.getElem_mem (l := R) haR)) (fun x hx => by have := hF.out.fit _ (List.getElem_mem haR) x hx; omega) (by rw [hF.out.len _ (List.getElem_mem haR)]; omega)).mono ?_;rintro e w4 ⟨rfl, hb4⟩;have L4 := Lib.hid (L3.out.below hb4);have C4 := Lib.hid (C3.out.below hb4);clear L3 C3 hb4 cb ca;have hla3 : lead R[a].xs = la := (leadOf_eq haR).symm.trans Hla.out;rw [hla3];clear hla3;by_cases hlaj : la = jj
         · have hcase : ent R a jj ≠ 0 /\ Fit B c (meetA R a n jj) /\ ent (meetA R a n jj) a jj ≠ 0 /\ PutT B c n a (jj : Int) (meetT R a n jj) res R' := by
            have hPj := hPt.out;have hx := hlt.out;have hl := Hla.out;have hd := Hld.out;cases hPj with
            | zero _ h _ => rw [hd] at h; omega
            | stop _ h1 h2 a' ha' hn' hlt' hb' _ _ =>
             rw [hd] at hlt' hb';rcases Nat.lt_trichotomy a' a with h | h | h
             · have := hx a' ha' h; omega
             · subst h; omega
             · have := hlt' a ha1 h; omega
            | meet _ h1 h2 a' ha' hn' hlt' hj' hp hF1 hp1 hs =>
             rw [hd] at hlt' hj' hp hF1 hp1 hs;have haa : a' = a := by
              rcases Nat.lt_trichotomy a' a with h | h | h
              · have := hx a' ha' h; omega
              · exact h
              · have := hlt' a ha1 h; omega
             subst haa;exact ⟨hp, hF1, hp1, hs⟩
           obtain ⟨m1, m2, m3, m4⟩ := hcase;have M4 := Lib.hid m4; clear m4;have hlb : ((la : Int) != (jj : Int)) = false := by rw [hlaj]; simp
           have hle2 : (la : Int) = (jj : Int) := by omega
           have Hlaj := Lib.hid hlaj; clear hlaj;have hmt := Meet_c (S.withR R) a n jj B c w4 L4.out haR hnR (by omega) hjc hB hF.out m2 m1 m3 (by show R.length <= 1000000; have := hRl.out; omega) hc HT.out;have HMt := Lib.hid hmt;clear m1 m2 m3 hmt;go_wp2_with fail
           refine HMt.out.mono ?_;rintro e w5 ⟨rfl, hL5, hC5⟩;have L5 := Lib.hid hL5;have C5 := Lib.hid (C4.out.trans (hC5.mono (fun q _ e => (hO.out q).1 e)));clear hL5 hC5 hlb hle2 hanb hane;go_wp2;go_roundw
           case rel => exact ⟨a, (jj : Int), meetT R a n jj, by omega, ⟨by omega, by omega⟩, by go_num, by go_num, Lib.hid ((meetT_length ..).trans hRl.out), M4, L5, C5, Lib.hid (fun q => (own_meetT (S.withR R) a n jj q).trans (hO.out q))⟩
           case measure =>
            simp only [intOf];omega
         · have hbr : a = n ∨ jj < leadOf R a := by have := Hla.out; omega
           have Hbr := Lib.hid hbr; clear hbr;have hlb : ((la : Int) != (jj : Int)) = true := by rw [bne_iff_ne]; omega
           have hle2 : ¬ (la : Int) = (jj : Int) := by omega
           clear hlaj;have hstop : res = true /\ Fit B c (swapsT a n (if ent R n jj < 0 then turnT R n else R)) /\ SOut B c (leadsOf (swapsT a n (if ent R n jj < 0 then turnT R n else R)) (n + 1)) (n + 1) (n + 1) (swapsT a n (if ent R n jj < 0 then turnT R n else R)) R' := by
            have hPj := hPt.out;have hx := hlt.out;have hd := Hld.out;have hbr := Hbr.out;cases hPj with
            | zero _ h _ => rw [hd] at h; omega
            | stop _ h1 h2 a' ha' hn' hlt' hb' hF2 hs =>
             rw [hd] at hlt' hb' hF2 hs;have haa : a' = a := by
              rcases Nat.lt_trichotomy a' a with h | h | h
              · have := hx a' ha' h; omega
              · exact h
              · have := hlt' a ha1 h; omega
             subst haa;exact ⟨rfl, hF2, hs⟩
            | meet _ h1 h2 a' ha' hn' hlt' hj' hp hF1 hp1 hs =>
             rw [hd] at hlt' hj';rcases Nat.lt_trichotomy a' a with h | h | h
             · have := hx a' ha' h; omega
             · subst h; omega
             · have := hlt' a ha1 h; omega
           obtain ⟨rfl, hF2, hs2⟩ := hstop;have HF2 := Lib.hid hF2; clear hF2;have HS2 := Lib.hid hs2; clear hs2;have hXn := L4.out.mat.row _ (List.getElem_mem (l := R) hnR);have hjn : jj < R[n].xs.length := by rw [Hcn.out]; exact hjc
           obtain ⟨pn, cp0, cp1, hpn⟩ := hXn.get hjn;have hx0 : R[n].xs[jj] ≠ 0 := lead_ne Hjj.out hjn;have hsg := hpn.sign hx0;have heN := ent_eq hnR hjn;have HXn := Lib.hid hXn; clear hXn;have Hsg := Lib.hid hsg; clear hsg;have HeN := Lib.hid heN; clear heN;clear hpn hx0;have cb : w4.cell? ⟨S.lb, 0, none⟩ = some (.slice (some ⟨S.o, 0, none⟩) R.length S.cap) := L4.out.lad.cell 0;have cn : w4.cell? ⟨S.o, n, none⟩ = some (.slice (some ⟨R[n].blk, 0, none⟩) R[n].xs.length R[n].cap) := L4.out.mat.hdr (i := n) hnR;have sb1 := HXn.out.lt;have sb3 : S.lb < w4.heap.size := L4.out.lad.lt;have sb4 : S.o < w4.heap.size := L4.out.mat.out.lt;have hjn1 : (jj : Int) < (R[n].xs.length : Int) := by omega
           go_wp2;refine wp_region_J ⟨18, fun q_ => [73, 74, 75, 76, 77, 78, 79, 80, 81, 82, 83, 84, 85, 86, 87, 88, 89, 90].getD q_ 0,
            fun q_ => [.val (.pointer (some ⟨S.lb, 0, none⟩)), .val (.pointer (some ⟨S.lb, 0, none⟩)), .val (.pointer (some ⟨S.lb, 0, none⟩)), .val (.slice (some ⟨S.o, 0, none⟩) R.length S.cap), .val (.int .i64 (n : Int)), .val (.pointer (some ⟨S.o, n, none⟩)), .val (.slice (some ⟨R[n].blk, 0, none⟩) R[n].xs.length R[n].cap), .val (.pointer (some ⟨S.lb, 0, none⟩)), .val (.pointer (some ⟨S.lb, 0, none⟩)), .val (.pointer (some ⟨S.lb, 0, none⟩)), .val (.slice (some ⟨S.o, 0, none⟩) R.length S.cap), .val (.int .i64 (n : Int)), .val (.pointer (some ⟨S.o, n, none⟩)), .val (.slice (some ⟨R[n].blk, 0, none⟩) R[n].xs.length R[n].cap), .val (.int .i64 (jj : Int)), .val (.pointer (some ⟨R[n].blk, jj * 2, none⟩)), .val (.pointer (some ⟨R[n].blk, jj * 2, none⟩)), .val (.bool pn.1)].getD q_ .any,
            [],
            [],
            [],
            [], [(⟨S.lb, 0, none⟩, .slice (some ⟨S.o, 0, none⟩) R.length S.cap), (⟨S.o, n, none⟩, .slice (some ⟨R[n].blk, 0, none⟩) R[n].xs.length R[n].cap), (⟨R[n].blk, jj * 2, none⟩, .bool pn.1)], []⟩ [73, 74, 75, 76, 77, 78, 79, 80, 81, 82, 83, 84, 85, 86, 87, 88, 89, 90] (w4.heap.size) (by kernel_rfl) (by kernel_rfl) (by kernel_rfl) (by kernel_rfl) ?_ ?_ ?_ ?_ ?_ ?_
           · intro p hp;cases hp
           · intro p hp;cases hp
           · intro p hp;rcases mc hp with rfl | hp
             · refine ⟨cb, by show S.lb < w4.heap.size; omega, ?_⟩;intro t ht;cases ht
             rcases mc hp with rfl | hp
             · refine ⟨cn, by show S.o < w4.heap.size; omega, ?_⟩;intro t ht;cases ht
             rcases mc hp with rfl | hp
             · refine ⟨cp0, by show R[n].blk < w4.heap.size; omega, ?_⟩;intro t ht;cases ht
             cases hp
           · intro t ht;cases ht
           · refine allc ?_ (allc ?_ (allc ?_ (allc ?_ (allc ?_ (allc ?_ (allc ?_ (allc ?_ (allc ?_ (allc ?_ (allc ?_ (allc ?_ (allc ?_ (allc ?_ (allc ?_ (allc ?_ (allc ?_ (allc ?_ alln)))))))))))))))));any_goals (first | (intro L fx w' hJ hL hp hcl; have _ := hp0 hp (by decide +kernel); refine wps rfl fun K hK => ?_; go_simp; exact hJ.q hK (by kernel_rfl) rfl) | fail)
             · intro L fx w' hJ hL hp hcl;have e0 := hJ.pt 0 73 (.pointer (some ⟨S.lb, 0, none⟩)) rfl rfl rfl (hp 0 (by decide));rw [e0] at hJ ⊢; clear e0;refine wps rfl fun K hK => ?_;go_simp;exact hJ.q hK (by kernel_rfl) rfl
             · intro L fx w' hJ hL hp hcl;have e1 := hJ.pt 1 74 (.pointer (some ⟨S.lb, 0, none⟩)) rfl rfl rfl (hp 1 (by decide));rw [e1] at hJ ⊢; clear e1;refine wps rfl fun K hK => ?_;go_simp;exact hJ.q hK (by kernel_rfl) rfl
             · intro L fx w' hJ hL hp hcl;have e2 := hJ.pt 2 75 (.pointer (some ⟨S.lb, 0, none⟩)) rfl rfl rfl (hp 2 (by decide));rw [e2] at hJ ⊢; clear e2;refine wps rfl fun K hK => ?_;have cl0 := (hJ.cells _ mm0).1;try dsimp only at cl0
               go_simp;exact hJ.q hK (by kernel_rfl) rfl
             · intro L fx w' hJ hL hp hcl;have e3 := hJ.pt 3 76 (.slice (some ⟨S.o, 0, none⟩) R.length S.cap) rfl rfl rfl (hp 3 (by decide));rw [e3] at hJ ⊢; clear e3;have e4 := hJ.pt 4 77 (.int .i64 (n : Int)) rfl rfl rfl (hp 4 (by decide));rw [e4] at hJ ⊢; clear e4;refine wps rfl fun K hK => ?_;go_simp;exact hJ.q hK (by kernel_rfl) rfl
             · intro L fx w' hJ hL hp hcl;have e5 := hJ.pt 5 78 (.pointer (some ⟨S.o, n, none⟩)) rfl rfl rfl (hp 5 (by decide));rw [e5] at hJ ⊢; clear e5;refine wps rfl fun K hK => ?_;have cl0 := (hJ.cells _ mm1).1;try dsimp only at cl0
               go_simp;exact hJ.q hK (by kernel_rfl) rfl
             · intro L fx w' hJ hL hp hcl;have e7 := hJ.pt 7 80 (.pointer (some ⟨S.lb, 0, none⟩)) rfl rfl rfl (hp 7 (by decide));rw [e7] at hJ ⊢; clear e7;refine wps rfl fun K hK => ?_;go_simp;exact hJ.q hK (by kernel_rfl) rfl
             · intro L fx w' hJ hL hp hcl;have e8 := hJ.pt 8 81 (.pointer (some ⟨S.lb, 0, none⟩)) rfl rfl rfl (hp 8 (by decide));rw [e8] at hJ ⊢; clear e8;refine wps rfl fun K hK => ?_;go_simp;exact hJ.q hK (by kernel_rfl) rfl
             · intro L fx w' hJ hL hp hcl;have e9 := hJ.pt 9 82 (.pointer (some ⟨S.lb, 0, none⟩)) rfl rfl rfl (hp 9 (by decide));rw [e9] at hJ ⊢; clear e9;refine wps rfl fun K hK => ?_;have cl0 := (hJ.cells _ mm0).1;try dsimp only at cl0
               go_simp;exact hJ.q hK (by kernel_rfl) rfl
             · intro L fx w' hJ hL hp hcl;have e10 := hJ.pt 10 83 (.slice (some ⟨S.o, 0, none⟩) R.length S.cap) rfl rfl rfl (hp 10 (by decide));rw [e10] at hJ ⊢; clear e10;have e11 := hJ.pt 11 84 (.int .i64 (n : Int)) rfl rfl rfl (hp 11 (by decide));rw [e11] at hJ ⊢; clear e11;refine wps rfl fun K hK => ?_;go_simp;exact hJ.q hK (by kernel_rfl) rfl
             · intro L fx w' hJ hL hp hcl;have e12 := hJ.pt 12 85 (.pointer (some ⟨S.o, n, none⟩)) rfl rfl rfl (hp 12 (by decide));rw [e12] at hJ ⊢; clear e12;refine wps rfl fun K hK => ?_;have cl0 := (hJ.cells _ mm1).1;try dsimp only at cl0
               go_simp;exact hJ.q hK (by kernel_rfl) rfl
             · intro L fx w' hJ hL hp hcl;have e13 := hJ.pt 13 86 (.slice (some ⟨R[n].blk, 0, none⟩) R[n].xs.length R[n].cap) rfl rfl rfl (hp 13 (by decide));rw [e13] at hJ ⊢; clear e13;refine wps rfl fun K hK => ?_;go_simp;go_at_call 93;refine (Lead_c R[n].blk R[n].cap R[n].xs _ (RowN.below (w := w4.drew) HXn.out hJ.fr) (fun x hx => by have := hF.out.fit _ (List.getElem_mem hnR) x hx; omega) (by rw [Hcn.out]; omega)).mono ?_;rintro e w4 ⟨rfl, hb4⟩;try dsimp only
               rw [Hjj.out];exact hK _ _ ⟨_, by kernel_rfl, hJ.gC 14 rfl (by kernel_rfl) hb4 rfl (by omega)⟩
             · intro L fx w' hJ hL hp hcl;have e6 := hJ.pt 6 79 (.slice (some ⟨R[n].blk, 0, none⟩) R[n].xs.length R[n].cap) rfl rfl rfl (hp 6 (by decide));rw [e6] at hJ ⊢; clear e6;have e14 := hJ.pt 14 87 (.int .i64 (jj : Int)) rfl rfl rfl (hp 14 (by decide));rw [e14] at hJ ⊢; clear e14;refine wps rfl fun K hK => ?_;go_simp;exact hJ.q hK (by kernel_rfl) rfl
             · intro L fx w' hJ hL hp hcl;have e15 := hJ.pt 15 88 (.pointer (some ⟨R[n].blk, jj * 2, none⟩)) rfl rfl rfl (hp 15 (by decide));rw [e15] at hJ ⊢; clear e15;refine wps rfl fun K hK => ?_;go_simp;exact hJ.q hK (by kernel_rfl) rfl
             · intro L fx w' hJ hL hp hcl;have e16 := hJ.pt 16 89 (.pointer (some ⟨R[n].blk, jj * 2, none⟩)) rfl rfl rfl (hp 16 (by decide));rw [e16] at hJ ⊢; clear e16;refine wps rfl fun K hK => ?_;have cl0 := (hJ.cells _ mm2).1;try dsimp only at cl0
               go_simp;exact hJ.q hK (by kernel_rfl) rfl
           · intro L' x1 w7 hL hJ;have hfr : Below w4.drew.heap.size w4.drew w7 := hJ.fr;have e17 : x1 90 = .bool pn.1 := hJ.slot 17 (by show 17 < 18; decide) (hL 17 (by show 17 < 18; decide));rw [patchX (x := x1) (d := 90) (v := .bool pn.1) e17];clear hJ hL e17 cb cn cp0 cp1;have L7 := Lib.hid (LadAt.below (w := w4.drew) L4.out.drew hfr);have C7 := Lib.hid (C4.out.drew.below hfr);clear hfr;simp only [pN, Nat.reduceEqDiff, ↓reduceIte];cases hneg : pn.1
             · have hif : (if ent R n jj < 0 then turnT R n else R) = R := if_neg (by
                have := Hsg.out; rw [hneg] at this; rw [HeN.out]; simpa using this.symm)
               have HRF := Lib.hid HF2.out; have HSF := Lib.hid HS2.out;rw [hif] at HRF HSF;clear hif;obtain ⟨RF, hRF⟩ : ∃ RF, swapsT a n R = RF := ⟨_, rfl⟩;rw [hRF] at HRF HSF;have HRFe := Lib.hid hRF; clear hRF;go_wp2;go_loopw [8] (fun i_ wq => ∃ (i : Nat) (R8 : List Hd), i <= n /\ a <= i /\ i_ = .int .i64 (i : Int) /\ Hid (swapsT a i R8 = RF) /\ Hid (R8.length = S.R.length) /\ Hid (LadAt wq (S.withR R8)) /\ Hid (Chg S.own w wq) /\ Hid (∀ k, (S.withR R8).own k ↔ S.own k)) (fun i_ _ => (intOf i_).toNat)
               case atStart => exact ⟨n, R, Nat.le_refl _, ha2, rfl, HRFe, hRl, L7, C7, hO⟩
               case round =>
                obtain ⟨i, R8, hin, hai, rfl, hSw, hR8, hL8, hC8, hO8⟩ := hrel;by_cases hia : a < i
                · obtain ⟨i', rfl⟩ : ∃ i', i = i' + 1 := ⟨i - 1, by omega⟩;have hi8 : i' + 1 < R8.length := by have := hR8.out; have := hRl.out; omega
                  have hi8' : i' < R8.length := by omega
                  have hia1 : (a : Int) < ((i' + 1 : Nat) : Int) := by omega
                  have hcast : ((i' + 1 : Nat) : Int) - 1 = (i' : Int) := by omega
                  have hms := MSwap_c (S.withR R8) (i' + 1) i' wr hL8.out hi8 hi8' (by omega) (HT.out.good R8);have HMs := Lib.hid hms; clear hms;have hcast2 : ((i' + 1 : Nat) : Int) = (i' : Int) + 1 := by omega
                  rw [hcast2] at hia1 hcast HMs ⊢;clear hcast2;have hia2 : (a : Int) < (i' : Int) + 1 := hia1;have hcast3 : (i' : Int) + 1 - 1 = (i' : Int) := by omega
                  go_wp2_with fail
                  refine HMs.out.mono ?_;rintro e w9 ⟨rfl, hL9, hC9⟩;have L9 := Lib.hid hL9;have C9 := Lib.hid (hC8.out.trans (hC9.mono (fun q _ e => (hO8.out q).1 e)));clear hL9 hC9;go_wp2;go_roundw
                  case rel =>
                   refine ⟨i', swapT R8 (i' + 1) i', by omega, by omega, by go_num, ?_, Lib.hid ((swapT_length ..).trans hR8.out), ?_, C9, Lib.hid (fun q => (own_swapT (S.withR R8) (i' + 1) i' q).trans (hO8.out q))⟩
                   · have := hSw.out;unfold swapsT at this;rw [if_neg (by omega)] at this;exact this
                   · rw [swapT_eq hi8 hi8']; exact L9
                  case measure => simp only [intOf]; omega
                · obtain rfl : i = a := by omega
                  have hR8F : R8 = RF := by
                   have := hSw.out;cases i with
                   | zero => exact this
                   | succ q => unfold swapsT at this; rw [if_pos (Nat.le_refl _)] at this; exact this
                  subst hR8F;have hset := Settle_c (S.withR R8) (n + 1) B c R' wr hL8.out (by show n + 1 <= R8.length; have := hR8.out; omega) (by omega) HRF.out HSF.out (by show R8.length <= 1000000; have := hR8.out; omega) hc HT.out;have HSet := Lib.hid hset; clear hset;have hcn1 : ((n + 1 : Nat) : Int) = (n : Int) + 1 := by omega
                  rw [hcn1] at HSet;clear hcn1;have hgt : ¬ (i : Int) > (i : Int) := by omega
                  go_wp2_with fail
                  refine HSet.out.mono ?_;rintro e w9 ⟨rfl, hL9, hC9⟩;have L9 := Lib.hid hL9;have C9 := Lib.hid (hC8.out.trans (hC9.mono (fun q _ e => (hO8.out q).1 e)));clear hL9 hC9;go_wp2;go_ret;exact ⟨rfl, L9.out, C9.out⟩
             · have hif : (if ent R n jj < 0 then turnT R n else R) = turnT R n := if_pos (by
                have := Hsg.out; rw [hneg] at this; rw [HeN.out]; simpa using this.symm)
               have hlenN : R[n].xs.length <= 4611686018427387903 := by rw [Hcn.out]; omega
               have hmt := MTurn_c (S.withR R) n w7 L7.out hnR (fun x hx => by have := hF.out.fit _ (List.getElem_mem hnR) x hx; omega) hlenN (HT.out.good R) (HT.out.okR hF.out);have HMt := Lib.hid hmt; clear hmt;go_wp2_with fail
               refine HMt.out.mono ?_;rintro e w8 ⟨rfl, hL8, hC8⟩;have C8 := Lib.hid (C7.out.trans (hC8.mono (fun q _ e => (hO.out q).1 e)));have L8 : Hid (LadAt w8 (S.withR (turnT R n))) := by rw [turnT_eq hnR]; exact hL8
               have O8 : Hid (∀ k, (S.withR (turnT R n)).own k ↔ S.own k) := fun q => (own_turnT (S.withR R) n q).trans (hO.out q);have N8 : Hid ((turnT R n).length = S.R.length) := (turnT_length ..).trans hRl.out;clear hL8 hC8;have HRF := Lib.hid HF2.out; have HSF := Lib.hid HS2.out;rw [hif] at HRF HSF;clear hif;obtain ⟨RF, hRF⟩ : ∃ RF, swapsT a n (turnT R n) = RF := ⟨_, rfl⟩;rw [hRF] at HRF HSF;have HRFe := Lib.hid hRF; clear hRF;go_wp2;go_loopw [8] (fun i_ wq => ∃ (i : Nat) (R8 : List Hd), i <= n /\ a <= i /\ i_ = .int .i64 (i : Int) /\ Hid (swapsT a i R8 = RF) /\ Hid (R8.length = S.R.length) /\ Hid (LadAt wq (S.withR R8)) /\ Hid (Chg S.own w wq) /\ Hid (∀ k, (S.withR R8).own k ↔ S.own k)) (fun i_ _ => (intOf i_).toNat)
               case atStart => exact ⟨n, (turnT R n), Nat.le_refl _, ha2, rfl, HRFe, N8, L8, C8, O8⟩
               case round =>
                obtain ⟨i, R8, hin, hai, rfl, hSw, hR8, hL8, hC8, hO8⟩ := hrel;by_cases hia : a < i
                · obtain ⟨i', rfl⟩ : ∃ i', i = i' + 1 := ⟨i - 1, by omega⟩;have hi8 : i' + 1 < R8.length := by have := hR8.out; have := hRl.out; omega
                  have hi8' : i' < R8.length := by omega
                  have hia1 : (a : Int) < ((i' + 1 : Nat) : Int) := by omega
                  have hcast : ((i' + 1 : Nat) : Int) - 1 = (i' : Int) := by omega
                  have hms := MSwap_c (S.withR R8) (i' + 1) i' wr hL8.out hi8 hi8' (by omega) (HT.out.good R8);have HMs := Lib.hid hms; clear hms;have hcast2 : ((i' + 1 : Nat) : Int) = (i' : Int) + 1 := by omega
                  rw [hcast2] at hia1 hcast HMs ⊢;clear hcast2;have hia2 : (a : Int) < (i' : Int) + 1 := hia1;have hcast3 : (i' : Int) + 1 - 1 = (i' : Int) := by omega
                  go_wp2_with fail
                  refine HMs.out.mono ?_;rintro e w9 ⟨rfl, hL9, hC9⟩;have L9 := Lib.hid hL9;have C9 := Lib.hid (hC8.out.trans (hC9.mono (fun q _ e => (hO8.out q).1 e)));clear hL9 hC9;go_wp2;go_roundw
                  case rel =>
                   refine ⟨i', swapT R8 (i' + 1) i', by omega, by omega, by go_num, ?_, Lib.hid ((swapT_length ..).trans hR8.out), ?_, C9, Lib.hid (fun q => (own_swapT (S.withR R8) (i' + 1) i' q).trans (hO8.out q))⟩
                   · have := hSw.out;unfold swapsT at this;rw [if_neg (by omega)] at this;exact this
                   · rw [swapT_eq hi8 hi8']; exact L9
                  case measure => simp only [intOf]; omega
                · obtain rfl : i = a := by omega
                  have hR8F : R8 = RF := by
                   have := hSw.out;cases i with
                   | zero => exact this
                   | succ q => unfold swapsT at this; rw [if_pos (Nat.le_refl _)] at this; exact this
                  subst hR8F;have hset := Settle_c (S.withR R8) (n + 1) B c R' wr hL8.out (by show n + 1 <= R8.length; have := hR8.out; omega) (by omega) HRF.out HSF.out (by show R8.length <= 1000000; have := hR8.out; omega) hc HT.out;have HSet := Lib.hid hset; clear hset;have hcn1 : ((n + 1 : Nat) : Int) = (n : Int) + 1 := by omega
                  rw [hcn1] at HSet;clear hcn1;have hgt : ¬ (i : Int) > (i : Int) := by omega
                  go_wp2_with fail
                  refine HSet.out.mono ?_;rintro e w9 ⟨rfl, hL9, hC9⟩;have L9 := Lib.hid hL9;have C9 := Lib.hid (hC8.out.trans (hC9.mono (fun q _ e => (hO8.out q).1 e)));clear hL9 hC9;go_wp2;go_ret;exact ⟨rfl, L9.out, C9.out⟩
     · have hbr : a = n ∨ jj < leadOf R a := by omega
       have Hbr := Lib.hid hbr; clear hbr;have hnlt : ¬ (a : Int) < (n : Int) := by omega
       have hanb : ((a : Int) == (n : Int)) = true := by rw [beq_iff_eq]; omega
       have hstop : res = true /\ Fit B c (swapsT a n (if ent R n jj < 0 then turnT R n else R)) /\ SOut B c (leadsOf (swapsT a n (if ent R n jj < 0 then turnT R n else R)) (n + 1)) (n + 1) (n + 1) (swapsT a n (if ent R n jj < 0 then turnT R n else R)) R' := by
        have hPj := hPt.out;have hx := hlt.out;have hd := Hld.out;have hbr := Hbr.out;cases hPj with
        | zero _ h _ => rw [hd] at h; omega
        | stop _ h1 h2 a' ha' hn' hlt' hb' hF2 hs =>
         rw [hd] at hlt' hb' hF2 hs;have haa : a' = a := by
          rcases Nat.lt_trichotomy a' a with h | h | h
          · have := hx a' ha' h; omega
          · exact h
          · have := hlt' a ha1 h; omega
         subst haa;exact ⟨rfl, hF2, hs⟩
        | meet _ h1 h2 a' ha' hn' hlt' hj' hp hF1 hp1 hs =>
         rw [hd] at hlt' hj';rcases Nat.lt_trichotomy a' a with h | h | h
         · have := hx a' ha' h; omega
         · subst h; omega
         · have := hlt' a ha1 h; omega
       obtain ⟨rfl, hF2, hs2⟩ := hstop;have HF2 := Lib.hid hF2; clear hF2;have HS2 := Lib.hid hs2; clear hs2;have hXn := hLq.out.mat.row _ (List.getElem_mem (l := R) hnR);have hjn : jj < R[n].xs.length := by rw [Hcn.out]; exact hjc
       obtain ⟨pn, cp0, cp1, hpn⟩ := hXn.get hjn;have hx0 : R[n].xs[jj] ≠ 0 := lead_ne Hjj.out hjn;have hsg := hpn.sign hx0;have heN := ent_eq hnR hjn;have HXn := Lib.hid hXn; clear hXn;have Hsg := Lib.hid hsg; clear hsg;have HeN := Lib.hid heN; clear heN;clear hpn hx0;have cb : wr.cell? ⟨S.lb, 0, none⟩ = some (.slice (some ⟨S.o, 0, none⟩) R.length S.cap) := hLq.out.lad.cell 0;have cn : wr.cell? ⟨S.o, n, none⟩ = some (.slice (some ⟨R[n].blk, 0, none⟩) R[n].xs.length R[n].cap) := hLq.out.mat.hdr (i := n) hnR;have sb1 := HXn.out.lt;have sb3 : S.lb < wr.heap.size := hLq.out.lad.lt;have sb4 : S.o < wr.heap.size := hLq.out.mat.out.lt;have hjn1 : (jj : Int) < (R[n].xs.length : Int) := by omega
       go_wp2;refine wp_region_J ⟨18, fun q_ => [73, 74, 75, 76, 77, 78, 79, 80, 81, 82, 83, 84, 85, 86, 87, 88, 89, 90].getD q_ 0,
        fun q_ => [.val (.pointer (some ⟨S.lb, 0, none⟩)), .val (.pointer (some ⟨S.lb, 0, none⟩)), .val (.pointer (some ⟨S.lb, 0, none⟩)), .val (.slice (some ⟨S.o, 0, none⟩) R.length S.cap), .val (.int .i64 (n : Int)), .val (.pointer (some ⟨S.o, n, none⟩)), .val (.slice (some ⟨R[n].blk, 0, none⟩) R[n].xs.length R[n].cap), .val (.pointer (some ⟨S.lb, 0, none⟩)), .val (.pointer (some ⟨S.lb, 0, none⟩)), .val (.pointer (some ⟨S.lb, 0, none⟩)), .val (.slice (some ⟨S.o, 0, none⟩) R.length S.cap), .val (.int .i64 (n : Int)), .val (.pointer (some ⟨S.o, n, none⟩)), .val (.slice (some ⟨R[n].blk, 0, none⟩) R[n].xs.length R[n].cap), .val (.int .i64 (jj : Int)), .val (.pointer (some ⟨R[n].blk, jj * 2, none⟩)), .val (.pointer (some ⟨R[n].blk, jj * 2, none⟩)), .val (.bool pn.1)].getD q_ .any,
        [],
        [],
        [],
        [], [(⟨S.lb, 0, none⟩, .slice (some ⟨S.o, 0, none⟩) R.length S.cap), (⟨S.o, n, none⟩, .slice (some ⟨R[n].blk, 0, none⟩) R[n].xs.length R[n].cap), (⟨R[n].blk, jj * 2, none⟩, .bool pn.1)], []⟩ [73, 74, 75, 76, 77, 78, 79, 80, 81, 82, 83, 84, 85, 86, 87, 88, 89, 90] (wr.heap.size) (by kernel_rfl) (by kernel_rfl) (by kernel_rfl) (by kernel_rfl) ?_ ?_ ?_ ?_ ?_ ?_
       · intro p hp;cases hp
       · intro p hp;cases hp
       · intro p hp;rcases mc hp with rfl | hp
         · refine ⟨cb, by show S.lb < wr.heap.size; omega, ?_⟩;intro t ht;cases ht
         rcases mc hp with rfl | hp
         · refine ⟨cn, by show S.o < wr.heap.size; omega, ?_⟩;intro t ht;cases ht
         rcases mc hp with rfl | hp
         · refine ⟨cp0, by show R[n].blk < wr.heap.size; omega, ?_⟩;intro t ht;cases ht
         cases hp
       · intro t ht;cases ht
       · refine allc ?_ (allc ?_ (allc ?_ (allc ?_ (allc ?_ (allc ?_ (allc ?_ (allc ?_ (allc ?_ (allc ?_ (allc ?_ (allc ?_ (allc ?_ (allc ?_ (allc ?_ (allc ?_ (allc ?_ (allc ?_ alln)))))))))))))))));any_goals (first | (intro L fx w' hJ hL hp hcl; have _ := hp0 hp (by decide +kernel); refine wps rfl fun K hK => ?_; go_simp; exact hJ.q hK (by kernel_rfl) rfl) | fail)
         · intro L fx w' hJ hL hp hcl;have e0 := hJ.pt 0 73 (.pointer (some ⟨S.lb, 0, none⟩)) rfl rfl rfl (hp 0 (by decide));rw [e0] at hJ ⊢; clear e0;refine wps rfl fun K hK => ?_;go_simp;exact hJ.q hK (by kernel_rfl) rfl
         · intro L fx w' hJ hL hp hcl;have e1 := hJ.pt 1 74 (.pointer (some ⟨S.lb, 0, none⟩)) rfl rfl rfl (hp 1 (by decide));rw [e1] at hJ ⊢; clear e1;refine wps rfl fun K hK => ?_;go_simp;exact hJ.q hK (by kernel_rfl) rfl
         · intro L fx w' hJ hL hp hcl;have e2 := hJ.pt 2 75 (.pointer (some ⟨S.lb, 0, none⟩)) rfl rfl rfl (hp 2 (by decide));rw [e2] at hJ ⊢; clear e2;refine wps rfl fun K hK => ?_;have cl0 := (hJ.cells _ mm0).1;try dsimp only at cl0
           go_simp;exact hJ.q hK (by kernel_rfl) rfl
         · intro L fx w' hJ hL hp hcl;have e3 := hJ.pt 3 76 (.slice (some ⟨S.o, 0, none⟩) R.length S.cap) rfl rfl rfl (hp 3 (by decide));rw [e3] at hJ ⊢; clear e3;have e4 := hJ.pt 4 77 (.int .i64 (n : Int)) rfl rfl rfl (hp 4 (by decide));rw [e4] at hJ ⊢; clear e4;refine wps rfl fun K hK => ?_;go_simp;exact hJ.q hK (by kernel_rfl) rfl
         · intro L fx w' hJ hL hp hcl;have e5 := hJ.pt 5 78 (.pointer (some ⟨S.o, n, none⟩)) rfl rfl rfl (hp 5 (by decide));rw [e5] at hJ ⊢; clear e5;refine wps rfl fun K hK => ?_;have cl0 := (hJ.cells _ mm1).1;try dsimp only at cl0
           go_simp;exact hJ.q hK (by kernel_rfl) rfl
         · intro L fx w' hJ hL hp hcl;have e7 := hJ.pt 7 80 (.pointer (some ⟨S.lb, 0, none⟩)) rfl rfl rfl (hp 7 (by decide));rw [e7] at hJ ⊢; clear e7;refine wps rfl fun K hK => ?_;go_simp;exact hJ.q hK (by kernel_rfl) rfl
         · intro L fx w' hJ hL hp hcl;have e8 := hJ.pt 8 81 (.pointer (some ⟨S.lb, 0, none⟩)) rfl rfl rfl (hp 8 (by decide));rw [e8] at hJ ⊢; clear e8;refine wps rfl fun K hK => ?_;go_simp;exact hJ.q hK (by kernel_rfl) rfl
         · intro L fx w' hJ hL hp hcl;have e9 := hJ.pt 9 82 (.pointer (some ⟨S.lb, 0, none⟩)) rfl rfl rfl (hp 9 (by decide));rw [e9] at hJ ⊢; clear e9;refine wps rfl fun K hK => ?_;have cl0 := (hJ.cells _ mm0).1;try dsimp only at cl0
           go_simp;exact hJ.q hK (by kernel_rfl) rfl
         · intro L fx w' hJ hL hp hcl;have e10 := hJ.pt 10 83 (.slice (some ⟨S.o, 0, none⟩) R.length S.cap) rfl rfl rfl (hp 10 (by decide));rw [e10] at hJ ⊢; clear e10;have e11 := hJ.pt 11 84 (.int .i64 (n : Int)) rfl rfl rfl (hp 11 (by decide));rw [e11] at hJ ⊢; clear e11;refine wps rfl fun K hK => ?_;go_simp;exact hJ.q hK (by kernel_rfl) rfl
         · intro L fx w' hJ hL hp hcl;have e12 := hJ.pt 12 85 (.pointer (some ⟨S.o, n, none⟩)) rfl rfl rfl (hp 12 (by decide));rw [e12] at hJ ⊢; clear e12;refine wps rfl fun K hK => ?_;have cl0 := (hJ.cells _ mm1).1;try dsimp only at cl0
           go_simp;exact hJ.q hK (by kernel_rfl) rfl
         · intro L fx w' hJ hL hp hcl;have e13 := hJ.pt 13 86 (.slice (some ⟨R[n].blk, 0, none⟩) R[n].xs.length R[n].cap) rfl rfl rfl (hp 13 (by decide));rw [e13] at hJ ⊢; clear e13;refine wps rfl fun K hK => ?_;go_simp;go_at_call 93;refine (Lead_c R[n].blk R[n].cap R[n].xs _ (RowN.below (w := wr.drew) HXn.out hJ.fr) (fun x hx => by have := hF.out.fit _ (List.getElem_mem hnR) x hx; omega) (by rw [Hcn.out]; omega)).mono ?_;rintro e w4 ⟨rfl, hb4⟩;try dsimp only
           rw [Hjj.out];exact hK _ _ ⟨_, by kernel_rfl, hJ.gC 14 rfl (by kernel_rfl) hb4 rfl (by omega)⟩
         · intro L fx w' hJ hL hp hcl;have e6 := hJ.pt 6 79 (.slice (some ⟨R[n].blk, 0, none⟩) R[n].xs.length R[n].cap) rfl rfl rfl (hp 6 (by decide));rw [e6] at hJ ⊢; clear e6;have e14 := hJ.pt 14 87 (.int .i64 (jj : Int)) rfl rfl rfl (hp 14 (by decide));rw [e14] at hJ ⊢; clear e14;refine wps rfl fun K hK => ?_;go_simp;exact hJ.q hK (by kernel_rfl) rfl
         · intro L fx w' hJ hL hp hcl;have e15 := hJ.pt 15 88 (.pointer (some ⟨R[n].blk, jj * 2, none⟩)) rfl rfl rfl (hp 15 (by decide));rw [e15] at hJ ⊢; clear e15;refine wps rfl fun K hK => ?_;go_simp;exact hJ.q hK (by kernel_rfl) rfl
         · intro L fx w' hJ hL hp hcl;have e16 := hJ.pt 16 89 (.pointer (some ⟨R[n].blk, jj * 2, none⟩)) rfl rfl rfl (hp 16 (by decide));rw [e16] at hJ ⊢; clear e16;refine wps rfl fun K hK => ?_;have cl0 := (hJ.cells _ mm2).1;try dsimp only at cl0
           go_simp;exact hJ.q hK (by kernel_rfl) rfl
       · intro L' x1 w7 hL hJ;have hfr : Below wr.drew.heap.size wr.drew w7 := hJ.fr;have e17 : x1 90 = .bool pn.1 := hJ.slot 17 (by show 17 < 18; decide) (hL 17 (by show 17 < 18; decide));rw [patchX (x := x1) (d := 90) (v := .bool pn.1) e17];clear hJ hL e17 cb cn cp0 cp1;have L7 := Lib.hid (LadAt.below (w := wr.drew) hLq.out.drew hfr);have C7 := Lib.hid (hCq.out.drew.below hfr);clear hfr;simp only [pN, Nat.reduceEqDiff, ↓reduceIte];cases hneg : pn.1
         · have hif : (if ent R n jj < 0 then turnT R n else R) = R := if_neg (by
            have := Hsg.out; rw [hneg] at this; rw [HeN.out]; simpa using this.symm)
           have HRF := Lib.hid HF2.out; have HSF := Lib.hid HS2.out;rw [hif] at HRF HSF;clear hif;obtain ⟨RF, hRF⟩ : ∃ RF, swapsT a n R = RF := ⟨_, rfl⟩;rw [hRF] at HRF HSF;have HRFe := Lib.hid hRF; clear hRF;go_wp2;go_loopw [8] (fun i_ wq => ∃ (i : Nat) (R8 : List Hd), i <= n /\ a <= i /\ i_ = .int .i64 (i : Int) /\ Hid (swapsT a i R8 = RF) /\ Hid (R8.length = S.R.length) /\ Hid (LadAt wq (S.withR R8)) /\ Hid (Chg S.own w wq) /\ Hid (∀ k, (S.withR R8).own k ↔ S.own k)) (fun i_ _ => (intOf i_).toNat)
           case atStart => exact ⟨n, R, Nat.le_refl _, ha2, rfl, HRFe, hRl, L7, C7, hO⟩
           case round =>
            obtain ⟨i, R8, hin, hai, rfl, hSw, hR8, hL8, hC8, hO8⟩ := hrel;by_cases hia : a < i
            · obtain ⟨i', rfl⟩ : ∃ i', i = i' + 1 := ⟨i - 1, by omega⟩;have hi8 : i' + 1 < R8.length := by have := hR8.out; have := hRl.out; omega
              have hi8' : i' < R8.length := by omega
              have hia1 : (a : Int) < ((i' + 1 : Nat) : Int) := by omega
              have hcast : ((i' + 1 : Nat) : Int) - 1 = (i' : Int) := by omega
              have hms := MSwap_c (S.withR R8) (i' + 1) i' wr hL8.out hi8 hi8' (by omega) (HT.out.good R8);have HMs := Lib.hid hms; clear hms;have hcast2 : ((i' + 1 : Nat) : Int) = (i' : Int) + 1 := by omega
              rw [hcast2] at hia1 hcast HMs ⊢;clear hcast2;have hia2 : (a : Int) < (i' : Int) + 1 := hia1;have hcast3 : (i' : Int) + 1 - 1 = (i' : Int) := by omega
              go_wp2_with fail
              refine HMs.out.mono ?_;rintro e w9 ⟨rfl, hL9, hC9⟩;have L9 := Lib.hid hL9;have C9 := Lib.hid (hC8.out.trans (hC9.mono (fun q _ e => (hO8.out q).1 e)));clear hL9 hC9;go_wp2;go_roundw
              case rel =>
               refine ⟨i', swapT R8 (i' + 1) i', by omega, by omega, by go_num, ?_, Lib.hid ((swapT_length ..).trans hR8.out), ?_, C9, Lib.hid (fun q => (own_swapT (S.withR R8) (i' + 1) i' q).trans (hO8.out q))⟩
               · have := hSw.out;unfold swapsT at this;rw [if_neg (by omega)] at this;exact this
               · rw [swapT_eq hi8 hi8']; exact L9
              case measure => simp only [intOf]; omega
            · obtain rfl : i = a := by omega
              have hR8F : R8 = RF := by
               have := hSw.out;cases i with
               | zero => exact this
               | succ q => unfold swapsT at this; rw [if_pos (Nat.le_refl _)] at this; exact this
              subst hR8F;have hset := Settle_c (S.withR R8) (n + 1) B c R' wr hL8.out (by show n + 1 <= R8.length; have := hR8.out; omega) (by omega) HRF.out HSF.out (by show R8.length <= 1000000; have := hR8.out; omega) hc HT.out;have HSet := Lib.hid hset; clear hset;have hcn1 : ((n + 1 : Nat) : Int) = (n : Int) + 1 := by omega
              rw [hcn1] at HSet;clear hcn1;have hgt : ¬ (i : Int) > (i : Int) := by omega
              go_wp2_with fail
              refine HSet.out.mono ?_;rintro e w9 ⟨rfl, hL9, hC9⟩;have L9 := Lib.hid hL9;have C9 := Lib.hid (hC8.out.trans (hC9.mono (fun q _ e => (hO8.out q).1 e)));clear hL9 hC9;go_wp2;go_ret;exact ⟨rfl, L9.out, C9.out⟩
         · have hif : (if ent R n jj < 0 then turnT R n else R) = turnT R n := if_pos (by
            have := Hsg.out; rw [hneg] at this; rw [HeN.out]; simpa using this.symm)
           have hlenN : R[n].xs.length <= 4611686018427387903 := by rw [Hcn.out]; omega
           have hmt := MTurn_c (S.withR R) n w7 L7.out hnR (fun x hx => by have := hF.out.fit _ (List.getElem_mem hnR) x hx; omega) hlenN (HT.out.good R) (HT.out.okR hF.out);have HMt := Lib.hid hmt; clear hmt;go_wp2_with fail
           refine HMt.out.mono ?_;rintro e w8 ⟨rfl, hL8, hC8⟩;have C8 := Lib.hid (C7.out.trans (hC8.mono (fun q _ e => (hO.out q).1 e)));have L8 : Hid (LadAt w8 (S.withR (turnT R n))) := by rw [turnT_eq hnR]; exact hL8
           have O8 : Hid (∀ k, (S.withR (turnT R n)).own k ↔ S.own k) := fun q => (own_turnT (S.withR R) n q).trans (hO.out q);have N8 : Hid ((turnT R n).length = S.R.length) := (turnT_length ..).trans hRl.out;clear hL8 hC8;have HRF := Lib.hid HF2.out; have HSF := Lib.hid HS2.out;rw [hif] at HRF HSF;clear hif;obtain ⟨RF, hRF⟩ : ∃ RF, swapsT a n (turnT R n) = RF := ⟨_, rfl⟩;rw [hRF] at HRF HSF;have HRFe := Lib.hid hRF; clear hRF;go_wp2;go_loopw [8] (fun i_ wq => ∃ (i : Nat) (R8 : List Hd), i <= n /\ a <= i /\ i_ = .int .i64 (i : Int) /\ Hid (swapsT a i R8 = RF) /\ Hid (R8.length = S.R.length) /\ Hid (LadAt wq (S.withR R8)) /\ Hid (Chg S.own w wq) /\ Hid (∀ k, (S.withR R8).own k ↔ S.own k)) (fun i_ _ => (intOf i_).toNat)
           case atStart => exact ⟨n, (turnT R n), Nat.le_refl _, ha2, rfl, HRFe, N8, L8, C8, O8⟩
           case round =>
            obtain ⟨i, R8, hin, hai, rfl, hSw, hR8, hL8, hC8, hO8⟩ := hrel;by_cases hia : a < i
            · obtain ⟨i', rfl⟩ : ∃ i', i = i' + 1 := ⟨i - 1, by omega⟩;have hi8 : i' + 1 < R8.length := by have := hR8.out; have := hRl.out; omega
              have hi8' : i' < R8.length := by omega
              have hia1 : (a : Int) < ((i' + 1 : Nat) : Int) := by omega
              have hcast : ((i' + 1 : Nat) : Int) - 1 = (i' : Int) := by omega
              have hms := MSwap_c (S.withR R8) (i' + 1) i' wr hL8.out hi8 hi8' (by omega) (HT.out.good R8);have HMs := Lib.hid hms; clear hms;have hcast2 : ((i' + 1 : Nat) : Int) = (i' : Int) + 1 := by omega
              rw [hcast2] at hia1 hcast HMs ⊢;clear hcast2;have hia2 : (a : Int) < (i' : Int) + 1 := hia1;have hcast3 : (i' : Int) + 1 - 1 = (i' : Int) := by omega
              go_wp2_with fail
              refine HMs.out.mono ?_;rintro e w9 ⟨rfl, hL9, hC9⟩;have L9 := Lib.hid hL9;have C9 := Lib.hid (hC8.out.trans (hC9.mono (fun q _ e => (hO8.out q).1 e)));clear hL9 hC9;go_wp2;go_roundw
              case rel =>
               refine ⟨i', swapT R8 (i' + 1) i', by omega, by omega, by go_num, ?_, Lib.hid ((swapT_length ..).trans hR8.out), ?_, C9, Lib.hid (fun q => (own_swapT (S.withR R8) (i' + 1) i' q).trans (hO8.out q))⟩
               · have := hSw.out;unfold swapsT at this;rw [if_neg (by omega)] at this;exact this
               · rw [swapT_eq hi8 hi8']; exact L9
              case measure => simp only [intOf]; omega
            · obtain rfl : i = a := by omega
              have hR8F : R8 = RF := by
               have := hSw.out;cases i with
               | zero => exact this
               | succ q => unfold swapsT at this; rw [if_pos (Nat.le_refl _)] at this; exact this
              subst hR8F;have hset := Settle_c (S.withR R8) (n + 1) B c R' wr hL8.out (by show n + 1 <= R8.length; have := hR8.out; omega) (by omega) HRF.out HSF.out (by show R8.length <= 1000000; have := hR8.out; omega) hc HT.out;have HSet := Lib.hid hset; clear hset;have hcn1 : ((n + 1 : Nat) : Int) = (n : Int) + 1 := by omega
              rw [hcn1] at HSet;clear hcn1;have hgt : ¬ (i : Int) > (i : Int) := by omega
              go_wp2_with fail
              refine HSet.out.mono ?_;rintro e w9 ⟨rfl, hL9, hC9⟩;have L9 := Lib.hid hL9;have C9 := Lib.hid (hC8.out.trans (hC9.mono (fun q _ e => (hO8.out q).1 e)));clear hL9 hC9;go_wp2;go_ret;exact ⟨rfl, L9.out, C9.out⟩
def rotT : Nat -> Nat -> List Hd -> List Hd
 | 0, _, R => R
 | k + 1, i, R => rotT k (i + 1) (swapT R i (i + 1))
inductive RedT (B c : Nat) : Nat -> Nat -> List Hd -> Nat -> List Hd -> Prop
 | fin {d e : Nat} {R : List Hd} (h : e <= d) : RedT B c d e R d R
 | ok {d e k : Nat} {R R1 R' : List Hd} (h : d < e) (hp : PutT B c d 0 (-1) R true R1) (hs : RedT B c (d + 1) e R1 k R') : RedT B c d e R k R'
 | zero {d e k : Nat} {R R1 R' : List Hd} (h : d < e) (hp : PutT B c d 0 (-1) R false R1) (hs : RedT B c d (e - 1) (rotT (e - 1 - d) d R1) k R') : RedT B c d e R k R'
theorem SOut.length {B c : Nat} {ls : List Nat} {n m : Nat} {R R' : List Hd} (h : SOut B c ls n m R R') : R'.length = R.length := by
 induction h with
 | done => rfl
 | step h1 _ ih => rw [ih, h1.length]
theorem swapsT_length (a : Nat) : ∀ (i : Nat) (R : List Hd), (swapsT a i R).length = R.length
 | 0, R => rfl
 | i + 1, R => by
  unfold swapsT; split
  · rfl
  · rw [swapsT_length a i, swapT_length]
theorem PutT.length {B c n a : Nat} {l : Int} {R R' : List Hd} {b : Bool} (h : PutT B c n a l R b R') : R'.length = R.length := by
 induction h with
 | zero _ _ hs => exact hs.length
 | stop _ _ _ _ _ _ _ _ _ hs =>
  rw [hs.length, swapsT_length];split
  · exact turnT_length ..
  · rfl
 | meet _ _ _ _ _ _ _ _ _ _ _ _ ih => rw [ih, meetT_length]
theorem own_addR (S : LSt) (R : List Hd) (i j : Nat) (x : Int) (q : Nat) : (S.withR (addT R i j x)).own q ↔ (S.withR R).own q := own_addT (S.withR R) i j x q
theorem own_turnR (S : LSt) (R : List Hd) (i q : Nat) : (S.withR (turnT R i)).own q ↔ (S.withR R).own q := own_turnT (S.withR R) i q
theorem own_meetR (S : LSt) (R : List Hd) (k n j q : Nat) : (S.withR (meetT R k n j)).own q ↔ (S.withR R).own q := own_meetT (S.withR R) k n j q
theorem own_SIn {B c i n k : Nat} {ls : List Nat} {R R' : List Hd} (h : SIn B c ls i n k R R') : ∀ (S : LSt) (q : Nat), (S.withR R').own q ↔ (S.withR R).own q := by
 induction h with
 | done _ => exact fun _ _ => Iff.rfl
 | step _ _ _ _ _ ih => exact fun S q => (ih S q).trans (own_addR S _ _ _ _ q)
theorem own_SOut {B c n m : Nat} {ls : List Nat} {R R' : List Hd} (h : SOut B c ls n m R R') : ∀ (S : LSt) (q : Nat), (S.withR R').own q ↔ (S.withR R).own q := by
 induction h with
 | done => exact fun _ _ => Iff.rfl
 | step h1 _ ih => exact fun S q => (ih S q).trans (own_SIn h1 S q)
theorem own_swapsT (a : Nat) : ∀ (i : Nat) (R : List Hd) (S : LSt) (q : Nat), (S.withR (swapsT a i R)).own q ↔ (S.withR R).own q
 | 0, R, S, q => Iff.rfl
 | i + 1, R, S, q => by
  unfold swapsT; split
  · exact Iff.rfl
  · exact (own_swapsT a i _ S q).trans (own_swapT (S.withR R) _ _ q)
theorem own_PutT {B c n a : Nat} {l : Int} {R R' : List Hd} {b : Bool} (h : PutT B c n a l R b R') : ∀ (S : LSt) (q : Nat), (S.withR R').own q ↔ (S.withR R).own q := by
 induction h with
 | zero _ _ hs => exact own_SOut hs
 | stop _ _ _ _ _ _ _ _ _ hs =>
  refine fun S q => (own_SOut hs S q).trans ((own_swapsT _ _ _ S q).trans ?_);split
  · exact own_turnR S _ _ q
  · exact Iff.rfl
 | meet _ _ _ _ _ _ _ _ _ _ _ _ ih => exact fun S q => (ih S q).trans (own_meetR S _ _ _ _ q)
set_option maxRecDepth 100000 in
set_option maxHeartbeats 8000000 in
theorem Reduce_c (S : LSt) (B c k : Nat) (R' : List Hd) (w : World) (h : LadAt w S) (hB : B <= 4000000000000) (hP : RedT B c 0 S.R.length S.R k R') (hR : S.R.length <= 100000) (hc : c <= 1000000) (hT : S.sat B c) :
 Calls Tryz.prog 65 #[.pointer (some ⟨S.lb, 0, none⟩)] w fun e w' => e = .returned (.int .i64 (k : Int)) /\ LadAt w' (S.withR R') /\ Chg S.own w w' := by
 have HT := Lib.hid hT; clear hT;have cb : w.cell? ⟨S.lb, 0, none⟩ = some (.slice (some ⟨S.o, 0, none⟩) S.R.length S.cap) := h.lad.cell 0;have HL := Lib.hid h; clear h;have HP := Lib.hid hP; clear hP;go_enter Tryz.func65, Tryz.ntmps65;go_wp2
 go_region_held3 (fun w' => w'.cell? ⟨S.lb, 0, none⟩ = some (.slice (some ⟨S.o, 0, none⟩) S.R.length S.cap)) (first | exact cb) (fail)
 go_wp2;have HL1 := Lib.hid HL.out.drew;have HC1 := Lib.hid (Chg.refl S.own w).drew;clear cb;go_loopw [3, 4] (fun d_ e_ wr => ∃ (d e : Nat) (R : List Hd), d <= e /\ e <= S.R.length /\ d_ = .int .i64 (d : Int) /\ e_ = .int .i64 (e : Int) /\ Hid (RedT B c d e R k R') /\ Hid (R.length = S.R.length) /\ Hid (LadAt wr (S.withR R)) /\ Hid (Chg S.own w wr) /\ Hid (∀ q, (S.withR R).own q ↔ S.own q)) (fun d_ e_ _ => (intOf e_ - intOf d_).toNat)
 case atStart => exact ⟨0, S.R.length, S.R, Nat.zero_le _, Nat.le_refl _, rfl, rfl, HP, rfl, HL1, HC1, fun _ => Iff.rfl⟩
 case round =>
  obtain ⟨d, e, R, hde, heR, rfl, rfl, hRed, hRl, hL, hC, hO⟩ := hrel;by_cases hd : d < e
  · have hd1 : (d : Int) < (e : Int) := by omega
    have hdR : d < R.length := by have := hRl.out; omega
    have hcase : ∃ b R1, PutT B c d 0 (-1) R b R1 /\ (b = true -> RedT B c (d + 1) e R1 k R') /\ (b = false -> RedT B c d (e - 1) (rotT (e - 1 - d) d R1) k R') := by
     cases hRed.out with
     | fin h => omega
     | ok _ hp hs => exact ⟨true, _, hp, fun _ => hs, fun h => by cases h⟩
     | zero _ hp hs => exact ⟨false, _, hp, fun h => (by cases h), fun _ => hs⟩
    obtain ⟨b, R1, hp, hs1, hs2⟩ := hcase;have hput := Put_c (S.withR R) d B c b R1 wr hL.out hdR hB hp (by show R.length <= 100000; have := hRl.out; omega) hc HT.out;have HPut := Lib.hid hput;have HR1 := Lib.hid (hp.length.trans hRl.out);have HO1 := Lib.hid (fun q => (own_PutT hp S q).trans (hO.out q));have HS1 := Lib.hid hs1;have HS2 := Lib.hid hs2;clear hput hp hs1 hs2 hRed;go_wp2_with fail
    refine HPut.out.mono ?_;rintro e' w2 ⟨rfl, hL2, hC2⟩;have L2 := Lib.hid hL2;have C2 := Lib.hid (hC.out.trans (hC2.mono (fun q _ e => (hO.out q).1 e)));clear hL2 hC2 hL hC;cases b
    · have HSF := Lib.hid (HS2.out rfl);have hec : ((e - 1 : Nat) : Int) = (e : Int) - 1 := by omega
      have Hec := Lib.hid hec; clear hec;go_wp2;go_loopw [5] (fun i_ wq => ∃ (i : Nat) (R2 : List Hd), d <= i /\ i <= e - 1 /\ i_ = .int .i64 (i : Int) /\ Hid (rotT (e - 1 - i) i R2 = rotT (e - 1 - d) d R1) /\ Hid (R2.length = S.R.length) /\ Hid (LadAt wq (S.withR R2)) /\ Hid (Chg S.own w wq) /\ Hid (∀ q, (S.withR R2).own q ↔ S.own q)) (fun i_ _ => ((e : Int) - intOf i_).toNat)
      case atStart => exact ⟨d, R1, Nat.le_refl _, by omega, rfl, rfl, HR1, L2, C2, HO1⟩
      case round =>
       obtain ⟨i, R2, hdi, hie, rfl, hRot, hR2, hL2, hC2, hO2⟩ := hrel;by_cases hi : i < e - 1
       · have hi1 : (i : Int) < (e : Int) - 1 := by omega
         have hiR : i < R2.length := by have := hR2.out; omega
         have hiR1 : i + 1 < R2.length := by have := hR2.out; omega
         have hms := MSwap_c (S.withR R2) i (i + 1) wr hL2.out hiR hiR1 (by omega) (HT.out.good R2);have hcast : ((i + 1 : Nat) : Int) = (i : Int) + 1 := by omega
         rw [hcast] at hms;have HMs := Lib.hid hms; clear hms hcast;go_wp2_with fail
         refine HMs.out.mono ?_;rintro e'' w9 ⟨rfl, hL9, hC9⟩;have L9 := Lib.hid hL9;have C9 := Lib.hid (hC2.out.trans (hC9.mono (fun q _ e => (hO2.out q).1 e)));clear hL9 hC9;go_wp2;go_roundw
         case rel =>
          refine ⟨i + 1, swapT R2 i (i + 1), by omega, by omega, by go_num, ?_, Lib.hid ((swapT_length ..).trans hR2.out), ?_, C9, Lib.hid (fun q => (own_swapT (S.withR R2) i (i + 1) q).trans (hO2.out q))⟩
          · have h2 := hRot.out;have h3 : e - 1 - i = (e - 1 - (i + 1)) + 1 := by omega
            rw [h3] at h2;exact h2
          · rw [swapT_eq hiR hiR1]; exact L9
         case measure => simp only [intOf]; omega
       · have hi1 : ¬ (i : Int) < (e : Int) - 1 := by omega
         have hie2 : e - 1 - i = 0 := by omega
         have hfin : R2 = rotT (e - 1 - d) d R1 := by
          have h2 := hRot.out;rw [hie2] at h2;exact h2
         have HFin := Lib.hid hfin; clear hfin hie2;go_wp2;go_roundw
         case rel =>
          refine ⟨d, e - 1, R2, by omega, by omega, by go_num, by go_num, ?_, hR2, hL2, hC2, hO2⟩;rw [HFin.out];exact HSF
         case measure => simp only [intOf]; omega
    · have HSF := Lib.hid (HS1.out rfl);go_wp2;go_roundw
      case rel => exact ⟨d + 1, e, R1, by omega, by omega, by go_num, by go_num, HSF, HR1, L2, C2, HO1⟩
      case measure => simp only [intOf]; omega
  · have hd1 : ¬ (d : Int) < (e : Int) := by omega
    have hfin : d = k /\ R = R' := by
     cases hRed.out with
     | fin h => exact ⟨rfl, rfl⟩
     | ok h _ _ => omega
     | zero h _ _ => omega
    have HFin := Lib.hid hfin; clear hfin;go_wp2;go_ret;rw [<- HFin.out.1, <- HFin.out.2];exact ⟨rfl, hL.out, hC.out⟩
end Go.Proofs.YtcpjoiffkniccaaGreat
namespace Go.Proofs.YtcpjoiffkniccaaGreat
def Sh (c : Nat) (R : List Hd) : Prop := ∀ h ∈ R, h.xs.length = c
theorem ent_get {R : List Hd} {i : Nat} (hi : i < R.length) (j : Nat) : ent R i j = R[i].xs.getD j 0 := by
 unfold ent; simp [hi]
theorem ent_out {R : List Hd} {i : Nat} (hi : R.length <= i) (j : Nat) : ent R i j = 0 := by
 unfold ent; rw [List.getElem?_eq_none hi]; rfl
theorem Sh.get {c : Nat} {R : List Hd} (h : Sh c R) {i : Nat} (hi : i < R.length) : R[i].xs.length = c := h _ (List.getElem_mem hi)
theorem Sh.wide {c : Nat} {R : List Hd} (h : Sh c R) (i : Nat) {j : Nat} (hj : c <= j) : ent R i j = 0 := by
 by_cases hi : i < R.length
 · rw [ent_get hi, gd_ge _ _ (by rw [h.get hi]; exact hj)]
 · exact ent_out (by omega) j
theorem Sh.setXs_ {c : Nat} {R : List Hd} (h : Sh c R) (i : Nat) {xs : List Int} (hx : xs.length = c) : Sh c (setXs R i xs) := by
 intro r hr;obtain ⟨j, hj, rfl⟩ := List.getElem_of_mem hr;rw [setXs_length] at hj;rw [setXs_get hj];split
 · exact hx
 · exact h.get hj
theorem ent_setXs {R : List Hd} {i : Nat} (hi : i < R.length) (xs : List Int) (a b : Nat) : ent (setXs R i xs) a b = if a = i then xs.getD b 0 else ent R a b := by
 by_cases ha : a < R.length
 · rw [ent_get (by rw [setXs_length]; exact ha), setXs_get ha];by_cases e : i = a
   · subst e; simp
   · rw [if_neg e, if_neg (fun h => e h.symm), ent_get ha]
 · rw [ent_out (by rw [setXs_length]; omega), if_neg (by omega), ent_out (by omega)]
theorem getD_zipWith {f : Int -> Int -> Int} (hf : f 0 0 = 0) {xs ys : List Int} (h : xs.length = ys.length) (b : Nat) : (List.zipWith f xs ys).getD b 0 = f (xs.getD b 0) (ys.getD b 0) := by
 by_cases hb : b < xs.length
 · have hb2 : b < ys.length := by omega
   have hb3 : b < (List.zipWith f xs ys).length := by simp; omega
   rw [gd_lt _ _ hb3, gd_lt _ _ hb, gd_lt _ _ hb2, List.getElem_zipWith]
 · rw [gd_ge _ _ (by simp; omega), gd_ge _ _ (by omega), gd_ge _ _ (by omega), hf]
theorem ent_addT {c : Nat} {R : List Hd} (hs : Sh c R) {i j : Nat} (hi : i < R.length) (hj : j < R.length) (k : Int) (a b : Nat) : ent (addT R i j k) a b = if a = i then k * ent R j b + ent R i b else ent R a b := by
 rw [addT_eq hi hj]; unfold addR;rw [ent_setXs hi];unfold addRow;rw [getD_zipWith (by simp) (by rw [hs.get hi, hs.get hj]), <- ent_get hi, <- ent_get hj]
theorem Sh.addT_ {c : Nat} {R : List Hd} (hs : Sh c R) (i j : Nat) (k : Int) : Sh c (addT R i j k) := by
 unfold addT;split
 · rename_i h;unfold addR;exact hs.setXs_ i (by unfold addRow; rw [List.length_zipWith, hs.get h.1, hs.get h.2]; omega)
 · exact hs
theorem blk_addT (R : List Hd) (i j : Nat) (k : Int) : (addT R i j k).map Hd.blk = R.map Hd.blk := by
 unfold addT; split
 · exact setXs_blk ..
 · rfl
theorem ent_mixT {c : Nat} {R : List Hd} (hs : Sh c R) {i j : Nat} (hi : i < R.length) (hj : j < R.length) (hij : i ≠ j) (p q r s : Int) (a b : Nat) : ent (mixT R i j p q r s) a b = if a = i then p * ent R i b + q * ent R j b else if a = j then r * ent R i b + s * ent R j b else ent R a b := by
 rw [mixT_eq hi hj]; unfold mixR;rw [ent_setXs (by rw [setXs_length]; exact hj), ent_setXs hi];have hl : R[i].xs.length = R[j].xs.length := by rw [hs.get hi, hs.get hj]
 unfold mixRow;rw [getD_zipWith (by simp) hl, getD_zipWith (by simp) hl, <- ent_get hi, <- ent_get hj];by_cases e : a = i
 · subst e; rw [if_neg hij, if_pos rfl, if_pos rfl]
 · rw [if_neg e, if_neg e]
theorem Sh.mixT_ {c : Nat} {R : List Hd} (hs : Sh c R) (i j : Nat) (p q r s : Int) : Sh c (mixT R i j p q r s) := by
 unfold mixT;split
 · rename_i h;unfold mixR;refine (hs.setXs_ i ?_).setXs_ j ?_ <;> (unfold mixRow; rw [List.length_zipWith, hs.get h.1, hs.get h.2]; omega)
 · exact hs
theorem blk_mixT (R : List Hd) (i j : Nat) (p q r s : Int) : (mixT R i j p q r s).map Hd.blk = R.map Hd.blk := by
 unfold mixT; split
 · unfold mixR; rw [setXs_blk, setXs_blk]
 · rfl
theorem ent_turnT {R : List Hd} {i : Nat} (hi : i < R.length) (a b : Nat) : ent (turnT R i) a b = if a = i then - ent R i b else ent R a b := by
 rw [turnT_eq hi]; unfold turnR;rw [ent_setXs hi, ent_get hi];split
 · unfold negRow;by_cases hb : b < R[i].xs.length
   · rw [gd_lt _ _ (by simpa using hb), gd_lt _ _ hb]; simp
   · rw [gd_ge _ _ (by simp; omega), gd_ge _ _ (by omega)]; rfl
 · rfl
theorem Sh.turnT_ {c : Nat} {R : List Hd} (hs : Sh c R) (i : Nat) : Sh c (turnT R i) := by
 unfold turnT;split
 · rename_i h;unfold turnR;exact hs.setXs_ i (by simp [negRow, hs.get h])
 · exact hs
theorem swapT_get {R : List Hd} {i j m : Nat} (hi : i < R.length) (hj : j < R.length) (hm : m < R.length) : (swapT R i j)[m]'(by rw [swapT_length]; exact hm) = R[swp i j m]'(swp_lt hi hj hm) := by
 have := swapR_get hi hj hm;rw [<- this]; congr 1; exact swapT_eq hi hj
theorem ent_swapT {R : List Hd} {i j : Nat} (hi : i < R.length) (hj : j < R.length) (a b : Nat) : ent (swapT R i j) a b = ent R (swp i j a) b := by
 by_cases ha : a < R.length
 · rw [ent_get (by rw [swapT_length]; exact ha), swapT_get hi hj ha, ent_get]
 · rw [ent_out (by rw [swapT_length]; omega), ent_out];unfold swp; split
   · omega
   · split <;> omega
theorem Sh.swapT_ {c : Nat} {R : List Hd} (hs : Sh c R) (i j : Nat) : Sh c (swapT R i j) := by
 unfold swapT;split
 · rename_i h;intro r hr;obtain ⟨m, hm, rfl⟩ := List.getElem_of_mem hr;rw [swapR_length] at hm;rw [swapR_get h.1 h.2 hm];exact hs.get _
 · exact hs
theorem lead_ent {R : List Hd} {i : Nat} (hi : i < R.length) {c : Nat} (hs : Sh c R) : (leadOf R i <= c) /\ (∀ b, b < leadOf R i -> ent R i b = 0) /\ (leadOf R i < c -> ent R i (leadOf R i) ≠ 0) := by
 rw [leadOf_eq hi];have key : ∀ xs : List Int, (∀ b, b < lead xs -> xs.getD b 0 = 0) /\ (lead xs < xs.length -> xs.getD (lead xs) 0 ≠ 0) := by
  intro xs;induction xs with
  | nil => exact ⟨fun b _ => by simp, fun h => by simp at h⟩
  | cons x xs ih =>
   unfold lead;by_cases hx : x = 0
   · rw [if_pos hx];refine ⟨fun b hb => ?_, fun h => ?_⟩
     · cases b with
       | zero => simpa using hx
       | succ b => rw [List.getD_cons_succ]; exact ih.1 b (by omega)
     · rw [List.getD_cons_succ]; exact ih.2 (by simpa using h)
   · rw [if_neg hx];exact ⟨fun b hb => by omega, fun _ => by simpa using hx⟩
 have hl := hs.get hi;have h1 := key R[i].xs;refine ⟨hl ▸ lead_le _, fun b hb => ?_, fun h => ?_⟩
 · rw [ent_get hi]; exact h1.1 b hb
 · rw [ent_get hi]; exact h1.2 (by omega)
theorem leadOf_at {R : List Hd} {i : Nat} (hi : i < R.length) {c : Nat} (hs : Sh c R) {j : Nat} (h0 : ∀ b, b < j -> ent R i b = 0) (hj : ent R i j ≠ 0) : leadOf R i = j := by
 have h1 := lead_ent hi hs;have hjc : j < c := by
  by_cases h : j < c
  · exact h
  · exact absurd (hs.wide i (by omega)) hj
 rcases Nat.lt_trichotomy (leadOf R i) j with h | h | h
 · exact absurd (h0 _ h) (h1.2.2 (by omega))
 · exact h
 · exact absurd (h1.2.1 _ h) hj
theorem Fit.of {B c : Nat} {R : List Hd} (hs : Sh c R) (h : ∀ a b, (ent R a b).natAbs < W ^ B) : Fit B c R := by
 refine ⟨hs, fun r hr x hx => ?_⟩;obtain ⟨i, hi, rfl⟩ := List.getElem_of_mem hr;obtain ⟨j, hj, rfl⟩ := List.getElem_of_mem hx;have := h i j;rw [ent_get hi, gd_lt _ _ hj] at this;exact wlen_le_of_lt this
/-! Bounds by powers of the base. -/
theorem pw_le {u v : Nat} (h : u <= v) : W ^ u <= W ^ v := Nat.pow_le_pow_right W_pos h
theorem pw_lt {n u v : Nat} (h : n < W ^ u) (k : u <= v) : n < W ^ v := Nat.lt_of_lt_of_le h (pw_le k)
theorem pw_pos (u : Nat) : 0 < W ^ u := Nat.pow_pos W_pos
theorem pw_muladd {k y x u d : Nat} (hk : k < W ^ u) (hy : y < W ^ d) (hx : x < W ^ u) : k * y + x < W ^ (u + d) := by
 have h1 : (k + 1) * W ^ d <= W ^ u * W ^ d := Nat.mul_le_mul_right _ hk;have h2 : k * (y + 1) <= k * W ^ d := Nat.mul_le_mul_left _ hy;rw [Nat.pow_add];rw [Nat.succ_mul] at h1;rw [Nat.mul_add, Nat.mul_one] at h2;have h3 : W ^ u <= W ^ u * W ^ d := by have := Nat.mul_le_mul_left (W ^ u) (pw_pos d); omega
 by_cases hk0 : k = 0
 · subst hk0; omega
 · have h4 : k * y + k <= k * W ^ d := h2;have h5 : (W ^ u - 1) * y + (W ^ u - 1) <= (W ^ u - 1) * W ^ d := by
    have := Nat.mul_le_mul_left (W ^ u - 1) hy;rw [Nat.mul_succ] at this; exact this
   have h6 : k * y <= (W ^ u - 1) * y := Nat.mul_le_mul_right _ (by omega);have h7 : (W ^ u - 1) * W ^ d < W ^ u * W ^ d := Nat.mul_lt_mul_of_pos_right (by have := pw_pos u; omega) (pw_pos d);omega
theorem natAbs_muladd (k y x : Int) : (k * y + x).natAbs <= k.natAbs * y.natAbs + x.natAbs := by
 have := Int.natAbs_add_le (k * y) x
 rwa [Int.natAbs_mul] at this
theorem fdiv_le {x y : Int} (hy : 0 < y) : (x.fdiv y).natAbs <= x.natAbs := by
 rw [Int.fdiv_eq_ediv_of_nonneg _ (Int.le_of_lt hy)];exact Int.natAbs_ediv_le_natAbs x y
theorem fmod_lt' {x y : Int} (hy : 0 < y) : 0 <= x.fmod y /\ x.fmod y < y := by
 rw [Int.fmod_eq_emod_of_nonneg _ (Int.le_of_lt hy)];exact ⟨Int.emod_nonneg _ (by omega), Int.emod_lt_of_pos _ hy⟩
theorem fmod_def' {x y : Int} (hy : 0 < y) : -(x.fdiv y) * y + x = x.fmod y := by
 rw [Int.fdiv_eq_ediv_of_nonneg _ (Int.le_of_lt hy), Int.fmod_eq_emod_of_nonneg _ (Int.le_of_lt hy), Int.emod_def, Int.mul_comm y, Int.neg_mul]; omega
/-! settle. -/
def sinF (ls : List Nat) (i : Nat) : Nat -> Nat -> List Hd -> List Hd
 | 0, _, R => R
 | f + 1, k, R => sinF ls i f (k + 1) (addT R i k (-((ent R i (ls.getD k 0)).fdiv (ent R k (ls.getD k 0)))))
def soutF (ls : List Nat) (n : Nat) : Nat -> List Hd -> List Hd
 | 0, R => R
 | m + 1, R => soutF ls n m (sinF ls m (n - (m + 1)) (m + 1) R)
theorem SpEq.add {n : Nat} {E F : Nat -> Nat -> Int} {i k : Nat} (hi : i < n) (hk : k < n) (hik : i ≠ k) (q : Int) (h : ∀ a b, F a b = if a = i then q * E k b + E i b else E a b) : SpEq n E n F := by
 refine ⟨fun a ha => ?_, fun a ha => ?_⟩
 · by_cases e : a = i
   · subst e;refine ((Sp.row F ha).add ((Sp.row F hk).smul (-q))).congr (fun j => ?_);rw [h a j, if_pos rfl, h k j, if_neg (fun e => hik e.symm), Int.neg_mul]; omega
   · exact (Sp.row F ha).congr (fun j => by rw [h, if_neg e])
 · by_cases e : a = i
   · subst e;refine (((Sp.row E hk).smul q).add (Sp.row E ha)).congr (fun j => ?_);rw [h, if_pos rfl]
   · exact (Sp.row E ha).congr (fun j => by rw [h, if_neg e])
structure SinOk (n c i k : Nat) (l : Nat -> Nat) (R R' : List Hd) : Prop where
 same : ∀ a, a ≠ i -> ∀ b, ent R' a b = ent R a b
 low : ∀ b, (∀ m, k <= m -> m < n -> b < l m) -> ent R' i b = ent R i b
 red : ∀ m, k <= m -> m < n -> 0 <= ent R' i (l m) /\ ent R' i (l m) < ent R m (l m)
 sh : Sh c R'
 len : R'.length = R.length
 blk : R'.map Hd.blk = R.map Hd.blk
 sp : SpEq n (ent R) n (ent R')
theorem Ech.add {n c : Nat} {E F : Nat -> Nat -> Int} {l : Nat -> Nat} (h : Ech n c E l) {i k : Nat} (hik : i < k) (hk : k < n) (q : Int) (e : ∀ a b, F a b = if a = i then q * E k b + E i b else E a b) : Ech n c F l := by
 refine ⟨h.inc, h.lt, fun a ha j hj => ?_, fun a ha => ?_⟩
 · rw [e]; split
   · rename_i e'; subst e';rw [h.zero k hk j (by have := h.inc a k hik hk; omega), h.zero a ha j hj]; simp
   · exact h.zero a ha j hj
 · rw [e]; split
   · rename_i e'; subst e';rw [h.zero k hk _ (h.inc a k hik hk)]; have := h.pos a ha; simpa using this
   · exact h.pos a ha
theorem sinF_ok {n c i : Nat} {l : Nat -> Nat} {ls : List Nat} (hls : ∀ k, k < n -> ls.getD k 0 = l k) : ∀ (f k : Nat) (R : List Hd), k + f = n -> i < k -> Sh c R -> n <= R.length -> Ech n c (ent R) l -> SinOk n c i k l R (sinF ls i f k R)
 | 0, k, R, hf, hik, hs, hn, hE => ⟨fun _ _ _ => rfl, fun _ _ => rfl, fun m h1 h2 => by omega, hs, rfl, rfl, SpEq.refl _ _⟩
 | f + 1, k, R, hf, hik, hs, hn, hE => by
  have hk : k < n := by omega
  have he := fun (a b : Nat) => ent_addT hs (i := i) (j := k) (by omega) (by omega) (-((ent R i (ls.getD k 0)).fdiv (ent R k (ls.getD k 0)))) a b;have ih := sinF_ok (i := i) hls f (k + 1) (addT R i k (-((ent R i (ls.getD k 0)).fdiv (ent R k (ls.getD k 0))))) (by omega) (by omega) (hs.addT_ i k _) (by rw [addT_length]; exact hn) (hE.add hik hk _ he);rw [hls k hk] at he;have hp := hE.pos k hk;refine ⟨fun a ha b => ?_, fun b hb => ?_, fun m hm hmn => ?_, ih.sh, ih.len.trans (addT_length ..), ih.blk.trans (blk_addT ..), (SpEq.add (by omega) hk (by omega) _ he).trans (by rw [<- hls k hk]; exact ih.sp)⟩
  · show ent (sinF ls i f (k + 1) _) a b = _;rw [ih.same a ha b, hls k hk, he, if_neg ha]
  · show ent (sinF ls i f (k + 1) _) i b = _;rw [ih.low b (fun m h1 h2 => hb m (by omega) h2), hls k hk, he, if_pos rfl, hE.zero k hk b (hb k (Nat.le_refl _) hk)]; omega
  · by_cases e : m = k
    · subst e;show 0 <= ent (sinF ls i f (m + 1) _) i (l m) /\ ent (sinF ls i f (m + 1) _) i (l m) < _;rw [ih.low (l m) (fun q h1 h2 => hE.inc m q (by omega) h2), hls m hk, he, if_pos rfl, fmod_def' hp];exact fmod_lt' hp
    · have h1 := ih.red m (by omega) hmn;rw [hls k hk, he m, if_neg (by omega)] at h1;show 0 <= ent (sinF ls i f (k + 1) _) i (l m) /\ ent (sinF ls i f (k + 1) _) i (l m) < _;rw [hls k hk];exact h1
theorem Ech.congr {n c : Nat} {E F : Nat -> Nat -> Int} {l : Nat -> Nat} (h : Ech n c E l) (e : ∀ a, a < n -> ∀ b, F a b = E a b) : Ech n c F l :=
 ⟨h.inc, h.lt, fun a ha j hj => (e a ha j).trans (h.zero a ha j hj), fun a ha => by rw [e a ha]; exact h.pos a ha⟩
theorem SinOk.ech {n c i k : Nat} {l : Nat -> Nat} {R R' : List Hd} (h : SinOk n c i k l R R') (hE : Ech n c (ent R) l) (hik : i < k) (hin : i < n) : Ech n c (ent R') l := by
 have hlow : ∀ b, b <= l i -> ent R' i b = ent R i b := fun b hb => h.low b (fun m h1 h2 => by have := hE.inc i m (by omega) h2; omega);refine ⟨hE.inc, hE.lt, fun a ha j hj => ?_, fun a ha => ?_⟩
 · by_cases e : a = i
   · subst e; rw [hlow j (by omega)]; exact hE.zero a ha j hj
   · rw [h.same a e]; exact hE.zero a ha j hj
 · by_cases e : a = i
   · subst e; rw [hlow _ (Nat.le_refl _)]; exact hE.pos a ha
   · rw [h.same a e]; exact hE.pos a ha
structure SoutOk (n c m : Nat) (l : Nat -> Nat) (R R' : List Hd) : Prop where
 same : ∀ a, m <= a -> ∀ b, ent R' a b = ent R a b
 herm : Herm n c (ent R') l
 sh : Sh c R'
 len : R'.length = R.length
 blk : R'.map Hd.blk = R.map Hd.blk
 sp : SpEq n (ent R) n (ent R')
theorem soutF_ok {n c : Nat} {l : Nat -> Nat} {ls : List Nat} (hls : ∀ k, k < n -> ls.getD k 0 = l k) : ∀ (m : Nat) (R : List Hd), m <= n -> Sh c R -> n <= R.length -> Ech n c (ent R) l -> (∀ i k, m <= i -> i < k -> k < n -> 0 <= ent R i (l k) /\ ent R i (l k) < ent R k (l k)) -> SoutOk n c m l R (soutF ls n m R)
 | 0, R, hm, hs, hn, hE, hr => ⟨fun _ _ _ => rfl, ⟨hE, fun i k => hr i k (Nat.zero_le _)⟩, hs, rfl, rfl, SpEq.refl _ _⟩
 | m + 1, R, hm, hs, hn, hE, hr => by
  have h1 := sinF_ok (i := m) hls (n - (m + 1)) (m + 1) R (by omega) (by omega) hs hn hE;have h2 := soutF_ok hls m (sinF ls m (n - (m + 1)) (m + 1) R) (by omega) h1.sh (by rw [h1.len]; exact hn) (h1.ech hE (by omega) (by omega)) (fun i k hi hik hk => by
   by_cases e : i = m
   · subst e;rw [h1.same k (by omega)];exact h1.red k (by omega) hk
   · rw [h1.same i e, h1.same k (by omega)];exact hr i k (by omega) hik hk)
  exact ⟨fun a ha b => (h2.same a (by omega) b).trans (h1.same a (by omega) b), h2.herm, h2.sh, h2.len.trans h1.len, h2.blk.trans h1.blk, h1.sp.trans h2.sp⟩
theorem SIn_of {n c i B δ : Nat} {l : Nat -> Nat} {ls : List Nat} (hls : ∀ k, k < n -> ls.getD k 0 = l k) : ∀ (f k u : Nat) (R : List Hd), k + f = n -> i < k -> Sh c R -> n <= R.length -> Ech n c (ent R) l ->
 (∀ a b, (ent R a b).natAbs < W ^ B) -> (∀ b, (ent R i b).natAbs < W ^ u) -> (∀ a, k <= a -> a < n -> ∀ b, (ent R a b).natAbs < W ^ δ) -> u + f * δ <= B -> SIn B c ls i n k R (sinF ls i f k R)
 | 0, k, u, R, hf, hik, hs, hn, hE, hB, hu, hd, hb => .done (by omega)
 | f + 1, k, u, R, hf, hik, hs, hn, hE, hB, hu, hd, hb => by
  have hk : k < n := by omega
  have he := fun (a b : Nat) => ent_addT hs (i := i) (j := k) (by omega) (by omega) (-((ent R i (ls.getD k 0)).fdiv (ent R k (ls.getD k 0)))) a b;have hp := hE.pos k hk;have hq : ((ent R i (ls.getD k 0)).fdiv (ent R k (ls.getD k 0))).natAbs < W ^ u := by
   rw [hls k hk];exact Nat.lt_of_le_of_lt (fdiv_le hp) (hu _)
  have hrow : ∀ b, (ent (addT R i k (-((ent R i (ls.getD k 0)).fdiv (ent R k (ls.getD k 0))))) i b).natAbs < W ^ (u + δ) := by
   intro b;rw [he, if_pos rfl];refine Nat.lt_of_le_of_lt (natAbs_muladd _ _ _) ?_;rw [Int.natAbs_neg];exact pw_muladd hq (hd k (Nat.le_refl _) hk b) (hu b)
  have e1 : (f + 1) * δ = f * δ + δ := Nat.succ_mul ..;refine .step hk (Fit.of hs hB) (by rw [hls k hk]; exact hE.lt k hk) (by rw [hls k hk]; omega) ?_;refine SIn_of (δ := δ) hls f (k + 1) (u + δ) _ (by omega) (by omega) (hs.addT_ i k _) (by rw [addT_length]; exact hn) (hE.add hik hk _ he) (fun a b => ?_) hrow (fun a h1 h2 b => ?_) (by omega)
  · by_cases e : a = i
    · subst e; exact pw_lt (hrow b) (by omega)
    · rw [he, if_neg e]; exact hB a b
  · rw [he, if_neg (by omega)]; exact hd a (by omega) h2 b
theorem SOut_of {n c B δ u : Nat} {l : Nat -> Nat} {ls : List Nat} (hls : ∀ k, k < n -> ls.getD k 0 = l k) (hb : u + n * δ <= B) : ∀ (m : Nat) (R : List Hd), m <= n -> Sh c R -> n <= R.length -> Ech n c (ent R) l -> (∀ i k, m <= i -> i < k -> k < n -> 0 <= ent R i (l k) /\ ent R i (l k) < ent R k (l k)) ->
 (∀ a b, (ent R a b).natAbs < W ^ B) -> (∀ a, a < m -> ∀ b, (ent R a b).natAbs < W ^ u) -> (∀ a, a < n -> ∀ b, (ent (soutF ls n m R) a b).natAbs < W ^ δ) -> SOut B c ls n m R (soutF ls n m R)
 | 0, R, hm, hs, hn, hE, hr, hB, hu, hd => .done
 | m + 1, R, hm, hs, hn, hE, hr, hB, hu, hd => by
  have hout := soutF_ok hls (m + 1) R hm hs hn hE hr;have h1 := sinF_ok (i := m) hls (n - (m + 1)) (m + 1) R (by omega) (by omega) hs hn hE;have hr1 : ∀ i k, m <= i -> i < k -> k < n -> 0 <= ent (sinF ls m (n - (m + 1)) (m + 1) R) i (l k) /\ ent (sinF ls m (n - (m + 1)) (m + 1) R) i (l k) < ent (sinF ls m (n - (m + 1)) (m + 1) R) k (l k) := fun i k hi hik hk => by
   by_cases e : i = m
   · subst e;rw [h1.same k (by omega)];exact h1.red k (by omega) hk
   · rw [h1.same i e, h1.same k (by omega)];exact hr i k (by omega) hik hk
  have h2 := soutF_ok hls m (sinF ls m (n - (m + 1)) (m + 1) R) (by omega) h1.sh (by rw [h1.len]; exact hn) (h1.ech hE (by omega) (by omega)) hr1;have hmul : (n - (m + 1)) * δ <= n * δ := Nat.mul_le_mul_right _ (by omega);have hδ : δ <= n * δ := by have := Nat.mul_le_mul_right δ (show 1 <= n by omega); omega
  refine .step (SIn_of (δ := δ) hls (n - (m + 1)) (m + 1) u R (by omega) (by omega) hs hn hE hB (fun b => hu m (by omega) b) (fun a h3 h4 b => ?_) (by omega)) ?_
  · rw [<- hout.same a h3 b]; exact hd a h4 b
  · refine SOut_of hls hb m _ (by omega) h1.sh (by rw [h1.len]; exact hn) (h1.ech hE (by omega) (by omega)) hr1 (fun a b => ?_) (fun a ha b => ?_) hd
    · by_cases e : a = m
      · subst e;rw [<- h2.same a (Nat.le_refl _) b];exact pw_lt (hd a (by omega) b) (by omega)
      · rw [h1.same a e]; exact hB a b
    · rw [h1.same a (by omega)]; exact hu a (by omega) b
/-! meet. -/
theorem ext_eq (a b : Int) (hb : b ≠ 0) : a * extX a b + b * extY a b = extG a b := by
 have h := ext_is a b;unfold ExtIs at h;rw [if_neg hb] at h;exact h.2.2.2
theorem SpEq.two {N : Nat} {E F : Nat -> Nat -> Int} {k n : Nat} (hk : k < N) (hn : n < N) (hkn : k ≠ n) (hs : ∀ a, a ≠ k -> a ≠ n -> ∀ b, F a b = E a b)
 {x y z t x' y' z' t' : Int} (h1 : ∀ b, F k b = x * E k b + y * E n b) (h2 : ∀ b, F n b = z * E k b + t * E n b) (h3 : ∀ b, E k b = x' * F k b + y' * F n b) (h4 : ∀ b, E n b = z' * F k b + t' * F n b) : SpEq N E N F := by
 refine ⟨fun a ha => ?_, fun a ha => ?_⟩
 · by_cases e : a = k
   · subst e; exact (((Sp.row F hk).smul x').add ((Sp.row F hn).smul y')).congr h3
   · by_cases e' : a = n
     · subst e'; exact (((Sp.row F hk).smul z').add ((Sp.row F hn).smul t')).congr h4
     · exact (Sp.row F ha).congr (fun j => (hs a e e' j).symm)
 · by_cases e : a = k
   · subst e; exact (((Sp.row E hk).smul x).add ((Sp.row E hn).smul y)).congr h1
   · by_cases e' : a = n
     · subst e'; exact (((Sp.row E hk).smul z).add ((Sp.row E hn).smul t)).congr h2
     · exact (Sp.row E ha).congr (fun j => hs a e e' j)
structure MeetOk (c k n j δ u : Nat) (R R' : List Hd) : Prop where
 same : ∀ a, a ≠ k -> a ≠ n -> ∀ b, ent R' a b = ent R a b
 low : ∀ b, b < j -> ent R' k b = 0
 piv : 0 < ent R' k j
 gone : ∀ b, b <= j -> ent R' n b = 0
 comb : ∃ t s : Int, t ≠ 0 /\ ∀ b, ent R' n b = t * ent R n b + s * ent R k b
 sp : ∀ N, k < N -> n < N -> SpEq N (ent R) N (ent R')
 bk : ∀ b, (ent R' k b).natAbs < W ^ (u + 2 * δ + 1)
 bn : ∀ b, (ent R' n b).natAbs < W ^ (u + 2 * δ + 1)
 sh : Sh c R'
 len : R'.length = R.length
 blk : R'.map Hd.blk = R.map Hd.blk
theorem meetA_ent {c : Nat} {R : List Hd} (hs : Sh c R) {k n : Nat} (hk : k < R.length) (hn : n < R.length) (j a b : Nat) : ent (meetA R k n j) a b = if a = n then -((ent R n j).fdiv (ent R k j)) * ent R k b + ent R n b else ent R a b :=
 ent_addT hs hn hk _ a b
theorem pw_two {x y z t u d : Nat} (hx : x <= W ^ d) (hy : y < W ^ d) (hz : z <= W ^ d) (ht : t < W ^ (u + d)) : x * y + z * t < W ^ (u + 2 * d + 1) := by
 have h1 : x * y <= W ^ d * W ^ d := Nat.mul_le_mul hx (Nat.le_of_lt hy);have h2 : z * t <= W ^ d * W ^ (u + d) := Nat.mul_le_mul hz (Nat.le_of_lt ht);have e1 : W ^ d * W ^ d <= W ^ (u + 2 * d) := by rw [<- Nat.pow_add]; exact pw_le (by omega)
 have e2 : W ^ d * W ^ (u + d) = W ^ (u + 2 * d) := by rw [<- Nat.pow_add]; congr 1; omega
 have e3 : W ^ (u + 2 * d) * 2 < W ^ (u + 2 * d + 1) := by
  rw [Nat.pow_succ];exact Nat.mul_lt_mul_of_pos_left (by unfold W; omega) (pw_pos _)
 omega
theorem meetA_bound {c : Nat} {R : List Hd} (hs : Sh c R) {k n j δ u : Nat} (hk : k < R.length) (hn : n < R.length) (hp : 0 < ent R k j) (hbk : ∀ b, (ent R k b).natAbs < W ^ δ) (hbn : ∀ b, (ent R n b).natAbs < W ^ u) (b : Nat) : (ent (meetA R k n j) n b).natAbs < W ^ (u + δ) := by
 rw [meetA_ent hs hk hn, if_pos rfl];refine Nat.lt_of_le_of_lt (natAbs_muladd _ _ _) ?_;rw [Int.natAbs_neg];exact pw_muladd (Nat.lt_of_le_of_lt (fdiv_le hp) (hbn j)) (hbk b) (hbn b)
theorem blk_meetT (R : List Hd) (k n j : Nat) : (meetT R k n j).map Hd.blk = R.map Hd.blk := by
 unfold meetT meetA; split
 · exact blk_addT ..
 · rw [blk_mixT]; exact blk_addT ..
theorem meet_ok {c k n j δ u : Nat} {R : List Hd} (hs : Sh c R) (hk : k < R.length) (hn : n < R.length) (hkn : k ≠ n) (hp : 0 < ent R k j) (h0 : ∀ b, b < j -> ent R k b = 0) (h1 : ∀ b, b < j -> ent R n b = 0)
 (hbk : ∀ b, (ent R k b).natAbs < W ^ δ) (hbn : ∀ b, (ent R n b).natAbs < W ^ u) : MeetOk c k n j δ u R (meetT R k n j) := by
 have hA := meetA_ent hs hk hn j;have hAn := fun b => (hA n b).trans (if_pos rfl);have hAk := fun b => (hA k b).trans (if_neg hkn);have hAs := fun a b (h : a ≠ n) => (hA a b).trans (if_neg h);have hsA : Sh c (meetA R k n j) := hs.addT_ n k _;have hlA : (meetA R k n j).length = R.length := addT_length ..;have hbA := meetA_bound hs hk hn hp hbk hbn;have hr : ent (meetA R k n j) n j = (ent R n j).fmod (ent R k j) := by rw [hAn, fmod_def' hp]
 have hrr := fmod_lt' (x := ent R n j) hp;by_cases hz : (ent R n j).fmod (ent R k j) = 0
 · have e : meetT R k n j = meetA R k n j := by unfold meetT; rw [if_pos hz]
   rw [e];refine ⟨fun a _ h b => hAs a b h, fun b hb => (hAk b).trans (h0 b hb), by rw [hAk]; exact hp, fun b hb => ?_, ⟨1, -((ent R n j).fdiv (ent R k j)), by omega, fun b => ?_⟩, fun N hkN hnN => SpEq.add hnN hkN (fun e => hkn e.symm) _ hA, fun b => ?_, fun b => pw_lt (hbA b) (by omega), hsA, hlA, blk_addT ..⟩
   · rcases Nat.lt_or_eq_of_le hb with h | h
     · rw [hAn, h0 b h, h1 b h]; simp
     · subst h; rw [hr, hz]
   · rw [hAn, Int.one_mul]; omega
   · rw [hAk]; exact pw_lt (hbk b) (by omega)
 · obtain ⟨M, hM⟩ : ∃ M, meetA R k n j = M := ⟨_, rfl⟩;rw [hM] at hAn hAk hAs hsA hlA hbA hr;have e : meetT R k n j = mixT M k n (extX (ent M k j) (ent M n j)) (extY (ent M k j) (ent M n j)) (-(ent M n j / extG (ent M k j) (ent M n j))) (ent M k j / extG (ent M k j) (ent M n j)) := by
    unfold meetT; rw [if_neg hz, hM]
   obtain ⟨p, hp'⟩ : ∃ p, ent M k j = p := ⟨_, rfl⟩;obtain ⟨r, hr'⟩ : ∃ r, ent M n j = r := ⟨_, rfl⟩;have hpp : p = ent R k j := hp'.symm.trans (hAk j);rw [hr'] at hr;rw [hp', hr'] at e;have hrne : r ≠ 0 := by rw [hr]; exact hz
   rw [<- hr, <- hpp] at hrr;have hrp : 0 < r := by omega
   have hg := extG_dvd p r;have hx := ext_eq p r hrne;have hxl := extX_le p r;have hyl := extY_le p r;obtain ⟨g, hgd⟩ : ∃ g, extG p r = g := ⟨_, rfl⟩;obtain ⟨x, hxd⟩ : ∃ x, extX p r = x := ⟨_, rfl⟩;obtain ⟨y, hyd⟩ : ∃ y, extY p r = y := ⟨_, rfl⟩;rw [hgd] at hg hx e;rw [hxd] at hx hxl e;rw [hyd] at hx hyl e;have hgp : 0 < g := by have := hg.2.2.1 (by omega); have := hg.2.2.2; omega
   obtain ⟨p', hp1⟩ := hg.1;obtain ⟨r', hr1⟩ := hg.2.1;have hpd : p / g = p' := by rw [hp1, Int.mul_ediv_cancel_left _ (by omega)]
   have hrd : r / g = r' := by rw [hr1, Int.mul_ediv_cancel_left _ (by omega)]
   rw [hpd, hrd] at e;have hk1 : p' * x + r' * y = 1 := by
    have : g * (p' * x + r' * y) = g * 1 := by
     rw [Int.mul_add, <- Int.mul_assoc, <- Int.mul_assoc, <- hp1, <- hr1, hx]; omega
    exact Int.eq_of_mul_eq_mul_left (by omega) this
   have hp0 : p' ≠ 0 := fun h => by rw [h, Int.mul_zero] at hp1; omega
   have hmix := ent_mixT hsA (by omega : k < M.length) (by omega : n < M.length) hkn x y (-r') p';rw [<- e] at hmix;have hmk := fun b => (hmix k b).trans (if_pos rfl);have hmn := fun b => ((hmix n b).trans (if_neg (fun h => hkn h.symm))).trans (if_pos rfl);have hms := fun a b (h : a ≠ k) (h' : a ≠ n) => ((hmix a b).trans (if_neg h)).trans (if_neg h');have hM0 : ∀ b, b < j -> ent M n b = 0 := fun b hb => by rw [hAn, h0 b hb, h1 b hb]; simp
   have hpD : p.natAbs < W ^ δ := by rw [hpp]; exact hbk j
   have hrD : r.natAbs < W ^ δ := by omega
   have hp'D : p'.natAbs <= W ^ δ := by
    have h2 : p'.natAbs <= p.natAbs := by
     rw [hp1, Int.natAbs_mul];have := Nat.mul_le_mul_right p'.natAbs (show 1 <= g.natAbs by omega);omega
    omega
   have hr'D : r'.natAbs <= W ^ δ := by
    have h2 : r'.natAbs <= r.natAbs := by
     rw [hr1, Int.natAbs_mul];have := Nat.mul_le_mul_right r'.natAbs (show 1 <= g.natAbs by omega);omega
    omega
   have bnd : ∀ (s t : Int) b, s.natAbs <= W ^ δ -> t.natAbs <= W ^ δ -> (s * ent M k b + t * ent M n b).natAbs < W ^ (u + 2 * δ + 1) := by
    intro s t b hs' ht';refine Nat.lt_of_le_of_lt (Int.natAbs_add_le _ _) ?_;rw [Int.natAbs_mul, Int.natAbs_mul];exact pw_two hs' (by rw [hAk]; exact hbk b) ht' (hbA b)
   have hspA : ∀ N, k < N -> n < N -> SpEq N (ent R) N (ent M) := fun N hkN hnN => by
    rw [<- hM]; exact SpEq.add hnN hkN (fun e => hkn e.symm) _ hA
   refine ⟨fun a h h' b => ?_, fun b hb => ?_, ?_, fun b hb => ?_, ?_, fun N hkN hnN => ?_, fun b => ?_, fun b => ?_, ?_, ?_, blk_meetT ..⟩
   · rw [hms a b h h', hAs a b h']
   · rw [hmk, hAk, h0 b hb, hM0 b hb]; simp
   · rw [hmk, hp', hr', Int.mul_comm x, Int.mul_comm y, hx]; exact hgp
   · rw [hmn];rcases Nat.lt_or_eq_of_le hb with h | h
     · rw [hAk, h0 b h, hM0 b h]; simp
     · subst h;rw [hp', hr', hp1, hr1, Int.neg_mul, Int.mul_left_comm r', Int.mul_left_comm p', Int.mul_comm r' p']; omega
   · refine ⟨p', -r' + p' * (-((ent R n j).fdiv (ent R k j))), hp0, fun b => ?_⟩;rw [hmn, hAk, hAn, Int.mul_add, Int.add_mul, <- Int.mul_assoc]; omega
   · refine (hspA N hkN hnN).trans (SpEq.two hkN hnN hkn (fun a h h' b => hms a b h h') hmk hmn (x' := p') (y' := -y) (z' := r') (t' := x) (fun b => ?_) (fun b => ?_))
     · rw [hmk, hmn];have : p' * (x * ent M k b + y * ent M n b) + -y * (-r' * ent M k b + p' * ent M n b) = (p' * x + r' * y) * ent M k b := by
        simp only [Int.mul_add, Int.add_mul, Int.neg_mul, Int.mul_neg, Int.neg_neg];have a1 : p' * (y * ent M n b) = y * (p' * ent M n b) := Int.mul_left_comm ..;have a2 : y * (r' * ent M k b) = r' * y * ent M k b := by rw [<- Int.mul_assoc, Int.mul_comm y]
        have a3 : p' * (x * ent M k b) = p' * x * ent M k b := (Int.mul_assoc ..).symm;omega
       rw [this, hk1, Int.one_mul]
     · rw [hmk, hmn];have : r' * (x * ent M k b + y * ent M n b) + x * (-r' * ent M k b + p' * ent M n b) = (p' * x + r' * y) * ent M n b := by
        simp only [Int.mul_add, Int.add_mul, Int.neg_mul, Int.mul_neg];have a1 : r' * (x * ent M k b) = x * (r' * ent M k b) := Int.mul_left_comm ..;have a2 : r' * (y * ent M n b) = r' * y * ent M n b := (Int.mul_assoc ..).symm;have a3 : x * (p' * ent M n b) = p' * x * ent M n b := by rw [<- Int.mul_assoc, Int.mul_comm x]
        omega
       rw [this, hk1, Int.one_mul]
   · rw [hmk]; exact bnd x y b (by omega) (by omega)
   · rw [hmn]; exact bnd (-r') p' b (by rw [Int.natAbs_neg]; exact hr'D) hp'D
   · rw [e]; exact hsA.mixT_ k n _ _ _ _
   · exact meetT_length ..
/-! put. -/
theorem leadsOf_get (R : List Hd) {n k : Nat} (hk : k < n) : (leadsOf R n).getD k 0 = leadOf R k := by
 unfold leadsOf; simp [hk]
theorem settle_ok {c n B δ u : Nat} {l : Nat -> Nat} {R : List Hd} (hs : Sh c R) (hn : n <= R.length) (hE : Ech n c (ent R) l) (hu : ∀ a b, (ent R a b).natAbs < W ^ u) (hb : u + n * δ <= B)
 (hD : ∀ E', Herm n c E' l -> SpEq n (ent R) n E' -> ∀ i, i < n -> ∀ j, (E' i j).natAbs < W ^ δ) : ∃ R', SOut B c (leadsOf R n) n n R R' /\ SoutOk n c n l R R' := by
 have hls : ∀ k, k < n -> (leadsOf R n).getD k 0 = l k := fun k hk => by
  rw [leadsOf_get R hk];exact leadOf_at (by omega) hs (hE.zero k hk) (by have := hE.pos k hk; omega)
 have h1 := soutF_ok hls n R (Nat.le_refl _) hs hn hE (fun i k h1 h2 h3 => by omega);exact ⟨_, SOut_of (δ := δ) (u := u) hls hb n R (Nat.le_refl _) hs hn hE (fun i k h1 h2 h3 => by omega) (fun a b => pw_lt (hu a b) (by omega)) (fun a _ b => hu a b) (hD _ h1.herm h1.sp), h1⟩
theorem ent_swapsT {a : Nat} : ∀ (n : Nat) (R : List Hd), a <= n -> n < R.length -> ∀ i b, ent (swapsT a n R) i b = if i < a then ent R i b else if i = a then ent R n b else if i <= n then ent R (i - 1) b else ent R i b
 | 0, R, ha, hn, i, b => by
  obtain rfl : a = 0 := by omega
  unfold swapsT;by_cases h : i = 0
  · subst h; simp
  · rw [if_neg (by omega), if_neg h, if_neg (by omega)]
 | n + 1, R, ha, hn, i, b => by
  unfold swapsT;by_cases h : n + 1 <= a
  · obtain rfl : a = n + 1 := by omega
    rw [if_pos h];by_cases h1 : i < n + 1
    · rw [if_pos h1]
    · rw [if_neg h1];by_cases h2 : i = n + 1
      · subst h2; rw [if_pos rfl]
      · rw [if_neg h2, if_neg (by omega)]
  · rw [if_neg h, ent_swapsT n _ (by omega) (by rw [swapT_length]; omega)];have hsw := fun x => ent_swapT (R := R) (i := n + 1) (j := n) hn (by omega) x b;rw [hsw, hsw, hsw];by_cases h1 : i < a
    · rw [if_pos h1, if_pos h1];unfold swp; rw [if_neg (by omega), if_neg (by omega)]
    · rw [if_neg h1, if_neg h1];by_cases h2 : i = a
      · rw [if_pos h2, if_pos h2];unfold swp; rw [if_pos rfl]
      · rw [if_neg h2, if_neg h2];by_cases h3 : i <= n
        · rw [if_pos h3, if_pos (by omega)];unfold swp; rw [if_neg (by omega), if_neg (by omega)]
        · rw [if_neg h3];by_cases h4 : i = n + 1
          · subst h4; rw [if_pos (by omega)];unfold swp; rw [if_neg (by omega), if_pos rfl]; rfl
          · rw [if_neg (by omega : ¬ i <= n + 1)];unfold swp; rw [if_neg (by omega), if_neg h4]
theorem shSwapsT {c a : Nat} : ∀ (n : Nat) (R : List Hd), Sh c R -> Sh c (swapsT a n R)
 | 0, R, h => h
 | n + 1, R, h => by
  unfold swapsT; split
  · exact h
  · exact shSwapsT n _ (h.swapT_ _ _)
structure PI (c n δ u s : Nat) (l : Nat -> Nat) (last : Int) (E0 : Nat -> Nat -> Int) (v0 : Nat -> Int) (Ro R : List Hd) : Prop where
 sh : Sh c R
 len : R.length = Ro.length
 ech : Ech n c (ent R) l
 sn : s <= n
 lo : ∀ i, i < s -> (l i : Int) <= last
 hi : ∀ i, s <= i -> i < n -> last < (l i : Int)
 un : ∀ i, s <= i -> i < n -> ∀ b, ent R i b = E0 i b
 z : ∀ b : Nat, (b : Int) <= last -> ent R n b = 0
 bd : ∀ a b, (ent R a b).natAbs < W ^ u
 cb : ∃ (t : Int) (w : Nat -> Int), t ≠ 0 /\ Sp n E0 w /\ ∀ b, ent R n b = t * v0 b + w b
 sp : SpEq (n + 1) (ent Ro) (n + 1) (ent R)
 oth : ∀ a, n < a -> ∀ b, ent R a b = ent Ro a b
structure PutOk (c n : Nat) (E0 : Nat -> Nat -> Int) (v0 : Nat -> Int) (Ro : List Hd) (b : Bool) (R' : List Hd) : Prop where
 sh : Sh c R'
 len : R'.length = Ro.length
 oth : ∀ a, n < a -> ∀ b, ent R' a b = ent Ro a b
 no : b = false -> (∃ l', Herm n c (ent R') l') /\ (∀ b, ent R' n b = 0) /\ SpEq (n + 1) (ent Ro) n (ent R')
 yes : b = true -> (∃ l', Herm (n + 1) c (ent R') l') /\ SpEq (n + 1) (ent Ro) (n + 1) (ent R') /\ ∀ s : Int, Sp n E0 (fun j => s * v0 j) -> s = 0
theorem first_at {n s j : Nat} {l : Nat -> Nat} (h : s <= n) : ∃ a, s <= a /\ a <= n /\ (∀ i, s <= i -> i < a -> l i < j) /\ (a = n ∨ (a < n /\ j <= l a)) := by
 obtain ⟨f, hf⟩ : ∃ f, n - s = f := ⟨_, rfl⟩;induction f generalizing s with
 | zero => exact ⟨s, Nat.le_refl _, h, fun i h1 h2 => by omega, .inl (by omega)⟩
 | succ f ih =>
  by_cases hj : j <= l s
  · exact ⟨s, Nat.le_refl _, h, fun i h1 h2 => by omega, .inr ⟨by omega, hj⟩⟩
  · obtain ⟨a, h1, h2, h3, h4⟩ := ih (s := s + 1) (by omega) (by omega);refine ⟨a, by omega, h2, fun i hi hia => ?_, h4⟩;by_cases e : i = s
    · subst e; omega
    · exact h3 i (by omega) hia
theorem ech_insert {c n a j : Nat} {l : Nat -> Nat} {E F : Nat -> Nat -> Int} (h : Ech n c E l) (ha : a <= n) (hlo : ∀ i, i < a -> l i < j) (hhi : ∀ i, a <= i -> i < n -> j < l i) (hj : j < c) (h0 : ∀ b, b < j -> E n b = 0) (hp : 0 < E n j)
 (hF : ∀ i b, i <= n -> F i b = if i < a then E i b else if i = a then E n b else E (i - 1) b) : Ech (n + 1) c F (fun i => if i < a then l i else if i = a then j else l (i - 1)) := by
 refine ⟨fun i k hik hk => ?_, fun i hi => ?_, fun i hi b hb => ?_, fun i hi => ?_⟩
 · show (if i < a then l i else if i = a then j else l (i - 1)) < (if k < a then l k else if k = a then j else l (k - 1));by_cases h1 : k < a
   · rw [if_pos h1, if_pos (by omega)]; exact h.inc i k hik (by omega)
   · rw [if_neg h1];by_cases h2 : k = a
     · rw [if_pos h2, if_pos (by omega)]; exact hlo i (by omega)
     · rw [if_neg h2];by_cases h3 : i < a
       · rw [if_pos h3]; exact h.inc i (k - 1) (by omega) (by omega)
       · rw [if_neg h3];by_cases h4 : i = a
         · rw [if_pos h4]; exact hhi (k - 1) (by omega) (by omega)
         · rw [if_neg h4]; exact h.inc (i - 1) (k - 1) (by omega) (by omega)
 · show (if i < a then l i else if i = a then j else l (i - 1)) < c;split
   · exact h.lt i (by omega)
   · split
     · exact hj
     · exact h.lt (i - 1) (by omega)
 · rw [hF i b (by omega)];have hb : b < (if i < a then l i else if i = a then j else l (i - 1)) := hb;split at hb
   · rename_i h1; rw [if_pos h1]; exact h.zero i (by omega) b hb
   · rename_i h1; rw [if_neg h1];split at hb
     · rename_i h2; rw [if_pos h2]; exact h0 b hb
     · rename_i h2; rw [if_neg h2]; exact h.zero (i - 1) (by omega) b hb
 · rw [hF i _ (by omega)];show 0 < (if i < a then E i (if i < a then l i else if i = a then j else l (i - 1)) else if i = a then E n (if i < a then l i else if i = a then j else l (i - 1)) else E (i - 1) (if i < a then l i else if i = a then j else l (i - 1)));split
   · exact h.pos i (by omega)
   · split
     · exact hp
     · exact h.pos (i - 1) (by omega)
theorem SpEq.perm {n a : Nat} {E F : Nat -> Nat -> Int} (ha : a <= n) (hF : ∀ i b, i <= n -> F i b = if i < a then E i b else if i = a then E n b else E (i - 1) b) : SpEq (n + 1) E (n + 1) F := by
 refine ⟨fun k hk => ?_, fun k hk => ?_⟩
 · by_cases h1 : k < a
   · exact (Sp.row F hk).congr (fun b => by rw [hF k b (by omega), if_pos h1])
   · by_cases h2 : k = n
     · subst h2;exact (Sp.row F (show a < k + 1 by omega)).congr (fun b => by rw [hF a b (by omega), if_neg (by omega), if_pos rfl])
     · exact (Sp.row F (show k + 1 < n + 1 by omega)).congr (fun b => by rw [hF (k + 1) b (by omega), if_neg (by omega), if_neg (by omega)]; rfl)
 · by_cases h1 : k < a
   · exact (Sp.row E hk).congr (fun b => by rw [hF k b (by omega), if_pos h1])
   · by_cases h2 : k = a
     · exact (Sp.row E (show n < n + 1 by omega)).congr (fun b => by rw [hF k b (by omega), if_neg h1, if_pos h2])
     · exact (Sp.row E (show k - 1 < n + 1 by omega)).congr (fun b => by rw [hF k b (by omega), if_neg h1, if_neg h2])
theorem SpEq.neg {N n : Nat} {E F : Nat -> Nat -> Int} (hn : n < N) (hs : ∀ a, a ≠ n -> ∀ b, F a b = E a b) (h : ∀ b, F n b = - E n b) : SpEq N E N F := by
 refine ⟨fun k hk => ?_, fun k hk => ?_⟩
 · by_cases e : k = n
   · subst e; exact ((Sp.row F hk).smul (-1)).congr (fun b => by rw [h]; omega)
   · exact (Sp.row F hk).congr (fun b => (hs k e b).symm)
 · by_cases e : k = n
   · subst e; exact ((Sp.row E hk).smul (-1)).congr (fun b => by rw [h]; omega)
   · exact (Sp.row E hk).congr (fun b => hs k e b)
theorem putLoop_end {c n δ B U : Nat} {l : Nat -> Nat} {E0 : Nat -> Nat -> Int} {v0 : Nat -> Int} {Ro : List Hd} (hn : n < Ro.length) (hH0 : Ech n c E0 l) (hδ : ∀ a, a < n -> ∀ b, (E0 a b).natAbs < W ^ δ) (hUB : U + (n + 1) * δ <= B)
 (hZ : ∀ E' l', Herm n c E' l' -> SpEq (n + 1) (ent Ro) n E' -> ∀ i, i < n -> ∀ j, (E' i j).natAbs < W ^ δ)
 (hS : (∀ s : Int, Sp n E0 (fun j => s * v0 j) -> s = 0) -> ∀ E' l', Herm (n + 1) c E' l' -> SpEq (n + 1) (ent Ro) (n + 1) E' -> ∀ i, i < n + 1 -> ∀ j, (E' i j).natAbs < W ^ δ)
 (s u at_ : Nat) (last : Int) (R : List Hd) (hI : PI c n δ u s l last E0 v0 Ro R) (hat : at_ <= s) (hu : u + (n - s) * (2 * δ + 1) <= U)
 (hnext : ∀ a, s <= a -> a < n -> ∀ R1 u1, PI c n δ u1 (a + 1) l (l a) E0 v0 Ro R1 -> u1 + (n - (a + 1)) * (2 * δ + 1) <= U -> ∃ b R', PutT B c n a (l a) R1 b R' /\ PutOk c n E0 v0 Ro b R') :
 ∃ b R', PutT B c n at_ last R b R' /\ PutOk c n E0 v0 Ro b R' := by
 have hnR : n < R.length := by rw [hI.len]; exact hn
 have hle := lead_ent hnR hI.sh;have huB : u <= B := by have := Nat.zero_le ((n - s) * (2 * δ + 1)); have := Nat.zero_le ((n + 1) * δ); omega
 have hFit : Fit B c R := Fit.of hI.sh (fun a b => pw_lt (hI.bd a b) huB);have hnδ : n * δ <= (n + 1) * δ := Nat.mul_le_mul_right _ (by omega);have huU : u <= U := by have := Nat.zero_le ((n - s) * (2 * δ + 1)); omega
 by_cases hc : leadOf R n = c
 · -- nothing is left
   have hz : ∀ b, ent R n b = 0 := fun b => by
    by_cases h : b < c
    · exact hle.2.1 b (by omega)
    · exact hI.sh.wide n (by omega)
   have hspz : SpEq (n + 1) (ent R) n (ent R) := by
    refine ⟨fun k hk => ?_, fun k hk => Sp.row _ (by omega)⟩;by_cases e : k = n
    · subst e; exact (Sp.zero _ _).congr hz
    · exact Sp.row _ (by omega)
   obtain ⟨R', h1, h2⟩ := settle_ok (B := B) (δ := δ) hI.sh (by omega : n <= R.length) hI.ech hI.bd (by omega) (fun E' hE' hsp => hZ E' l hE' (hI.sp.trans (hspz.trans hsp)));exact ⟨false, R', .zero hFit (.inl hc) h1, h2.sh, h2.len.trans hI.len, fun a ha b => (h2.same a (by omega) b).trans (hI.oth a ha b), fun _ => ⟨⟨l, h2.herm⟩, fun b => (h2.same n (Nat.le_refl _) b).trans (hz b), hI.sp.trans (hspz.trans h2.sp)⟩, fun h => by cases h⟩
 · have hjc : leadOf R n < c := by have := hle.1; omega
   obtain ⟨j, hj⟩ : ∃ j, leadOf R n = j := ⟨_, rfl⟩;rw [hj] at hjc hc hle;have hvj := hle.2.2 hjc;have hlast : last < (j : Int) := by
    by_cases h : last < (j : Int)
    · exact h
    · exact absurd (hI.z j (by omega)) hvj
   obtain ⟨a, hsa, han, hlt, hend⟩ := first_at (l := l) (j := j) hI.sn;have hlead : ∀ i, i < n -> leadOf R i = l i := fun i hi => leadOf_at (by omega) hI.sh (hI.ech.zero i hi) (by have := hI.ech.pos i hi; omega);have hlo : ∀ i, i < a -> l i < j := fun i hi => by
    by_cases h : s <= i
    · exact hlt i h hi
    · have := hI.lo i (by omega); omega
   by_cases hm : a < n /\ l a = j
   · obtain ⟨ha, hla⟩ := hm;have hrow : ∀ b, (ent R a b).natAbs < W ^ δ := fun b => by rw [hI.un a hsa ha]; exact hδ a ha b
     have hp : 0 < ent R a j := by rw [<- hla]; exact hI.ech.pos a ha
     have h0a : ∀ b, b < j -> ent R a b = 0 := fun b hb => hI.ech.zero a ha b (by omega);have hok := meet_ok (j := j) hI.sh (by omega : a < R.length) hnR (by omega) hp h0a hle.2.1 hrow (hI.bd n);have hA := meetA_ent hI.sh (by omega : a < R.length) hnR j;have hbA := meetA_bound (j := j) hI.sh (by omega : a < R.length) hnR hp hrow (hI.bd n);have h2n : (n - s) * (2 * δ + 1) = (n - (a + 1)) * (2 * δ + 1) + (a + 1 - s) * (2 * δ + 1) := by rw [<- Nat.add_mul]; congr 1; omega
     have h2a : 2 * δ + 1 <= (a + 1 - s) * (2 * δ + 1) := by have := Nat.mul_le_mul_right (2 * δ + 1) (show 1 <= a + 1 - s by omega); omega
     have hbud : u + 2 * δ + 1 + (n - (a + 1)) * (2 * δ + 1) <= U := by omega
     have hudB : u + 2 * δ + 1 <= B := by
      have := Nat.zero_le ((n - (a + 1)) * (2 * δ + 1)); have := Nat.zero_le ((n + 1) * δ); omega
     have hFitA : Fit B c (meetA R a n j) := Fit.of (hI.sh.addT_ n a _) (fun x b => by
      by_cases e : x = n
      · subst e; exact pw_lt (hbA b) (by omega)
      · rw [hA, if_neg e]; exact pw_lt (hI.bd x b) huB)
     have hpA : ent (meetA R a n j) a j ≠ 0 := by rw [hA, if_neg (by omega)]; omega
     have hPI : PI c n δ (u + 2 * δ + 1) (a + 1) l (l a) E0 v0 Ro (meetT R a n j) := by
      refine ⟨hok.sh, hok.len.trans hI.len, ?_, by omega, ?_, ?_, ?_, ?_, ?_, ?_, hI.sp.trans (hok.sp (n + 1) (by omega) (by omega)), ?_⟩
      · refine ⟨hI.ech.inc, hI.ech.lt, fun i hi b hb => ?_, fun i hi => ?_⟩
        · by_cases e : i = a
          · subst e; exact hok.low b (by omega)
          · rw [hok.same i e (by omega)]; exact hI.ech.zero i hi b hb
        · by_cases e : i = a
          · subst e; rw [hla]; exact hok.piv
          · rw [hok.same i e (by omega)]; exact hI.ech.pos i hi
      · intro i hi;by_cases e : i = a
        · subst e; exact Int.le_refl _
        · have := hI.ech.inc i a (by omega) ha; omega
      · intro i hi hin;have := hI.ech.inc a i (by omega) hin; omega
      · intro i hi hin b;rw [hok.same i (by omega) (by omega)]; exact hI.un i (by omega) hin b
      · intro b hb;exact hok.gone b (by omega)
      · intro x b;by_cases e : x = a
        · subst e; exact hok.bk b
        · by_cases e' : x = n
          · subst e'; exact hok.bn b
          · rw [hok.same x e e']; exact pw_lt (hI.bd x b) (by omega)
      · obtain ⟨t, w, ht, hw, hv⟩ := hI.cb;obtain ⟨t', s', ht', hv'⟩ := hok.comb;refine ⟨t' * t, fun b => t' * w b + s' * E0 a b, fun e => ?_, (hw.smul t').add ((Sp.row E0 ha).smul s'), fun b => ?_⟩
        · rcases Int.mul_eq_zero.1 e with e | e
          · exact ht' e
          · exact ht e
        · show ent (meetT R a n j) n b = t' * t * v0 b + (t' * w b + s' * E0 a b);rw [hv', hv, hI.un a hsa ha, Int.mul_add, Int.mul_assoc]; omega
      · intro x hx b;rw [hok.same x (by omega) (by omega)]; exact hI.oth x hx b
     obtain ⟨b, R', h1, h2⟩ := hnext a hsa ha (meetT R a n j) (u + 2 * δ + 1) hPI hbud;refine ⟨b, R', .meet hFit (by rw [hj]; exact hjc) (by rw [hj]; exact hlast) a (by omega) ha (fun i h3 h4 => ?_) ?_ ?_ ?_ ?_ ?_, h2⟩
     · rw [hj, hlead i (by omega)]; exact hlo i h4
     · rw [hj, hlead a ha, hla]
     · rw [hj]; omega
     · rw [hj]; exact hFitA
     · rw [hj]; exact hpA
     · rw [hj]; rw [hla] at h1; exact h1
   · have hhi : ∀ i, a <= i -> i < n -> j < l i := fun i h1 h2 => by
      rcases hend with h3 | ⟨h3, h4⟩
      · omega
      · by_cases e : i = a
        · subst e;have : l i ≠ j := fun h => hm ⟨h3, h⟩;omega
        · have := hI.ech.inc a i (by omega) h2; omega
     obtain ⟨R1, hR1⟩ : ∃ R1, (if ent R n (leadOf R n) < 0 then turnT R n else R) = R1 := ⟨_, rfl⟩;have hR1e : ∀ x, x ≠ n -> ∀ b, ent R1 x b = ent R x b := fun x hx b => by
      rw [<- hR1]; split
      · rw [ent_turnT hnR, if_neg hx]
      · rfl
     have hR1n : (∀ b, (ent R1 n b).natAbs = (ent R n b).natAbs) /\ 0 < ent R1 n j /\ ((∀ b, ent R1 n b = ent R n b) ∨ (∀ b, ent R1 n b = - ent R n b)) := by
      rw [<- hR1]; split
      · rename_i h;rw [hj] at h;have h1 := fun b => (ent_turnT hnR n b).trans (if_pos rfl);exact ⟨fun b => by rw [h1, Int.natAbs_neg], by rw [h1]; omega, .inr h1⟩
      · rename_i h;rw [hj] at h;exact ⟨fun b => rfl, by omega, .inl (fun b => rfl)⟩
     have hR1s : Sh c R1 := by
      rw [<- hR1]; split
      · exact hI.sh.turnT_ n
      · exact hI.sh
     have hR1l : R1.length = R.length := by
      rw [<- hR1]; split
      · exact turnT_length ..
      · rfl
     have hR1b : ∀ x b, (ent R1 x b).natAbs < W ^ u := fun x b => by
      by_cases e : x = n
      · subst e; rw [hR1n.1]; exact hI.bd x b
      · rw [hR1e x e]; exact hI.bd x b
     have hsp1 : SpEq (n + 1) (ent R) (n + 1) (ent R1) := by
      rcases hR1n.2.2 with h | h
      · exact SpEq.of_eq (fun k hk b => by
         by_cases e : k = n
         · subst e; exact (h b).symm
         · exact (hR1e k e b).symm)
      · exact SpEq.neg (by omega) hR1e h
     have hsw := ent_swapsT (a := a) n R1 han (by omega);obtain ⟨R2, hR2⟩ : ∃ R2, swapsT a n R1 = R2 := ⟨_, rfl⟩;have hs2 : Sh c R2 := hR2 ▸ shSwapsT n R1 hR1s;have hl2 : R2.length = R.length := by rw [<- hR2, swapsT_length, hR1l]
     rw [hR2] at hsw;have hsw2 : ∀ i b, i <= n -> ent R2 i b = if i < a then ent R1 i b else if i = a then ent R1 n b else ent R1 (i - 1) b := fun i b hi => by
      rw [hsw];by_cases h1 : i < a
      · rw [if_pos h1, if_pos h1]
      · rw [if_neg h1, if_neg h1];by_cases h2 : i = a
        · rw [if_pos h2, if_pos h2]
        · rw [if_neg h2, if_neg h2, if_pos hi]
     have hb2 : ∀ x b, (ent R2 x b).natAbs < W ^ u := fun x b => by
      rw [hsw]; split
      · exact hR1b ..
      · split
        · exact hR1b ..
        · split <;> exact hR1b ..
     have hE1 : Ech n c (ent R1) l := hI.ech.congr (fun x hx b => hR1e x (by omega) b);have h10 : ∀ b, b < j -> ent R1 n b = 0 := fun b hb => by
      have h1 := hR1n.1 b;rw [hle.2.1 b hb] at h1; omega
     have hE2 := ech_insert hE1 han hlo hhi hjc h10 hR1n.2.1 hsw2;have hsp2 := SpEq.perm han hsw2;have hind : ∀ t : Int, Sp n E0 (fun b => t * v0 b) -> t = 0 := by
      intro t ht;obtain ⟨t', w, ht', hw, hv⟩ := hI.cb;by_cases h0 : t = 0
      · exact h0
      · exfalso;have hin : Sp n E0 (fun b => t * ent R n b) := ((ht.smul t').add (hw.smul t)).congr (fun b => by
         rw [hv, Int.mul_add, <- Int.mul_assoc, <- Int.mul_assoc, Int.mul_comm t' t])
        obtain ⟨k, hk, hlk, _⟩ := hH0.lead hin (q := j) (fun e => by
         rcases Int.mul_eq_zero.1 e with e | e
         · exact h0 e
         · exact hvj e) (fun b hb => by
           show t * ent R n b = 0;rw [hle.2.1 b hb, Int.mul_zero])
        by_cases hka : k < a
        · have := hlo k hka; omega
        · have := hhi k (by omega) hk; omega
     obtain ⟨R', h1, h2⟩ := settle_ok (B := B) (δ := δ) (n := n + 1) hs2 (by omega) hE2 hb2 (by omega) (fun E' hE' hsp => hS hind E' _ hE' (hI.sp.trans (hsp1.trans (hsp2.trans hsp))));refine ⟨true, R', .stop hFit (by rw [hj]; exact hjc) (by rw [hj]; exact hlast) a (by omega) han (fun i h3 h4 => ?_) ?_ ?_ ?_, h2.sh, h2.len.trans (hl2.trans hI.len), fun x hx b => ?_, fun h => (by cases h), fun _ => ⟨⟨_, h2.herm⟩, hI.sp.trans (hsp1.trans (hsp2.trans h2.sp)), hind⟩⟩
     · rw [hj, hlead i (by omega)]; exact hlo i h4
     · rcases Nat.lt_or_eq_of_le han with h | h
       · refine .inr ?_;rw [hj, hlead a h]; exact hhi a (Nat.le_refl _) h
       · exact .inl h
     · rw [hR1, hR2]; exact Fit.of hs2 (fun a b => pw_lt (hb2 a b) huB)
     · rw [hR1, hR2]; exact h1
     · rw [h2.same x (by omega), hsw, if_neg (by omega), if_neg (by omega), if_neg (by omega), hR1e x (by omega)];exact hI.oth x hx b
theorem putLoop {c n δ B U : Nat} {l : Nat -> Nat} {E0 : Nat -> Nat -> Int} {v0 : Nat -> Int} {Ro : List Hd} (hn : n < Ro.length) (hH0 : Ech n c E0 l) (hδ : ∀ a, a < n -> ∀ b, (E0 a b).natAbs < W ^ δ) (hUB : U + (n + 1) * δ <= B)
 (hZ : ∀ E' l', Herm n c E' l' -> SpEq (n + 1) (ent Ro) n E' -> ∀ i, i < n -> ∀ j, (E' i j).natAbs < W ^ δ)
 (hS : (∀ s : Int, Sp n E0 (fun j => s * v0 j) -> s = 0) -> ∀ E' l', Herm (n + 1) c E' l' -> SpEq (n + 1) (ent Ro) (n + 1) E' -> ∀ i, i < n + 1 -> ∀ j, (E' i j).natAbs < W ^ δ) :
 ∀ (f s u at_ : Nat) (last : Int) (R : List Hd), n - s <= f -> PI c n δ u s l last E0 v0 Ro R -> at_ <= s -> u + (n - s) * (2 * δ + 1) <= U -> ∃ b R', PutT B c n at_ last R b R' /\ PutOk c n E0 v0 Ro b R' := by
 intro f;induction f with
 | zero =>
  intro s u at_ last R hf hI hat hu;exact putLoop_end hn hH0 hδ hUB hZ hS s u at_ last R hI hat hu (fun a ha1 ha2 => by omega)
 | succ f ih =>
  intro s u at_ last R hf hI hat hu;refine putLoop_end hn hH0 hδ hUB hZ hS s u at_ last R hI hat hu (fun a ha1 ha2 R1 u1 hI1 hu1 => ?_);exact ih (a + 1) u1 a (l a) R1 (by omega) hI1 (by omega) hu1
/-! Reduce. -/
def hermW (N m : Nat) : Nat := 2 * (m + 1) * N + 1
theorem hermD_lt {n N m : Nat} (hn : n <= N) (hN : N <= 1048576) : hermD n (W ^ m) < W ^ hermW N m := by
 unfold hermD hermW;rcases Nat.eq_zero_or_pos n with h | h
 · subst h; simp; exact pw_pos _
 · have h1 : 2 * n * W ^ m + 1 <= W ^ (m + 1) := by
    rw [Nat.pow_succ, Nat.mul_comm (W ^ m)];have h2 : (2 * n + 1) * W ^ m <= W * W ^ m := Nat.mul_le_mul_right _ (by unfold W; omega);have h3 : (2 * n + 1) * W ^ m = 2 * n * W ^ m + W ^ m := by rw [Nat.add_mul, Nat.one_mul]
    have := pw_pos m;omega
   have h2 : (2 * n * W ^ m + 1) ^ (n - 1) <= W ^ ((m + 1) * (n - 1)) := by
    rw [Nat.pow_mul]; exact Nat.pow_le_pow_left h1 _
   have h3 : n * ((2 * n * W ^ m + 1) ^ (n - 1) * W ^ m) <= W ^ ((m + 1) * n) := by
    have h4 : (2 * n * W ^ m + 1) ^ (n - 1) * W ^ m <= W ^ ((m + 1) * (n - 1)) * W ^ m := Nat.mul_le_mul_right _ h2;have h5 : n * ((2 * n * W ^ m + 1) ^ (n - 1) * W ^ m) <= W * (W ^ ((m + 1) * (n - 1)) * W ^ m) := Nat.mul_le_mul (by unfold W; omega) h4;refine Nat.le_trans h5 ?_;have e : W * (W ^ ((m + 1) * (n - 1)) * W ^ m) = W ^ ((m + 1) * (n - 1) + m + 1) := by
     rw [<- Nat.pow_add, Nat.mul_comm W, <- Nat.pow_succ]
    rw [e];have e2 : (m + 1) * (n - 1) + m + 1 = (m + 1) * n := by
     have : n = n - 1 + 1 := by omega
     rw [Nat.add_assoc]
     conv => rhs; rw [this, Nat.mul_add, Nat.mul_one]
    rw [e2]; exact Nat.le_refl _
   obtain ⟨D, hD⟩ : ∃ D, n * ((2 * n * W ^ m + 1) ^ (n - 1) * W ^ m) = D := ⟨_, rfl⟩;rw [hD] at h3 ⊢;have h6 : D * D <= W ^ (2 * (m + 1) * n) := by
    have := Nat.mul_le_mul h3 h3;rw [<- Nat.pow_add] at this;have e : (m + 1) * n + (m + 1) * n = 2 * (m + 1) * n := by rw [Nat.mul_assoc]; omega
    rwa [e] at this
   have h7 : n * D * D < W * W ^ (2 * (m + 1) * n) := by
    rw [Nat.mul_assoc];refine Nat.lt_of_le_of_lt (Nat.mul_le_mul_left n h6) ?_;exact Nat.mul_lt_mul_of_pos_right (by unfold W; omega) (pw_pos _)
   refine Nat.lt_of_lt_of_le h7 ?_;rw [Nat.mul_comm W, <- Nat.pow_succ];refine pw_le ?_;have : 2 * (m + 1) * n <= 2 * (m + 1) * N := Nat.mul_le_mul_left _ hn;omega
def ladW (N m : Nat) : Nat := hermW N m + N * (2 * hermW N m + 1) + (N + 1) * hermW N m
theorem Indep.snoc {n : Nat} {a E0 : Nat -> Nat -> Int} {v : Nat -> Int} (h : Indep n a) (ha : ∀ k, k < n -> Sp n E0 (a k)) (hv : ∀ s : Int, Sp n E0 (fun j => s * v j) -> s = 0) : Indep (n + 1) (fun k => if k < n then a k else v) := by
 intro x hx k hk;have e : ∀ j, sm n (fun k => x k * a k j) + x n * v j = 0 := fun j => by
  have := hx j;unfold sm at this;rw [sm_congr (g := fun k => x k * a k j) (fun k hk => by simp [hk])] at this;simpa using this
 have h0 : x n = 0 := by
  refine hv _ (((Sp.sm (x := fun k => - x k) ha)).congr (fun j => ?_));have h1 := e j;have h2 : sm n (fun k => - x k * a k j) = - sm n (fun k => x k * a k j) := by
   have := sm_mul n (-1) (fun k => x k * a k j);rw [Int.neg_one_mul] at this;rw [<- this]; exact sm_congr (fun k _ => by rw [Int.neg_mul, Int.neg_one_mul])
  rw [h2]; omega
 by_cases hkn : k = n
 · subst hkn; exact h0
 · refine h x (fun j => ?_) k (by omega);have := e j;rw [h0] at this; simpa using this
theorem ent_rotT : ∀ (k i : Nat) (R : List Hd), i + k < R.length -> ∀ a b, ent (rotT k i R) a b = if a < i then ent R a b else if a < i + k then ent R (a + 1) b else if a = i + k then ent R i b else ent R a b
 | 0, i, R, h, a, b => by
  unfold rotT;by_cases h1 : a < i
  · rw [if_pos h1]
  · rw [if_neg h1, if_neg (by omega)];by_cases h2 : a = i + 0
    · rw [if_pos h2]; subst h2; rfl
    · rw [if_neg h2]
 | k + 1, i, R, h, a, b => by
  unfold rotT;rw [ent_rotT k (i + 1) _ (by rw [swapT_length]; omega)];have hsw := fun x => ent_swapT (R := R) (i := i) (j := i + 1) (by omega) (by omega) x b;rw [hsw, hsw, hsw];by_cases h1 : a < i
  · rw [if_pos (by omega), if_pos h1];unfold swp; rw [if_neg (by omega), if_neg (by omega)]
  · rw [if_neg h1];by_cases h2 : a = i
    · rw [if_pos (by omega), if_pos (by omega)];unfold swp; rw [if_neg (by omega), if_pos h2, h2]
    · rw [if_neg (by omega)];by_cases h3 : a < i + (k + 1)
      · rw [if_pos (by omega), if_pos h3];unfold swp; rw [if_neg (by omega), if_neg (by omega)]
      · rw [if_neg (by omega), if_neg h3];by_cases h4 : a = i + (k + 1)
        · rw [if_pos (by omega), if_pos h4];unfold swp; rw [if_pos rfl]
        · rw [if_neg (by omega), if_neg h4];unfold swp; rw [if_neg (by omega), if_neg (by omega)]
theorem shRotT {c : Nat} : ∀ (k i : Nat) (R : List Hd), Sh c R -> Sh c (rotT k i R)
 | 0, i, R, h => h
 | k + 1, i, R, h => shRotT k (i + 1) _ (h.swapT_ _ _)
theorem rotT_length : ∀ (k i : Nat) (R : List Hd), (rotT k i R).length = R.length
 | 0, i, R => rfl
 | k + 1, i, R => (rotT_length k (i + 1) _).trans (swapT_length ..)
theorem Herm.congr {n c : Nat} {E F : Nat -> Nat -> Int} {l : Nat -> Nat} (h : Herm n c E l) (e : ∀ a, a < n -> ∀ b, F a b = E a b) : Herm n c F l :=
 ⟨h.toEch.congr e, fun i k hik hk => by rw [e i (by omega), e k hk]; exact h.red i k hik hk⟩
structure RI (c m : Nat) (Ro : List Hd) (d e : Nat) (R : List Hd) : Prop where
 sh : Sh c R
 len : R.length = Ro.length
 de : d <= e
 el : e <= Ro.length
 herm : ∃ l, Herm d c (ent R) l
 raw : ∀ i, d <= i -> i < e -> ∀ b, (ent R i b).natAbs < W ^ m
 zero : ∀ i, e <= i -> ∀ b, ent R i b = 0
 sp : SpEq Ro.length (ent Ro) e (ent R)
 ind : ∃ a : Nat -> Nat -> Int, (∀ k, k < d -> Sp d (ent R) (a k)) /\ Indep d a /\ ∀ k b, k < d -> (a k b).natAbs <= W ^ m
structure RedOk (c D : Nat) (Ro : List Hd) (k : Nat) (R' : List Hd) : Prop where
 sh : Sh c R'
 len : R'.length = Ro.length
 kl : k <= Ro.length
 herm : ∃ l, Herm k c (ent R') l
 zero : ∀ i, k <= i -> ∀ b, ent R' i b = 0
 sp : SpEq Ro.length (ent Ro) k (ent R')
 bd : ∀ i b, (ent R' i b).natAbs < W ^ D
theorem RI.done {c m N d : Nat} {Ro R : List Hd} (hI : RI c m Ro d d R) (hN : Ro.length <= N) (hN1 : N <= 1048576) : RedOk c (hermW N m) Ro d R := by
 refine ⟨hI.sh, hI.len, hI.el, hI.herm, hI.zero, hI.sp, fun i b => ?_⟩;obtain ⟨l, hH⟩ := hI.herm;obtain ⟨a, ha1, ha2, ha3⟩ := hI.ind;by_cases h : i < d
 · exact Nat.lt_of_le_of_lt (hH.bound ha1 ha2 (fun k j hk => ha3 k j hk) i b h) (hermD_lt (by have := hI.el; omega) hN1)
 · rw [hI.zero i (by omega)]; simpa using pw_pos _
theorem red_ok {c m N B : Nat} {Ro : List Hd} (hN : Ro.length <= N) (hN1 : N <= 1048576) (hB : ladW N m <= B) : ∀ (f d e : Nat) (R : List Hd), e - d <= f -> RI c m Ro d e R -> ∃ k R', RedT B c d e R k R' /\ RedOk c (hermW N m) Ro k R'
 | 0, d, e, R, hf, hI => by
  have : d = e := by have := hI.de; omega
  subst this;exact ⟨d, R, .fin (Nat.le_refl _), hI.done hN hN1⟩
 | f + 1, d, e, R, hf, hI => by
  by_cases hde : d < e
  · obtain ⟨δ, hδ⟩ : ∃ δ, hermW N m = δ := ⟨_, rfl⟩;unfold ladW at hB;rw [hδ] at hB;obtain ⟨l, hH⟩ := hI.herm;obtain ⟨a, ha1, ha2, ha3⟩ := hI.ind;have hdl : d < Ro.length := by have := hI.el; omega
    have hmδ : m <= δ := by
     have h1 : (m + 1) * 1 <= (m + 1) * (2 * N) := Nat.mul_le_mul_left _ (by omega);rw [<- hδ]; unfold hermW;have h2 : 2 * (m + 1) * N = (m + 1) * (2 * N) := by rw [Nat.mul_comm 2, Nat.mul_assoc]
     omega
    have hbnd : ∀ i, i < d -> ∀ b, (ent R i b).natAbs < W ^ δ := fun i hi b => by
     have := hH.bound ha1 ha2 (fun k j hk => ha3 k j hk) i b hi;exact Nat.lt_of_le_of_lt this (hδ ▸ hermD_lt (by omega) hN1)
    have hall : ∀ x b, (ent R x b).natAbs < W ^ δ := fun x b => by
     by_cases h1 : x < d
     · exact hbnd x h1 b
     · by_cases h2 : x < e
       · exact pw_lt (hI.raw x (by omega) h2 b) hmδ
       · rw [hI.zero x (by omega)]; simpa using pw_pos δ
    have hsub : ∀ {M : Nat} {E' : Nat -> Nat -> Int}, SpEq (d + 1) (ent R) M E' -> ∀ k, k < d -> Sp M E' (a k) := fun hsp k hk =>
     (ha1 k hk).trans (fun i hi => hsp.1 i (by omega))
    have hZ : ∀ E' l', Herm d c E' l' -> SpEq (d + 1) (ent R) d E' -> ∀ i, i < d -> ∀ j, (E' i j).natAbs < W ^ δ := fun E' l' hE' hsp i hi j =>
     Nat.lt_of_le_of_lt (hE'.bound (hsub hsp) ha2 (fun k j hk => ha3 k j hk) i j hi) (hδ ▸ hermD_lt (by omega) hN1)
    have hS : (∀ s : Int, Sp d (ent R) (fun j => s * ent R d j) -> s = 0) -> ∀ E' l', Herm (d + 1) c E' l' -> SpEq (d + 1) (ent R) (d + 1) E' -> ∀ i, i < d + 1 -> ∀ j, (E' i j).natAbs < W ^ δ := fun hv E' l' hE' hsp i hi j => by
     have hb := hE'.bound (a := fun k => if k < d then a k else ent R d) (M := W ^ m) (fun k hk => by
      by_cases h : k < d
      · simp only [if_pos h]; exact hsub hsp k h
      · simp only [if_neg h]; exact hsp.1 d (by omega)) (ha2.snoc ha1 hv) (fun k j hk => by
      by_cases h : k < d
      · simp only [if_pos h]; exact ha3 k j h
      · simp only [if_neg h]; exact Nat.le_of_lt (hI.raw d (Nat.le_refl _) hde j)) i j hi
     exact Nat.lt_of_le_of_lt hb (hδ ▸ hermD_lt (by omega) hN1)
    have hmulN : (d - 0) * (2 * δ + 1) <= N * (2 * δ + 1) := Nat.mul_le_mul_right _ (by omega);have hmulN2 : (d + 1) * δ <= (N + 1) * δ := Nat.mul_le_mul_right _ (by omega);obtain ⟨b, R1, hput, hok⟩ := putLoop (δ := δ) (B := B) (U := δ + N * (2 * δ + 1)) (v0 := ent R d) (by rw [hI.len]; exact hdl : d < R.length) hH.toEch hbnd (by omega) hZ hS d 0 δ 0 (-1) R (by omega)
     ⟨hI.sh, rfl, hH.toEch, Nat.zero_le _, fun i hi => by omega, fun i _ _ => by omega, fun i _ _ _ => rfl, fun b hb => by omega, hall, ⟨1, fun _ => 0, by omega, Sp.zero _ _, fun b => by simp⟩, SpEq.refl _ _, fun _ _ _ => rfl⟩ (Nat.le_refl _) (by omega)
    cases b
    · obtain ⟨⟨l', hH'⟩, hz, hsp⟩ := hok.no rfl;have hl1 : R1.length = R.length := hok.len;have hrot := ent_rotT (e - 1 - d) d R1 (by rw [hl1, hI.len]; have := hI.el; omega);have e1 : d + (e - 1 - d) = e - 1 := by omega
      rw [e1] at hrot;obtain ⟨R2, hR2⟩ : ∃ R2, rotT (e - 1 - d) d R1 = R2 := ⟨_, rfl⟩;have hlo : ∀ i, i < d -> ∀ b, ent R2 i b = ent R1 i b := fun i hi b => by rw [<- hR2, hrot, if_pos hi]
      have hmid : ∀ i, d <= i -> i < e - 1 -> ∀ b, ent R2 i b = ent R (i + 1) b := fun i h1 h2 b => by
       rw [<- hR2, hrot, if_neg (by omega), if_pos h2, hok.oth (i + 1) (by omega)]
      have hsp2 : SpEq Ro.length (ent Ro) (e - 1) (ent R2) := by
       refine hI.sp.trans ⟨fun k hk => ?_, fun k hk => ?_⟩
       · by_cases h1 : k <= d
         · refine (hsp.1 k (by omega)).trans (fun i hi => ?_);exact (Sp.row (ent R2) (by omega : i < e - 1)).congr (fun b => (hlo i hi b).symm)
         · refine (Sp.row (ent R2) (by omega : k - 1 < e - 1)).congr (fun b => ?_);rw [hmid (k - 1) (by omega) (by omega)]; congr 1; omega
       · by_cases h1 : k < d
         · refine ((hsp.2 k h1).congr (hlo k h1)).trans (fun i hi => Sp.row _ (by omega))
         · exact (Sp.row (ent R) (by omega : k + 1 < e)).congr (hmid k (by omega) hk)
      have hRI : RI c m Ro d (e - 1) R2 := by
       refine ⟨hR2 ▸ shRotT _ _ _ hok.sh, by rw [<- hR2, rotT_length, hl1, hI.len], by omega, by have := hI.el; omega, ⟨l', hH'.congr hlo⟩, fun i h3 h4 b => ?_, fun i h3 b => ?_, hsp2, ⟨a, fun k hk => ?_, ha2, ha3⟩⟩
       · rw [hmid i h3 h4]; exact hI.raw (i + 1) (by omega) (by omega) b
       · rw [<- hR2, hrot, if_neg (by omega), if_neg (by omega)];by_cases h4 : i = e - 1
         · rw [if_pos h4]; exact hz b
         · rw [if_neg h4, hok.oth i (by omega)]; exact hI.zero i (by omega) b
       · refine (hsub hsp k hk).trans (fun i hi => ?_);exact (Sp.row (ent R2) hi).congr (fun b => (hlo i hi b).symm)
      obtain ⟨k, R', h1, h2⟩ := red_ok hN hN1 (by unfold ladW; rw [hδ]; exact hB) f d (e - 1) R2 (by omega) hRI;exact ⟨k, R', .zero hde hput (by rw [hR2]; exact h1), h2⟩
    · obtain ⟨⟨l', hH'⟩, hsp, hv⟩ := hok.yes rfl;have hl1 : R1.length = R.length := hok.len;have hsp2 : SpEq Ro.length (ent Ro) e (ent R1) := by
       refine hI.sp.trans ⟨fun k hk => ?_, fun k hk => ?_⟩
       · by_cases h1 : k < d + 1
         · exact (hsp.1 k h1).trans (fun i hi => Sp.row _ (by omega))
         · exact (Sp.row (ent R1) hk).congr (fun b => (hok.oth k (by omega) b).symm)
       · by_cases h1 : k < d + 1
         · exact (hsp.2 k h1).trans (fun i hi => Sp.row _ (by omega))
         · exact (Sp.row (ent R) hk).congr (fun b => hok.oth k (by omega) b)
      have hRI : RI c m Ro (d + 1) e R1 := by
       refine ⟨hok.sh, hl1.trans hI.len, by omega, hI.el, ⟨l', hH'⟩, fun i h3 h4 b => ?_, fun i h3 b => ?_, hsp2, ⟨fun k => if k < d then a k else ent R d, fun k hk => ?_, ha2.snoc ha1 hv, fun k b hk => ?_⟩⟩
       · rw [hok.oth i (by omega)]; exact hI.raw i (by omega) h4 b
       · rw [hok.oth i (by omega)]; exact hI.zero i h3 b
       · by_cases h : k < d
         · simp only [if_pos h]; exact hsub hsp k h
         · simp only [if_neg h]; exact hsp.1 d (by omega)
       · by_cases h : k < d
         · simp only [if_pos h]; exact ha3 k b h
         · simp only [if_neg h]; exact Nat.le_of_lt (hI.raw d (Nat.le_refl _) hde b)
      obtain ⟨k, R', h1, h2⟩ := red_ok hN hN1 (by unfold ladW; rw [hδ]; exact hB) f (d + 1) e R1 (by omega) hRI;exact ⟨k, R', .ok hde hput h1, h2⟩
  · have : d = e := by have := hI.de; omega
    subst this;exact ⟨d, R, .fin (Nat.le_refl _), hI.done hN hN1⟩
theorem reduce_ok {c m N B : Nat} {Ro : List Hd} (hs : Sh c Ro) (hm : ∀ i b, (ent Ro i b).natAbs < W ^ m) (hN : Ro.length <= N) (hN1 : N <= 1048576) (hB : ladW N m <= B) : ∃ k R', RedT B c 0 Ro.length Ro k R' /\ RedOk c (hermW N m) Ro k R' :=
 red_ok hN hN1 hB Ro.length 0 Ro.length Ro (by omega)
  ⟨hs, rfl, Nat.zero_le _, Nat.le_refl _, ⟨fun _ => 0, ⟨fun i k _ h => by omega, fun i h => by omega, fun i h => by omega, fun i h => by omega⟩, fun i k _ h => by omega⟩, fun i _ _ b => hm i b, fun i hi b => ent_out hi b, SpEq.refl _ _, ⟨fun _ _ => 0, fun k h => by omega, fun x _ k h => by omega, fun k b h => by omega⟩⟩
def matE (xs : List Int) (r c i j : Nat) : Int := if i < r /\ j < c then xs.getD (i * c + j) 0 else 0
theorem idx_lt {r c i j : Nat} (hi : i < r) (hj : j < c) : i * c + j < r * c := by
 have h1 : (i + 1) * c <= r * c := Nat.mul_le_mul_right _ hi;have h2 : (i + 1) * c = i * c + c := Nat.succ_mul i c;omega
theorem idx_of {r c n : Nat} (h : n < r * c) : ∃ i j, i < r /\ j < c /\ n = i * c + j := by
 have hc : 0 < c := by
  rcases Nat.eq_zero_or_pos c with h0 | h0
  · subst h0; simp at h
  · exact h0
 exact ⟨n / c, n % c, (Nat.div_lt_iff_lt_mul hc).2 h, Nat.mod_lt _ hc, by have := Nat.div_add_mod n c; rw [Nat.mul_comm] at this; omega⟩
theorem matE_eq {xs : List Int} {r c i j : Nat} (hi : i < r) (hj : j < c) : matE xs r c i j = xs.getD (i * c + j) 0 := by
 unfold matE; rw [if_pos ⟨hi, hj⟩]
theorem matE_row {xs : List Int} {r c i : Nat} (hi : r <= i) (j : Nat) : matE xs r c i j = 0 := by
 unfold matE; rw [if_neg (by omega)]
theorem matE_col {xs : List Int} {r c j : Nat} (i : Nat) (hj : c <= j) : matE xs r c i j = 0 := by
 unfold matE; rw [if_neg (by omega)]
theorem matE_ext {xs ys : List Int} {r c : Nat} (hx : xs.length = r * c) (hy : ys.length = r * c) (h : ∀ i j, i < r -> j < c -> matE xs r c i j = matE ys r c i j) : xs = ys := by
 refine List.ext_getElem (by omega) fun n h1 h2 => ?_;obtain ⟨i, j, hi, hj, e⟩ := idx_of (by omega : n < r * c);have := h i j hi hj;rw [matE_eq hi hj, matE_eq hi hj, <- e, gd_lt _ _ h1, gd_lt _ _ h2] at this;exact this
theorem matE_bound {xs : List Int} {r c B : Nat} (hB : 0 < B) (h : ∀ x ∈ xs, x.natAbs < B) (i j : Nat) : (matE xs r c i j).natAbs < B := by
 unfold matE;split
 · by_cases hl : i * c + j < xs.length
   · rw [gd_lt _ _ hl]; exact h _ (List.getElem_mem _)
   · rw [gd_ge _ _ (by omega)]; simpa using hB
 · simpa using hB
theorem bound_matE {xs : List Int} {r c B : Nat} (hx : xs.length = r * c) (h : ∀ i j, i < r -> j < c -> (matE xs r c i j).natAbs < B) : ∀ x ∈ xs, x.natAbs < B := by
 intro x hm;obtain ⟨n, hn, rfl⟩ := List.getElem_of_mem hm;obtain ⟨i, j, hi, hj, e⟩ := idx_of (by omega : n < r * c);have := h i j hi hj;rw [matE_eq hi hj, <- e, gd_lt _ _ hn] at this;exact this
theorem getD_rowOf (xs : List Int) (c k j : Nat) (hj : j < c) : (rowOf xs c k).getD j 0 = xs.getD (k * c + j) 0 := by
 unfold rowOf;simp [hj]
theorem getD_flatten : ∀ (xss : List (List Int)) (c : Nat), (∀ x ∈ xss, x.length = c) -> ∀ i j, (hi : i < xss.length) -> j < c -> xss.flatten.getD (i * c + j) 0 = (xss[i]).getD j 0
 | [], c, h, i, j, hi, hj => by simp at hi
 | x :: xss, c, h, 0, j, hi, hj => by
  have hx := h x (List.mem_cons_self ..);rw [List.flatten_cons, Nat.zero_mul, Nat.zero_add, List.getElem_cons_zero];rw [gd_lt _ _ (by rw [List.length_append]; omega), gd_lt _ _ (by omega), List.getElem_append_left]
 | x :: xss, c, h, i + 1, j, hi, hj => by
  have hx := h x (List.mem_cons_self ..);rw [List.flatten_cons, List.getElem_cons_succ, <- getD_flatten xss c (fun y hy => h y (List.mem_cons_of_mem _ hy)) i j (by simpa using hi) hj];have e : (i + 1) * c + j = x.length + (i * c + j) := by rw [Nat.succ_mul, hx]; omega
  rw [e, List.getD_eq_getElem?_getD, List.getElem?_append_right (by omega), List.getD_eq_getElem?_getD];congr 2; omega
structure IsHnf (r c : Nat) (xs hs : List Int) (k : Nat) (l : Nat -> Nat) : Prop where
 len : hs.length = r * c
 kr : k <= r
 herm : Herm k c (matE hs r c) l
 zero : ∀ i, k <= i -> ∀ b, matE hs r c i b = 0
 sp : SpEq r (matE xs r c) k (matE hs r c)
theorem IsHnf.unique {r c : Nat} {xs hs hs' : List Int} {k k' : Nat} {l l' : Nat -> Nat} (h : IsHnf r c xs hs k l) (h' : IsHnf r c xs hs' k' l') : hs = hs' /\ k = k' /\ ∀ i, i < k -> l i = l' i := by
 obtain ⟨h1, h2, h3⟩ := h.herm.unique h'.herm (h.sp.symm.trans h'.sp);refine ⟨matE_ext h.len h'.len fun i j hi hj => ?_, h1, h2⟩;by_cases hk : i < k
 · exact h3 i hk j
 · rw [h.zero i (by omega), h'.zero i (by omega)]
theorem ent_rows {R : List Hd} {xs : List Int} {r c : Nat} (hl : R.length = r) (hx : xs.length = r * c) (h : ∀ k (hk : k < R.length), R[k].xs = rowOf xs c k) : Sh c R /\ ∀ i j, ent R i j = matE xs r c i j := by
 have hlen : ∀ k, k < r -> (rowOf xs c k).length = c := fun k hk => by
  have := idx_lt (c := c + 1) hk (Nat.lt_succ_self c);unfold rowOf;have h1 : (k + 1) * c <= r * c := Nat.mul_le_mul_right _ hk;have h2 : (k + 1) * c = k * c + c := Nat.succ_mul k c;simp [hx]; omega
 have hsh : Sh c R := fun q hq => by
  obtain ⟨k, hk, rfl⟩ := List.getElem_of_mem hq;rw [h k hk]; exact hlen k (by omega)
 refine ⟨hsh, fun i j => ?_⟩;by_cases hi : i < r
 · by_cases hj : j < c
   · rw [ent_get (by omega), h i (by omega), getD_rowOf _ _ _ _ hj, matE_eq hi hj]
   · rw [hsh.wide i (by omega), matE_col _ (by omega)]
 · rw [ent_out (by omega), matE_row (by omega)]
theorem matE_rows {R : List Hd} {r c : Nat} (hl : R.length = r) (hs : Sh c R) : (R.map Hd.xs).flatten.length = r * c /\ ∀ i j, matE (R.map Hd.xs).flatten r c i j = ent R i j := by
 have hc : ∀ x ∈ R.map Hd.xs, x.length = c := fun x hx => by
  obtain ⟨q, hq, rfl⟩ := List.mem_map.1 hx; exact hs q hq
 refine ⟨?_, fun i j => ?_⟩
 · have : ∀ (xss : List (List Int)), (∀ x ∈ xss, x.length = c) -> xss.flatten.length = xss.length * c := by
    intro xss;induction xss with
    | nil => intro _; simp
    | cons x xs ih =>
     intro h;rw [List.flatten_cons, List.length_append, ih (fun y hy => h y (List.mem_cons_of_mem _ hy)), h x (List.mem_cons_self ..), List.length_cons, Nat.succ_mul]; omega
   rw [this _ hc, List.length_map, hl]
 · by_cases hi : i < r
   · by_cases hj : j < c
     · rw [matE_eq hi hj, getD_flatten _ c hc i j (by simp; omega) hj, List.getElem_map, ent_get (by omega)]
     · rw [hs.wide i (by omega), matE_col _ (by omega)]
   · rw [ent_out (by omega), matE_row (by omega)]
theorem SpEq.left {n m : Nat} {E E' F : Nat -> Nat -> Int} (h : SpEq n E m F) (e : ∀ i j, E' i j = E i j) : SpEq n E' m F :=
 (SpEq.of_eq (fun k _ j => e k j)).trans h
theorem SpEq.right {n m : Nat} {E F F' : Nat -> Nat -> Int} (h : SpEq n E m F) (e : ∀ i j, F' i j = F i j) : SpEq n E m F' :=
 h.trans (SpEq.of_eq (fun k _ j => (e k j).symm))
theorem hnf_of {R R' : List Hd} {xs : List Int} {r c D k : Nat} (hl : R.length = r) (he : ∀ i j, ent R i j = matE xs r c i j) (h : RedOk c D R k R') : ∃ l, IsHnf r c xs (R'.map Hd.xs).flatten k l /\ ∀ x ∈ (R'.map Hd.xs).flatten, x.natAbs < W ^ D := by
 obtain ⟨l, hH⟩ := h.herm;have hm := matE_rows (h.len.trans hl) h.sh;refine ⟨l, ⟨hm.1, hl ▸ h.kl, hH.congr (fun a _ b => hm.2 a b), fun i hi b => (hm.2 i b).trans (h.zero i hi b), ?_⟩, bound_matE hm.1 (fun i j _ _ => by rw [hm.2]; exact h.bd i j)⟩;have := h.sp;rw [hl] at this;exact (this.left (fun i j => (he i j).symm)).right hm.2
end Go.Proofs.YtcpjoiffkniccaaGreat
namespace Go.Proofs.YtcpjoiffkniccaaGreat
open Go.RowKit
attribute [local go_sem] Oper.semAt_some
theorem cell_putObj {w : World} {l : Nat} {o o' : Obj} (hl : w.heap[l]? = some o) (hn : o.isCells = false) {p : Addr} {v : Value} (h : w.cell? p = some v) : (w.putObj l o').cell? p = some v := by
 by_cases e : p.block = l
 · exfalso;unfold World.cell? at h;rw [e, hl] at h;cases o <;> simp_all [Obj.isCells]
 · exact (World.cell?_of_block (World.putObj_heap_other e)).trans h
theorem row_putObj {w : World} {l : Nat} {o o' : Obj} (hl : w.heap[l]? = some o) (hn : o.isCells = false) {b : Nat} {t : TypeId} {cs : List Value} (h : RowAt w b t cs) : RowAt (w.putObj l o') b t cs := by
 by_cases e : b = l
 · exfalso;unfold RowAt at h;rw [e, hl] at h;injection h with h
   subst h;simp [Obj.isCells] at hn
 · unfold RowAt at *;rw [World.putObj_heap_other e]; exact h
theorem size_putObj (w : World) (l : Nat) (o : Obj) : (w.putObj l o).heap.size = w.heap.size := by simp
theorem wat_putObj {w : World} {l : Nat} {o o' : Obj} (hl : w.heap[l]? = some o) (hn : o.isCells = false) {ao : Option Addr} {ws : List Nat} (h : WAt w ao ws) : WAt (w.putObj l o') ao ws := by
 refine ⟨h.1, fun hp => ?_⟩;obtain ⟨b, q, e, hb, hc⟩ := h.2 hp;exact ⟨b, q, e, by rw [size_putObj]; exact hb, fun i hi => cell_putObj hl hn (hc i hi)⟩
theorem int_putObj {w : World} {l : Nat} {o o' : Obj} (hl : w.heap[l]? = some o) (hn : o.isCells = false) {L : Nat} {v : Value} {x : Int} (h : IntAt w L v x) : IntAt (w.putObj l o') L v x := by
 obtain ⟨n, ao, len, cap, ws, e, hW, r⟩ := h;exact ⟨n, ao, len, cap, ws, e, wat_putObj hl hn hW, r⟩
theorem rowN_putObj {w : World} {l : Nat} {o o' : Obj} (hl : w.heap[l]? = some o) (hn : o.isCells = false) {b : Nat} {xs : List Int} (h : RowN w b xs) : RowN (w.putObj l o') b xs := by
 obtain ⟨ps, tl, nt, hr, hl', hN⟩ := h;exact ⟨ps, tl, nt, row_putObj hl hn hr, hl', fun i h1 h2 => ⟨int_putObj hl hn (hN i h1 h2).1, (hN i h1 h2).2⟩⟩
theorem info_row : (Tryz.prog.info? 22).map (fun i => (i.zero, i.size, i.bytes)) = some (some (.slice none 0 0), 1, 24) := by kernel_rfl
def hdrsTo (r : Nat) (zs : List NR) : List Value := zs.map (fun z => z.2.hdr) ++ List.replicate (r - zs.length) (.slice none 0 0)
structure LinesI (w : World) (B g o r : Nat) (zs : List NR) (W : World) : Prop where
 box : RowAt W g 60 [.slice (some ⟨o, 0, none⟩) zs.length r]
 row : RowAt W o 22 (hdrsTo r zs)
 nums : ∀ z ∈ zs, RowN W z.2.blk z.2.xs /\ B <= z.2.blk
 nd : (zs.map (fun z => z.2.blk)).Nodup
 chg : Chg (fun k => k = g ∨ k = o) w W
theorem wpListIn_app {F : Fence} {n : Nat} {P : Program} {w : World} {ops : Array Oper} {rest : List Oper} {o : Oper} {a : Act} {Q : Exit -> Act -> World -> Prop}
 (hg : o.guard = none) (s x : Operand) (t : TypeId) (hop : o.op = Op.call { callee := Callee.builtin Builtin.append, args := #[s, x], argTypes := #[t, t] })
 (e : TypeId) (z : Value) (size bytes : Nat) (h1 : P.underlying t = some (.slice e)) (h2 : (P.info? e).map (fun i => (i.zero, i.size, i.bytes)) = some (some z, size, bytes))
 (b off sLen sCap : Nat) (ad : Addr) (m c : Nat) (news : List Value) (hs : a.eval s = .slice (some ⟨b, off, none⟩) sLen sCap) (hx : a.eval x = .slice (some ad) m c)
 (hl : news.length = m * size) (hnews : ∀ j u, news[j]? = some u -> w.cell? (ad.add j) = some u) (h1c : ∀ u ∈ news, u.oneCell' = true) (hroom : sLen + m <= sCap)
 (hc : ∀ j, j < news.length -> (w.cell? ⟨b, off + sLen * size + j, none⟩).isSome = true) (hf : ∀ j, j < news.length -> w.frozen? ⟨b, off + sLen * size + j, none⟩ = false)
 (hK : wpListIn F n P ops Q rest (a.put o.dst (.slice (some ⟨b, off, none⟩) (sLen + m) sCap)) (w.setCells b (off + sLen * size) news)) :
 wpListIn F n P ops Q (o :: rest) a w := by
 refine wpListIn_plain hg fun K hK' => ?_;obtain ⟨i, hi, hz, hsz, hb⟩ := info_parts h2;subst hsz;have hrun := run_append_room_cells (P := P) (w := w) t o.type e i h1 hi b off sLen sCap ad m c news hl hnews h1c hroom hc hf;unfold Oper.wpIn;refine ⟨?_, ?_⟩
 · simp [Oper.about, hop, resolve, Target.leads, Sem.run_pure]
 · rw [Oper.semAt_plain F _ _ (by rw [hop]; intro c hc'; cases hc')];simp [execOp, hop, resolve, invoke, builtin, hs, hx, hrun, Result.andThen];exact hK' _ _ hK
theorem made_hdrs (n : Nat) : (madeCells (Value.slice none 0 0).cells (n * 1)).toList = List.replicate n (.slice none 0 0) := by
 rw [madeCells_one _ rfl]
theorem mk_rows {w : World} {ops : Array Oper} {rest : List Oper} {o : Oper} {a : Act} {Q : Exit -> Act -> World -> Prop}
 (hg : o.guard = none) (l c : Operand) (hop : o.op = Op.makeSlice 60 l c)
 {kl kc : IntKind} {L C : Int} (n m : Nat) (hl : a.eval l = .int kl L) (hc : a.eval c = .int kc C) (hL : L = (n : Int)) (hC : C = (m : Int)) (hnm : n <= m) (b2 : m <= 1000000)
 (hK : ∀ b w', Made w w' b 22 (List.replicate m (.slice none 0 0)) -> wpList Tryz.prog ops Q rest (a.put o.dst (.slice (some ⟨b, 0, none⟩) n m)) w') :
 wpList Tryz.prog ops Q (o :: rest) a w :=
 wpList_make_row hg l c 60 hop 22 (.slice none 0 0) 1 24 Tryz.underlying60 info_row n m hl hc hL hC hnm (by omega) (by unfold maxLen; omega)
  (fun b w' h => hK b w' (by rw [made_hdrs] at h; exact h))
set_option maxRecDepth 100000 in
set_option maxHeartbeats 4000000 in
theorem lines_e (r c : Nat) (ao : Option Addr) (len cap : Nat) (xs : List Int) (w : World) (hr : r <= 64) (hc : c <= 64) (h : LsAt w 17592186044415 ao xs) (hL : ∀ x ∈ xs, wlen x.natAbs <= 17592186044415) (hl : len = xs.length) (hs : xs.length = r * c) :
 CallsIn Fence.wide 6 Tryz.prog 47 #[.agg #[.int .i64 (r : Int), .int .i64 (c : Int), .slice ao len cap]] w fun e w' => (∃ o R, e = .returned (.slice (some ⟨o, 0, none⟩) R.length r) /\ MatN w' o R /\ R.length = r /\ (∀ k (h : k < R.length), R[k].xs = rowOf xs c k) /\ w.heap.size <= o /\ (∀ x ∈ R, w.heap.size <= x.blk) /\ RowAt w' o 22 (R.map Hd.hdr) /\ ∀ k (h : k < R.length), R[k].cap = c) /\ Below w.heap.size w w' := by
 subst hl;have HX := Lib.hid h; clear h;have HS := Lib.hid hs; clear hs;refine callsIn_of_wp_marks Tryz.func47 rfl trivial ?_ rfl;simp only [Tryz.ntmps47, List.size_toArray, List.length_cons, List.length_nil, Nat.reduceAdd, Nat.reduceSub, Array.replicate_succ, Array.replicate_zero, List.push_toArray, List.append_toArray, List.nil_append, List.cons_append];refine wpIn_wide.2 ?_;have hb0 : Below w.heap.size w (w.alloc (.cells #[.int .i64 (r : Int), .int .i64 (c : Int), .slice ao xs.length cap] 24)) := (Below.refl _ _).alloc (Nat.le_refl _) _;have hr0 := RowAt.new w #[.int .i64 (r : Int), .int .i64 (c : Int), .slice ao xs.length cap] 24;have HB0 := Lib.hid hb0; clear hb0;have HR0 := Lib.hid hr0; clear hr0;go_wp2_with (at_make; refine mk_rows rfl _ _ rfl 0 r rfl rfl rfl rfl (Nat.zero_le _) (by omega) ?_; intro o w1 hm1; have hr1 := (HR0.out.below hm1.below HR0.out.lt).alloc (.cells #[.slice (some ⟨o, 0, none⟩) 0 r] 60); have c0 := hr1.cell 0; have c1 := hr1.cell 1; have c2 := hr1.cell 2; have hm := Lib.hid hm1; clear hm1 hr1; simp only [List.getElem?_cons_zero, List.getElem?_cons_succ] at c0 c1 c2)
 have hr2 := hm.out.row.alloc (.cells #[.slice (some ⟨o, 0, none⟩) 0 r] 60);have hr3 := RowAt.new w1 #[.slice (some ⟨o, 0, none⟩) 0 r] 60;have hb2 : Below w.heap.size w (w1.alloc (.cells #[.slice (some ⟨o, 0, none⟩) 0 r] 60)) := (HB0.out.trans (hm.out.below.mono HB0.out.size)).alloc (by have := HB0.out.size; have := hm.out.below.size; omega) _;have hg1 : w.heap.size < w1.heap.size := Nat.lt_of_lt_of_le HR0.out.lt hm.out.below.size;have ho1 : w.heap.size < o /\ o < w1.heap.size := by
  have h1 := hm.out.at_;have h2 := HR0.out.lt;have h3 := hm.out.size;omega
 generalize hw2 : w1.alloc (.cells #[.slice (some ⟨o, 0, none⟩) 0 r] 60) = w2 at *;have hs2 : w2.heap.size = w1.heap.size + 1 := by rw [<- hw2]; simp
 have HR2 := Lib.hid hr2; clear hr2;have HR3 := Lib.hid hr3; clear hr3;have HB2 := Lib.hid hb2; clear hb2;clear hm hw2 HB0 HR0 c0 c1 c2;have hsnd : soundM (r : Int) (c : Int) xs.length = true := by
  unfold soundM sideOk;rw [HS.out];simp; omega
 refine (MLines_c (r : Int) (c : Int) ao xs.length cap xs w2 (by omega) (by omega) (HX.out.below HB2.out) rfl hsnd (by rw [HS.out]; have := Nat.mul_le_mul hr hc; omega)).mono ?_;rintro e w3 ⟨⟨g, b, rfl, hg, hb, hRg, hRb⟩, hb3⟩;have hs3 := hb3.size;have HG := Lib.hid hRg; clear hRg;have HRB := Lib.hid hRb; clear hRb;have HR2' := Lib.hid (HR2.out.below hb3 HR2.out.lt);have HR3' := Lib.hid (HR3.out.below hb3 HR3.out.lt);have HB3 : Hid (Below w.heap.size w w3) := Lib.hid (HB2.out.trans (hb3.mono HB2.out.size));clear hb3 HR2 HR3 HB2;go_wp2_with fail
 refine (wpIn_wide (n := 6)).1 ?_;have hne : w1.heap.size ≠ o := by omega
 have hI0 : LinesI w3 w3.heap.size w1.heap.size o r [] w3 := ⟨HR3'.out, by simpa [hdrsTo] using HR2'.out, fun z hz => by simp at hz, by simp, Chg.refl _ _⟩;have HI0 := Lib.hid hI0; clear hI0;refine range_hand (S := fun k => k = w1.heap.size ∨ k = o) (N := r) (Sx := HandS r c xs) (E := HandE w3.heap.size) (I := LinesI w3 w3.heap.size w1.heap.size o r) (gf := 60) (lb := #[.pointer (some ⟨g, 0, none⟩)]) (encs := NR.enc) rfl (enters_of Tryz.func60 (by kernel_rfl) rfl) (fun _ => rfl) ?hE ?hIl ?hIb HI0.out
  (fun x => { tmps := #[.agg #[.int .i64 (r : Int), .int .i64 (c : Int), .slice ao xs.length cap], .pointer (some ⟨w.heap.size, 0, none⟩), .slice none 0 0, .pointer (some ⟨w1.heap.size, 0, none⟩), undef, .slice (some ⟨x.2.blk, 0, none⟩) x.2.xs.length x.2.cap, .pointer (some ⟨w.heap.size, 0, none⟩), .int .i64 (r : Int), .slice (some ⟨o, 0, none⟩) 0 r, .agg #[.int .i64 (r : Int), .int .i64 (c : Int), .slice ao xs.length cap], .func (.func 60) #[] #[.pointer (some ⟨g, 0, none⟩)], .int .i64 (x.1 : Int), .slice (some ⟨x.2.blk, 0, none⟩) x.2.xs.length x.2.cap, undef, undef, undef, undef, undef], defers := [] })
  ?hseq ?assign ?body ?done
 case hE =>
  intro s x W l o1 o2 h hl ho hn;exact ⟨rowN_putObj ho hn h.1, h.2⟩
 case hIl =>
  intro s W l o1 o2 h hl ho hn;exact ⟨row_putObj ho hn h.box, row_putObj ho hn h.row, fun z hz => ⟨rowN_putObj ho hn (h.nums z hz).1, (h.nums z hz).2⟩, h.nd, ⟨h.chg.os, h.chg.tape, h.chg.output, by have := h.chg.size; simpa using this, fun k hk hs => (World.putObj_heap_other (by omega)).trans (h.chg.block k hk hs)⟩⟩
 case hIb =>
  intro s A B h hb;exact ⟨h.box.below hb h.box.lt, h.row.below hb h.row.lt, fun z hz => ⟨(h.nums z hz).1.below hb, (h.nums z hz).2⟩, h.nd, h.chg.below hb⟩
 case hseq =>
  intro l J W hW hJ hY hJ0;refine (Lines1_hand 5 g b r c xs w3 (fun k => k = w1.heap.size ∨ k = o) ?_ HG.out (by omega) HRB.out (by omega) HS.out (by omega) (by omega) hL l J W hW hJ hY hJ0 (by omega));rintro q (rfl | rfl)
  · exact ⟨_, _, HR3'.out, NoW.slice NoW.nil⟩
  · exact ⟨_, _, HR2'.out, fun v hv n => by simp at hv; simp [hv.2]⟩
 case assign =>
  intro l x W K hK;simp only [NR.enc]
  gi_wp2
  exact hK
 case body =>
  rintro l pre x W hI hE hlen;have hoW := hI.row.lt;have hbW := hI.box.lt;have hlenR : (hdrsTo r pre).length = r := by simp [hdrsTo]; omega
  have hA : ∀ X : Obj, RowAt (W.alloc X) o 22 (hdrsTo r pre) := fun X => hI.row.alloc X;have hAb : ∀ X : Obj, RowAt (W.alloc X) w1.heap.size 60 [.slice (some ⟨o, 0, none⟩) pre.length r] := fun X => hI.box.alloc X;have c0 : W.cell? ⟨w1.heap.size, 0, none⟩ = some (.slice (some ⟨o, 0, none⟩) pre.length r) := hI.box.cell 0;have f0 : W.frozen? ⟨w1.heap.size, 0, none⟩ = false := hI.box.free 0;have HI := Lib.hid hI; clear hI;have HE := Lib.hid hE; clear hE
  gi_wp2_with (gi_at_builtin; refine wpListIn_app rfl _ _ 60 rfl 22 (.slice none 0 0) 1 24 Tryz.underlying60 info_row o 0 pre.length r ⟨W.heap.size, 0, none⟩ 1 1 [x.2.hdr] rfl rfl rfl (cell_one_new _ _ _) (by simp [Value.oneCell', Hd.hdr]) (by omega) (fun j hj => by simp at hj; subst hj; rw [(hA _).cell]; simp [hlenR, hlen]) (fun j hj => by simp at hj; subst hj; exact (hA _).free _) ?_; simp only [Nat.zero_add, Nat.mul_one, World.setCells]; have hrW := (hA (.cells #[x.2.hdr] 22)).set pre.length x.2.hdr; have hrB := (hAb (.cells #[x.2.hdr] 22)).other (p := ⟨o, pre.length, none⟩) hne x.2.hdr; skip)
  have hI := HI.out;have hE := HE.out;have hsw := hI.chg.size;have hrW' := hI.row.set pre.length x.2.hdr;have hrB' := hI.box.other (p := ⟨o, pre.length, none⟩) hne x.2.hdr;have hNo : NoW (hdrsTo r pre) := fun v hv n => by
   simp only [hdrsTo, List.mem_append, List.mem_map, List.mem_replicate] at hv;rcases hv with ⟨z, _, rfl⟩ | ⟨_, rfl⟩ <;> simp [Hd.hdr]
  obtain ⟨Wf, hWf⟩ : ∃ Wf, (W.setCell ⟨o, pre.length, none⟩ x.2.hdr).setCell ⟨w1.heap.size, 0, none⟩ (.slice (some ⟨o, 0, none⟩) (pre.length + 1) r) = Wf := ⟨_, rfl⟩;rw [hWf];have hsf : Wf.heap.size = W.heap.size := by rw [<- hWf]; simp
  have hbl : Below Wf.heap.size Wf (Wf.alloc (.cells #[.slice (some ⟨x.2.blk, 0, none⟩) x.2.xs.length x.2.cap] 22)) := (Below.refl _ _).alloc (Nat.le_refl _) _;have hnum : ∀ y : NR, RowN W y.2.blk y.2.xs -> RowN Wf y.2.blk y.2.xs := by
   intro y hy;rw [<- hWf];exact (hy.setFar hI.row (by decide) hNo pre.length x.2.hdr).setFar hrB' (by decide) (NoW.slice NoW.nil) 0 _
  refine ⟨?_, ?_, ?_⟩
  · rw [<- hWf]; exact ((KeepsOthers.setCell _ _ _).trans (KeepsOthers.setCell _ _ _)).trans (KeepsOthers.alloc _ _)
  · refine KeepS.trans (b := Wf) ?_ (KeepS.of_below (hbl.mono (by omega)));rw [<- hWf];refine ⟨rfl, rfl, rfl, by simp, fun k hk hs => ?_⟩;exact (Below.heap_setCell _ _ _ _ (fun e => hs (.inl e))).trans (Below.heap_setCell _ _ _ _ (fun e => hs (.inr e)))
  · have hbx : RowAt Wf w1.heap.size 60 [.slice (some ⟨o, 0, none⟩) (pre.length + 1) r] := by
     rw [<- hWf]; exact hrB'.set 0 (.slice (some ⟨o, 0, none⟩) (pre.length + 1) r)
    have hrw : RowAt Wf o 22 (hdrsTo r (pre ++ [x])) := by
     have h1 := hrW'.other (p := ⟨w1.heap.size, 0, none⟩) (fun e => hne e.symm) (.slice (some ⟨o, 0, none⟩) (pre.length + 1) r);have e : (hdrsTo r pre).set pre.length x.2.hdr = hdrsTo r (pre ++ [x]) := by
      unfold hdrsTo;obtain ⟨q, hq⟩ : ∃ q, r - pre.length = q + 1 := ⟨r - pre.length - 1, by omega⟩;have hq2 : r - (pre ++ [x]).length = q := by simp; omega
      rw [hq, hq2, List.replicate_succ, List.set_append_right _ _ (by simp)];simp
     rw [<- e, <- hWf]; exact h1
    refine ⟨?_, hrw.below hbl hrw.lt, ?_, ?_, ?_⟩
    · have := hbx.below hbl hbx.lt;simpa using this
    · intro z hz;rcases List.mem_append.1 hz with hz | hz
      · exact ⟨(hnum z (hI.nums z hz).1).below hbl, (hI.nums z hz).2⟩
      · simp only [List.mem_singleton] at hz; subst hz;exact ⟨(hnum z hE.1).below hbl, hE.2.1⟩
    · rw [List.map_append, List.nodup_append];refine ⟨hI.nd, by simp, fun u hu v hv => ?_⟩;simp only [List.map_cons, List.map_nil, List.mem_singleton] at hv;obtain ⟨y, hy, rfl⟩ := List.mem_map.1 hu;subst hv;exact hE.2.2 y hy
    · refine Chg.below ?_ hbl;rw [<- hWf];exact (hI.chg.set (p := ⟨o, pre.length, none⟩) (.inr rfl) _).set (p := ⟨w1.heap.size, 0, none⟩) (.inl rfl) _
 case done =>
  rintro D zs W hD hS hI hK;have hl : zs.length = r := hS.1;have c0 : W.cell? ⟨w1.heap.size, 0, none⟩ = some (.slice (some ⟨o, 0, none⟩) zs.length r) := hI.box.cell 0;have HI := Lib.hid hI; clear hI;simp only [Exit.inBlock];go_wp2;refine ⟨by simp, .inl ⟨_, _, rfl, run_takeDeferred hK, ?_⟩⟩;refine ⟨_, results_tmp rfl _ _ _, ?_⟩;have hI := HI.out;have hS2 := hS.2;have hrow : RowAt W o 22 (zs.map (fun z => z.2.hdr)) := by
   have := hI.row;unfold hdrsTo at this;rw [hl, Nat.sub_self] at this;simpa using this
  refine ⟨⟨o, zs.map (fun z => z.2), ?_, ⟨?_, ?_, ?_⟩, by simp [hl], ?_, by omega, ?_, by rw [List.map_map]; exact row_putObj hK rfl hrow, fun k hk => by rw [List.getElem_map, hS2 k (by simpa using hk)]⟩, ?_⟩
  · simp [hl]
  · rw [List.map_map]; exact (row_putObj hK rfl hrow).pre
  · intro h hh;obtain ⟨z, hz, rfl⟩ := List.mem_map.1 hh;exact rowN_putObj hK rfl (hI.nums z hz).1
  · rw [List.map_map]; exact hI.nd
  · intro k hk;have hk' : k < zs.length := by simpa using hk
    have := hS2 k hk';rw [List.getElem_map, this]
  · intro x hx;obtain ⟨z, hz, rfl⟩ := List.mem_map.1 hx;have := (hI.nums z hz).2;have := HB3.out.size;omega
  · refine HB3.out.trans ?_;refine (hI.chg.to_below (B := w.heap.size) ?_ HB3.out.size).trans ⟨rfl, rfl, rfl, by simp, fun k hk => World.putObj_heap_other (by have := HB3.out.size; omega)⟩;rintro k (rfl | rfl) <;> omega
theorem lines_c (r c : Nat) (ao : Option Addr) (len cap : Nat) (xs : List Int) (w : World) (hr : r <= 64) (hc : c <= 64) (h : LsAt w 17592186044415 ao xs) (hL : ∀ x ∈ xs, wlen x.natAbs <= 17592186044415) (hl : len = xs.length) (hs : xs.length = r * c) :
 CallsIn Fence.wide 6 Tryz.prog 47 #[.agg #[.int .i64 (r : Int), .int .i64 (c : Int), .slice ao len cap]] w fun e w' => (∃ o R, e = .returned (.slice (some ⟨o, 0, none⟩) R.length r) /\ MatN w' o R /\ R.length = r /\ (∀ k (h : k < R.length), R[k].xs = rowOf xs c k) /\ w.heap.size <= o /\ (∀ x ∈ R, w.heap.size <= x.blk)) /\ Below w.heap.size w w' :=
 (lines_e r c ao len cap xs w hr hc h hL hl hs).mono (fun e w' ⟨⟨o, R, h1, h2, h3, h4, h5, h6, _⟩, hb⟩ => ⟨⟨o, R, h1, h2, h3, h4, h5, h6⟩, hb⟩)
set_option maxRecDepth 100000 in
set_option maxHeartbeats 4000000 in
theorem reduced_c (o cap B c k : Nat) (R R' : List Hd) (w : World) (h : MatN w o R) (hB : B <= 4000000000000) (hP : RedT B c 0 R.length R k R') (hR : R.length <= 100000) (hc : c <= 1000000) :
 Calls Tryz.prog 46 #[.slice (some ⟨o, 0, none⟩) R.length cap] w fun e w' => e = .returned (.tuple #[.slice (some ⟨o, 0, none⟩) R'.length cap, .int .i64 (k : Int)]) /\ MatN w' o R' /\ Chg (fun q => q = o ∨ ∃ r ∈ R, r.blk = q) w w' := by
 have HM := Lib.hid h; clear h;have HP := Lib.hid hP; clear hP;go_enter Tryz.func46, Tryz.ntmps46;go_wp2_with fail
 refine (New_c o cap R _ HM.out).mono ?_;rintro e w2 ⟨⟨lb, sb, g, rfl, hL, h1, h2, h3⟩, hb2⟩;have HL := Lib.hid hL; clear hL;have HB2 := Lib.hid hb2; clear hb2;go_wp2_with fail
 refine (Reduce_c ⟨lb, o, sb, g, cap, R, none⟩ B c k R' _ HL.out hB HP.out hR hc (fun t h => by cases h)).mono ?_;rintro e w3 ⟨rfl, hL3, hC3⟩;have L3 := Lib.hid hL3;have C3 : Hid (Chg (fun q => q = o ∨ ∃ r ∈ R, r.blk = q) w w3) := Lib.hid ((Chg.of_below HB2.out).trans (hC3.mono (fun q _ e => by rcases e with e | ⟨t, ht, _⟩; exact e; cases ht)));have cb : w3.cell? ⟨lb, 0, none⟩ = some (.slice (some ⟨o, 0, none⟩) R'.length cap) := L3.out.lad.cell 0;clear hL3 hC3;go_wp2;refine bodyPost_ret (results_tmp2 (t := 2) (u := 3) (by kernel_rfl) _ _ _) rfl ?_;exact ⟨rfl, L3.out.mat, C3.out⟩
theorem results_mat {fn : Func} {p : Tmp} (h : fn.results = #[.cell p 24]) (tmps : Array Value) (w : World) (g : Nat) (a b c : Value) (hp : tmps.getD p undef = .pointer (some ⟨g, 0, none⟩)) (hr : RowAt w g 24 [a, b, c]) :
 (results fn tmps).run Tryz.prog w = .ok (.agg #[a, b, c]) w :=
 results_cell_row h tmps w g 24 #[a, b, c] (0, 0) _ hp hr Tryz.underlying24 rfl (by kernel_rfl)
structure RowsAt (w : World) (L o : Nat) (xss : List (List Int)) : Prop where
 lt : o < w.heap.size
 row : ∀ i (h : i < xss.length), ∃ ao cap, w.cell? ⟨o, i, none⟩ = some (.slice ao xss[i].length cap) /\ LsAt w L ao xss[i]
structure MatI (w : World) (b m n c N : Nat) (cu : List Int) (W : World) : Prop where
 box : RowAt W m 24 [.int .i64 (n : Int), .int .i64 (c : Int), .slice (some ⟨b, 0, none⟩) cu.length N]
 row : RowN W b (cu ++ List.replicate (N - cu.length) 0)
 res : RowAt W w.heap.size 24 [.int .i64 0, .int .i64 0, .slice none 0 0]
 bel : Below w.heap.size w W
theorem MatI.app {w : World} {b m n c N k : Nat} {cu : List Int} {W : World} (h : MatI w b m n c N cu W) (hb : w.heap.size < b /\ b < m) (hk : cu.length = k) (hkN : k + 1 <= N) {p : P4} {x : Int} (hx : NumAt W (av p) x) (W2 : World)
 (e : (W.alloc (.cells #[.bool p.1, .slice p.2.1 p.2.2.1 p.2.2.2] 33)).setCells b (k * 2) [.bool p.1, .slice p.2.1 p.2.2.1 p.2.2.2] = W2) :
 RowAt W2 m 24 [.int .i64 (n : Int), .int .i64 (c : Int), .slice (some ⟨b, 0, none⟩) k N] /\ MatI w b m n c N (cu ++ [x]) (W2.setCell ⟨m, 2, none⟩ (.slice (some ⟨b, 0, none⟩) (k + 1) N)) := by
 have hb1 : Below W.heap.size W (W.alloc (.cells #[.bool p.1, .slice p.2.1 p.2.2.1 p.2.2.2] 33)) := (Below.refl _ _).alloc (Nat.le_refl _) _;generalize W.alloc (.cells #[.bool p.1, .slice p.2.1 p.2.2.1 p.2.2.2] 33) = W1 at *;subst hk;have hx1 := hx.below hb1;have hr1 := h.row.below hb1;have hm1 := h.box.below hb1 h.box.lt;have hs1 := h.res.below hb1 h.res.lt;have hB1 := h.bel.trans (hb1.mono h.bel.size);have e2 : (W1.setCell ⟨b, cu.length * 2, none⟩ (.bool p.1)).setCell ⟨b, cu.length * 2 + 1, none⟩ (.slice p.2.1 p.2.2.1 p.2.2.2) = W2 := by rw [<- e]; rfl
 have hr2 : RowN W2 b ((cu ++ List.replicate (N - cu.length) 0).set cu.length x) := by rw [<- e2]; exact hr1.set cu.length hx1
 have hne : m ≠ b := by omega
 have hm2 : RowAt W2 m 24 [.int .i64 (n : Int), .int .i64 (c : Int), .slice (some ⟨b, 0, none⟩) cu.length N] := by
  rw [<- e2]; exact (hm1.other (p := ⟨b, cu.length * 2, none⟩) hne _).other (p := ⟨b, cu.length * 2 + 1, none⟩) hne _
 have hs2 : RowAt W2 w.heap.size 24 [.int .i64 0, .int .i64 0, .slice none 0 0] := by
  rw [<- e2]; exact (hs1.other (p := ⟨b, cu.length * 2, none⟩) (by show w.heap.size ≠ b; omega) _).other (p := ⟨b, cu.length * 2 + 1, none⟩) (by show w.heap.size ≠ b; omega) _
 have hB2 : Below w.heap.size w W2 := by
  rw [<- e2]; exact (hB1.setCell (p := ⟨b, cu.length * 2, none⟩) (Nat.le_of_lt hb.1) _).setCell (p := ⟨b, cu.length * 2 + 1, none⟩) (Nat.le_of_lt hb.1) _
 refine ⟨hm2, ?_, ?_, ?_, ?_⟩
 · have := hm2.set 2 (.slice (some ⟨b, 0, none⟩) (cu.length + 1) N);simpa using this
 · have e3 : (cu ++ List.replicate (N - cu.length) 0).set cu.length x = (cu ++ [x]) ++ List.replicate (N - (cu ++ [x]).length) 0 := by
    obtain ⟨q, hq⟩ : ∃ q, N - cu.length = q + 1 := ⟨N - cu.length - 1, by omega⟩;have hq2 : N - (cu ++ [x]).length = q := by simp; omega
    rw [hq, hq2, List.replicate_succ, List.set_append_right _ _ (Nat.le_refl _)];simp
   rw [<- e3];exact hr2.setFar hm2 (by decide) (NoW.mat (n : Int) (c : Int) _ _ _) 2 _
 · exact hs2.other (p := ⟨m, 2, none⟩) (by show w.heap.size ≠ m; omega) _
 · exact hB2.setCell (p := ⟨m, 2, none⟩) (by show w.heap.size <= m; omega) _
theorem two_cells (w : World) (x y : Value) (t : TypeId) : ∀ j u, [x, y][j]? = some u -> (w.alloc (.cells #[x, y] t)).cell? ((⟨w.heap.size, 0, none⟩ : Addr).add j) = some u := by
 intro j u hj;have := (RowAt.new w #[x, y] t).cell j;have e : ((⟨w.heap.size, 0, none⟩ : Addr).add j) = ⟨w.heap.size, j, none⟩ := by unfold Addr.add; simp; omega
 rw [e, this]; exact hj
theorem MatI.spare {w : World} {b m n c N k : Nat} {cu : List Int} {W : World} (h : MatI w b m n c N cu W) (hk : cu.length = k) (hkN : k + 1 <= N) (X : Obj) (j : Nat) (hj : j < 2) : ((W.alloc X).cell? ⟨b, 0 + k * 2 + j, none⟩).isSome = true /\ (W.alloc X).frozen? ⟨b, 0 + k * 2 + j, none⟩ = false := by
 have hb1 : Below W.heap.size W (W.alloc X) := (Below.refl _ _).alloc (Nat.le_refl _) _;have hr1 := h.row.below hb1;refine ⟨?_, hr1.free _⟩;obtain ⟨q, h0, h1, _⟩ := hr1.get (i := k) (by simp [hk]; omega);have hj2 : j = 0 ∨ j = 1 := by omega
 rcases hj2 with rfl | rfl
 · rw [Nat.zero_add, Nat.add_zero, h0]; rfl
 · rw [Nat.zero_add, h1]; rfl
theorem flatten_len {xss : List (List Int)} {c : Nat} (hc : ∀ x ∈ xss, x.length = c) : xss.flatten.length = xss.length * c := by
 induction xss with
 | nil => simp
 | cons x xs ih =>
  rw [List.flatten_cons, List.length_append, ih (fun y hy => hc y (List.mem_cons_of_mem _ hy)), hc x (List.mem_cons_self ..), List.length_cons, Nat.succ_mul]; omega
theorem flatten_take_len {xss : List (List Int)} {c i : Nat} (hc : ∀ x ∈ xss, x.length = c) (hi : i <= xss.length) : (xss.take i).flatten.length = i * c := by
 rw [flatten_len (fun x hx => hc x (List.mem_of_mem_take hx)), List.length_take, Nat.min_eq_left hi]
theorem flatten_take_succ {xss : List (List Int)} {i : Nat} (hi : i < xss.length) : (xss.take (i + 1)).flatten = (xss.take i).flatten ++ xss[i] := by
 rw [List.take_succ_eq_append_getElem hi, List.flatten_append]; simp
set_option maxRecDepth 100000 in
set_option maxHeartbeats 4000000 in
theorem matrix_c (o cap n c : Nat) (xss : List (List Int)) (w : World) (h : RowsAt w 17592186044415 o xss) (hn : xss.length = n) (hc : ∀ x ∈ xss, x.length = c) (hn1 : n <= 10000) (hc1 : c <= 10000) :
 Calls Tryz.prog 48 #[.slice (some ⟨o, 0, none⟩) n cap, .int .i64 (c : Int)] w fun e w' => (∃ b, e = .returned (.agg #[.int .i64 (n : Int), .int .i64 (c : Int), .slice (some ⟨b, 0, none⟩) (n * c) (n * c)]) /\ w.heap.size <= b /\ RowN w' b xss.flatten) /\ Below w.heap.size w w' := by
 have hnc : n * c <= 100000000 := Nat.mul_le_mul hn1 hc1;have hw1 : wrap64 ((n : Int) * (c : Int)) = ((n * c : Nat) : Int) := by
  rw [<- Int.natCast_mul]; unfold wrap64; omega
 obtain ⟨N, hN⟩ : ∃ N, n * c = N := ⟨_, rfl⟩;rw [hN] at hw1 hnc ⊢;have HN := Lib.hid hN; clear hN;have HX := Lib.hid h; clear h;go_enter Tryz.func48, Tryz.ntmps48;go_wp2_with (at_make; refine mk_nums rfl _ _ rfl 0 N rfl rfl rfl (by omega) (Nat.zero_le _) (by omega) ?_; intro b w1 hm1)
 have hI : MatI w b w1.heap.size n c N [] (w1.alloc (.cells #[.int .i64 (n : Int), .int .i64 (c : Int), .slice (some ⟨b, 0, none⟩) 0 N] 24)) := by
  have h0 := RowAt.new w #[.int .i64 0, .int .i64 0, .slice none 0 0] 24;have hb0 : Below w.heap.size w (w.alloc (.cells #[.int .i64 0, .int .i64 0, .slice none 0 0] 24)) := (Below.refl _ _).alloc (Nat.le_refl _) _;have hb1 : Below w1.heap.size w1 (w1.alloc (.cells #[.int .i64 (n : Int), .int .i64 (c : Int), .slice (some ⟨b, 0, none⟩) 0 N] 24)) := (Below.refl _ _).alloc (Nat.le_refl _) _;refine ⟨RowAt.new _ _ _, ?_, ?_, ?_⟩
  · simpa using (RowN.zeros hm1.row).below hb1
  · exact (h0.below hm1.below h0.lt).alloc _
  · exact (hb0.trans (hm1.below.mono hb0.size)).trans (hb1.mono (Nat.le_trans hb0.size hm1.below.size))
 have hbl : w.heap.size < b /\ b < w1.heap.size := by
  have h1 := hm1.at_; have h2 := hm1.size; rw [World.size_alloc] at h1 h2; omega
 have HI := Lib.hid hI; clear hI;clear hm1;generalize w1.alloc (.cells #[.int .i64 (n : Int), .int .i64 (c : Int), .slice (some ⟨b, 0, none⟩) 0 N] 24) = w2 at *;obtain ⟨m, hm⟩ : ∃ m, w1.heap.size = m := ⟨_, rfl⟩;rw [hm] at hbl HI ⊢;clear hm;have HC := Lib.hid hc; clear hc;go_loopw [21] (fun i_ wr => ∃ (i : Nat), i <= n /\ i_ = .int .i64 (i : Int) /\ Hid (MatI w b m n c N (xss.take i).flatten wr)) (fun i_ _ => n - (intOf i_).toNat)
 case atStart => exact ⟨0, Nat.zero_le _, rfl, Lib.hid (by simpa using HI.out)⟩
 case round =>
  obtain ⟨i, hi, rfl, hIr⟩ := hrel;by_cases hin : i < n
  · have hix : i < xss.length := by omega
    have hin1 : (i : Int) < (n : Int) := by omega
    obtain ⟨ra, rc, hroww, hls⟩ := HX.out.row i hix;have hrow0 := (hIr.out.bel.cell (p := ⟨o, i, none⟩) HX.out.lt).trans hroww;clear hroww;have hxl : xss[i].length = c := HC.out _ (List.getElem_mem hix);rw [hxl] at hrow0;have HXL := Lib.hid hxl; clear hxl;have HLS := Lib.hid hls; clear hls;have hmul : (i + 1) * c <= N := by rw [<- HN.out]; exact Nat.mul_le_mul_right _ hin
    have hmul2 : (i + 1) * c = i * c + c := Nat.succ_mul i c;have hfl : (xss.take i).flatten.length = i * c := flatten_take_len HC.out (by omega);have HFL := Lib.hid hfl; clear hfl;have HM := Lib.hid (And.intro hmul hmul2); clear hmul hmul2;go_wp2;go_loopw [27] (fun j_ wq => ∃ (j : Nat), j <= c /\ j_ = .int .i64 (j : Int) /\ Hid (MatI w b m n c N ((xss.take i).flatten ++ xss[i].take j) wq)) (fun j_ _ => c - (intOf j_).toNat)
    case atStart => exact ⟨0, Nat.zero_le _, rfl, Lib.hid (by simpa using hIr.out)⟩
    case round =>
     obtain ⟨j, hj, rfl, hIq⟩ := hrel;by_cases hjc : j < c
     · have hjc1 : (j : Int) < (c : Int) := by omega
       have hjx : j < xss[i].length := by rw [HXL.out]; exact hjc
       obtain ⟨k, hk⟩ : ∃ k, i * c + j = k := ⟨_, rfl⟩;have hkN : k + 1 <= N := by have := HM.out; omega
       obtain ⟨cu, hcu⟩ : ∃ cu, (xss.take i).flatten ++ xss[i].take j = cu := ⟨_, rfl⟩;rw [hcu] at hIq;have hcl : cu.length = k := by rw [<- hcu, List.length_append, HFL.out, List.length_take, Nat.min_eq_left (by omega)]; exact hk
       have hcu2 : (xss.take i).flatten ++ xss[i].take (j + 1) = cu ++ [xss[i][j]] := by
        rw [List.take_succ_eq_append_getElem hjx, <- List.append_assoc, hcu]
       obtain ⟨x, hx⟩ : ∃ x, xss[i][j] = x := ⟨_, rfl⟩;obtain ⟨ab, aoff, hra, hab, hcells⟩ := (HLS.out.below hIq.out.bel) (by omega);subst hra;obtain ⟨px, cx0, cx1, hnx⟩ := hcells j hjx;rw [hx] at hnx hcu2;have HCU := Lib.hid hcu2; clear hcu2 hcu hcells hx;have HK := Lib.hid hk; clear hk;have hb1 : Below wr.heap.size wr (wr.alloc (.cells #[.bool px.1, .slice px.2.1 px.2.2.1 px.2.2.2] 33)) := (Below.refl _ _).alloc (Nat.le_refl _) _;have Hnx := Lib.hid (hnx.below hb1); clear hnx;have hIa : MatI w b m n c N cu (wr.alloc (.cells #[.bool px.1, .slice px.2.1 px.2.2.1 px.2.2.2] 33)) :=
        ⟨hIq.out.box.below hb1 hIq.out.box.lt, hIq.out.row.below hb1, hIq.out.res.below hb1 hIq.out.res.lt, hIq.out.bel.trans (hb1.mono hIq.out.bel.size)⟩
       have HIa := Lib.hid hIa; clear hIa;have hxr := RowAt.new wr #[.bool px.1, .slice px.2.1 px.2.2.1 px.2.2.2] 33;have HXR := Lib.hid hxr; clear hxr;have hsm : m < wr.heap.size := hIq.out.box.lt;clear hIq hb1;go_wp2;generalize wr.alloc (.cells #[.bool px.1, .slice px.2.1 px.2.2.1 px.2.2.2] 33) = w5 at *;obtain ⟨xb, hxb⟩ : ∃ xb, wr.heap.size = xb := ⟨_, rfl⟩;rw [hxb] at HXR hsm ⊢;have q0 : w5.cell? ⟨xb, 0, none⟩ = some (.bool px.1) := HXR.out.cell 0;have q1 : w5.cell? ⟨xb, 1, none⟩ = some (.slice px.2.1 px.2.2.1 px.2.2.2) := HXR.out.cell 1;have c2 : w5.cell? ⟨m, 2, none⟩ = some (.slice (some ⟨b, 0, none⟩) k N) := by have := HIa.out.box.cell 2; rw [hcl] at this; exact this
       clear cx0 cx1 hrow0;obtain ⟨i0, hi0, hz0, hsz0, hby0⟩ := info_parts info_Int;have hrl : (cu ++ List.replicate (N - cu.length) 0).length = N := by rw [List.length_append, List.length_replicate, hcl]; omega
       go_region_law (first
        | (refine step_append_room rfl (.tmp 32) (.tmp 35) 22 rfl 33 i0 2 Tryz.underlying22 hi0 hsz0 b 0 k N rfl ⟨w6.heap.size, 0, none⟩ 1 1 [.bool pz.1, .slice pz.2.1 pz.2.2.1 pz.2.2.2] rfl rfl (two_cells w6 _ _ _) (by simp [Value.oneCell']) (by omega) (fun j hj => HI6.out.spare hcl hkN _ j hj) ?_; obtain ⟨w7, hw7⟩ : ∃ w7, (w6.alloc (.cells #[.bool pz.1, .slice pz.2.1 pz.2.2.1 pz.2.2.2] 33)).setCells b (k * 2) [.bool pz.1, .slice pz.2.1 pz.2.2.1 pz.2.2.2] = w7 := ⟨_, rfl⟩; have hI7 := HI6.out.app hbl hcl hkN HZ6.out w7 hw7; simp only [Nat.zero_add]; rw [hw7]; have g2 := hI7.1.cell 2; have gf2 := hI7.1.free 2; simp only [List.getElem?_cons_zero, List.getElem?_cons_succ] at g2; have HI7 := Lib.hid hI7; clear hI7 hw7)
        | (go_simp; go_at_call 29; refine (ILeast_c (av px) x _ (IntAt.below (w := w5) Hnx.out (Below.refl _ _).drew)).mono ?_; rintro e w6 ⟨⟨vz, rfl, hvz⟩, hb6⟩; obtain ⟨pz, rfl⟩ := NumAt.parts hvz.num; have HZ6 := Lib.hid hvz.num; unfold av at *; have hI6 : MatI w b m n c N cu w6 := ⟨RowAt.below (w := w5.drew) HIa.out.box hb6 HIa.out.box.lt, RowN.below (w := w5.drew) HIa.out.row hb6, RowAt.below (w := w5.drew) HIa.out.res hb6 HIa.out.res.lt, HIa.out.bel.drew.trans (hb6.mono HIa.out.bel.size)⟩; have HI6 := Lib.hid hI6; clear hI6; have k2 := HI6.out.box.cell 2; rw [hcl] at k2; have k3 := (HI6.out.box.alloc (.cells #[.bool pz.1, .slice pz.2.1 pz.2.2.1 pz.2.2.2] 33)).cell 2; rw [hcl] at k3; simp only [List.getElem?_cons_zero, List.getElem?_cons_succ] at k2 k3; clear hb6 hvz))
       all_goals go_wp2
       all_goals refine ⟨⟨j + 1, by omega, by go_num, Lib.hid ?_⟩, ?_⟩
       all_goals first
        | (rw [HCU.out]; exact HI7.out.2)
        | (simp [intOf]; omega)
     · obtain rfl : j = c := by omega
       go_wp2;go_roundw
       case rel =>
        refine ⟨i + 1, by omega, by go_num, Lib.hid ?_⟩;rw [flatten_take_succ hix];have h9 := hIq.out;rw [List.take_of_length_le (l := xss[i]) (by rw [HXL.out]; exact Nat.le_refl _)] at h9;exact h9
       case measure => simp [intOf]; omega
  · obtain rfl : i = n := by omega
    have hce : (xss.take i).flatten = xss.flatten := by rw [List.take_of_length_le (by omega)]
    have HCE := Lib.hid hce; clear hce;have hcl : (xss.take i).flatten.length = N := by rw [HCE.out, flatten_len HC.out, hn]; exact HN.out
    have c0 := hIr.out.box.cell 0;have c1 := hIr.out.box.cell 1;have c2 := hIr.out.box.cell 2;have d0 := hIr.out.res.cell 0;have d1 := hIr.out.res.cell 1;have d2 := hIr.out.res.cell 2;have f0 := hIr.out.res.free 0;have f1 := hIr.out.res.free 1;have f2 := hIr.out.res.free 2;rw [hcl] at c2;simp only [List.getElem?_cons_zero, List.getElem?_cons_succ] at c0 c1 c2 d0 d1 d2;clear hcl;go_wp2;have hrm := hIr.out.row;rw [HCE.out, flatten_len HC.out, hn, HN.out, Nat.sub_self] at hrm;simp only [List.replicate_zero, List.append_nil] at hrm;refine bodyPost_ret (results_mat (p := 4) (by kernel_rfl) _ _ w.heap.size _ _ _ rfl (hIr.out.res.set3 (.int .i64 (i : Int)) (.int .i64 (c : Int)) (.slice (some ⟨b, 0, none⟩) N N))) rfl ?_;exact ⟨⟨b, rfl, by omega, hrm.setMat hIr.out.res (i : Int) (c : Int) _ _ _⟩, ((hIr.out.bel.setCell (p := ⟨w.heap.size, 0, none⟩) (Nat.le_refl _) _).setCell (p := ⟨w.heap.size, 1, none⟩) (Nat.le_refl _) _).setCell (p := ⟨w.heap.size, 2, none⟩) (Nat.le_refl _) _⟩
theorem results_mat_err {fn : Func} {p q : Tmp} (h : fn.results = #[.cell p 24, .tmp q]) (tmps : Array Value) (w : World) (g : Nat) (a b c : Value) (hp : tmps.getD p undef = .pointer (some ⟨g, 0, none⟩)) (hr : RowAt w g 24 [a, b, c]) :
 (results fn tmps).run Tryz.prog w = .ok (.tuple #[.agg #[a, b, c], tmps.getD q undef]) w := results_mat_tmp h tmps w g a b c hp hr
theorem RowN.lsAt {w : World} {b : Nat} {xs : List Int} (h : RowN w b xs) {L : Nat} (hL : ∀ x ∈ xs, wlen x.natAbs <= L) : LsAt w L (some ⟨b, 0, none⟩) xs := by
 intro _;refine ⟨b, 0, rfl, h.lt, fun i hi => ?_⟩;obtain ⟨p, h0, h1, hn⟩ := h.get hi;exact ⟨p, by simpa using h0, by simpa using h1, hn.int (hL _ (List.getElem_mem hi))⟩
theorem MatN.rowsAt {w : World} {o : Nat} {R : List Hd} (h : MatN w o R) {L : Nat} (hL : ∀ r ∈ R, ∀ x ∈ r.xs, wlen x.natAbs <= L) (k : Nat) (hk : k <= R.length) : RowsAt w L o ((R.take k).map Hd.xs) := by
 refine ⟨h.lt, fun i hi => ?_⟩;have hi' : i < R.length := by simp at hi; omega
 have hm : R[i] ∈ R := List.getElem_mem hi';refine ⟨some ⟨R[i].blk, 0, none⟩, R[i].cap, ?_, ?_⟩
 · rw [h.hdr hi'];simp [Hd.hdr]
 · have := (h.row _ hm).lsAt (hL _ hm);simpa using this
theorem ent_words {R : List Hd} {D : Nat} (h : ∀ i b, (ent R i b).natAbs < W ^ D) : ∀ r ∈ R, ∀ x ∈ r.xs, wlen x.natAbs <= D := by
 intro r hr x hx;obtain ⟨i, hi, rfl⟩ := List.getElem_of_mem hr;obtain ⟨j, hj, rfl⟩ := List.getElem_of_mem hx;have := h i j;rw [ent_get hi, gd_lt _ _ hj] at this;exact wlen_le_of_lt this
abbrev hW (m : Nat) : Nat := hermW 66 m
set_option maxRecDepth 100000 in
set_option maxHeartbeats 4000000 in
theorem Form_c (r c m : Nat) (ao : Option Addr) (len cap : Nat) (xs : List Int) (w : World) (hr : r <= 64) (hc : c <= 64) (h : LsAt w 17592186044415 ao xs) (hm : ∀ x ∈ xs, x.natAbs < W ^ m) (hm1 : m <= 140000000) (hl : len = xs.length) (hs : xs.length = r * c) :
 Calls Tryz.prog 30 #[.agg #[.int .i64 (r : Int), .int .i64 (c : Int), .slice ao len cap]] w fun e w' => (∃ b hs k l, e = .returned (.tuple #[.agg #[.int .i64 (r : Int), .int .i64 (c : Int), .slice (some ⟨b, 0, none⟩) (r * c) (r * c)], .int .i64 0]) /\ w.heap.size <= b /\ RowN w' b hs /\ IsHnf r c xs hs k l /\ ∀ x ∈ hs, x.natAbs < W ^ hW m) /\ Below w.heap.size w w' := by
 subst hl;have hlad : ladW 66 m <= 4000000000000 := by unfold ladW hermW; omega
 have hhw : hW m <= 17592186044415 := by unfold hW hermW; omega
 have hwl : ∀ x ∈ xs, wlen x.natAbs <= 17592186044415 := fun x hx => Nat.le_trans (wlen_le_of_lt (hm x hx)) (by omega);have HXS := Lib.hid h; clear h;have HLad := Lib.hid (And.intro hlad (And.intro hhw hwl)); clear hlad hhw hwl;have HMM := Lib.hid hm; clear hm;have hsnd : soundM (r : Int) (c : Int) xs.length = true := by
  unfold soundM sideOk;rw [hs]; simp; omega
 have HS := Lib.hid hs; clear hs;have HCK := Lib.hid (chkM_ok hsnd); clear hsnd;go_enter Tryz.func30, Tryz.ntmps30;go_wp2_with fail
 obtain ⟨r1, r2, hb⟩ := two_new w #[.int .i64 (r : Int), .int .i64 (c : Int), .slice ao xs.length cap] #[.int .i64 0, .int .i64 0, .slice none 0 0] 24 24;generalize (w.alloc (.cells #[.int .i64 (r : Int), .int .i64 (c : Int), .slice ao xs.length cap] 24)).alloc (.cells #[.int .i64 0, .int .i64 0, .slice none 0 0] 24) = w2 at *;refine (Check_c (r : Int) (c : Int) ao xs.length cap _ (by omega) (by omega)).mono ?_;rintro e w3 ⟨rfl, hb3⟩;rw [HCK.out];have R1 := Lib.hid (r1.below hb3 r1.lt);have R2 := Lib.hid (r2.below hb3 r2.lt);have L3 := Lib.hid ((HXS.out.below hb).below hb3);have B3 := Lib.hid (hb.trans (hb3.mono hb.size));have hs2 : w.heap.size + 1 < w3.heap.size := R2.out.lt;have e0 : w3.cell? ⟨w.heap.size, 0, none⟩ = some (.int .i64 (r : Int)) := R1.out.cell 0;have e1 : w3.cell? ⟨w.heap.size, 1, none⟩ = some (.int .i64 (c : Int)) := R1.out.cell 1;have e2 : w3.cell? ⟨w.heap.size, 2, none⟩ = some (.slice ao xs.length cap) := R1.out.cell 2;clear r1 r2 hb hb3;go_wp2_with fail
 refine (callsIn_wide.1 (lines_c r c ao xs.length cap xs w3 hr hc L3.out HLad.out.2.2 rfl HS.out)).mono ?_;rintro e w4 ⟨⟨o, R, rfl, hM, hRl, hRx, hob, hRb⟩, hb4⟩;obtain ⟨hSh, hE⟩ := ent_rows hRl HS.out hRx;obtain ⟨k, R', hRed, hOk⟩ := reduce_ok (N := 66) (B := 4000000000000) (m := m) hSh (fun i b => by rw [hE]; exact matE_bound (pw_pos m) HMM.out i b) (by omega) (by omega) HLad.out.1;have hlR' : R'.length = r := hOk.len.trans hRl;obtain ⟨l, hH, hHb⟩ := hnf_of hRl hE hOk;have hred := reduced_c o r 4000000000000 c k R R' w4 hM (Nat.le_refl _) hRed (by omega) (by omega);rw [hRl] at hred;have HRed := Lib.hid hred; clear hred;have HOk := Lib.hid hOk; clear hOk;have HH := Lib.hid (And.intro hH hHb); clear hH hHb;have R14 := Lib.hid (R1.out.below hb4 R1.out.lt);have R24 := Lib.hid (R2.out.below hb4 R2.out.lt);have B4 := Lib.hid (B3.out.trans (hb4.mono B3.out.size));have HRb := Lib.hid (And.intro hob hRb);clear hRed hM hb4 e0 e1 e2 hSh hE hRx hob hRb R1 R2 L3 B3;rw [hRl];go_wp2_with fail
 refine HRed.out.mono ?_;rintro e w5 ⟨rfl, hM5, hC5⟩;rw [hlR'];have hown : ∀ q, (q = o ∨ ∃ x ∈ R, x.blk = q) -> w3.heap.size <= q := by
  rintro q (rfl | ⟨x, hx, rfl⟩)
  · exact HRb.out.1
  · exact HRb.out.2 x hx
 have hns : ∀ q, q < w3.heap.size -> ¬ (q = o ∨ ∃ x ∈ R, x.blk = q) := fun q hq h => by have := hown q h; omega
 have R15 := Lib.hid (hC5.row R14.out (hns _ (by omega)));have R25 := Lib.hid (hC5.row R24.out (hns _ hs2));have B5 : Hid (Below w.heap.size w w5) := Lib.hid (B4.out.trans (hC5.to_below (B := w.heap.size) (fun q hq => by have := hown q hq; omega) B4.out.size));have hrows := hM5.rowsAt (L := 17592186044415) (fun x hx y hy => Nat.le_trans (ent_words HOk.out.bd x hx y hy) HLad.out.2.1) r (by omega);rw [List.take_of_length_le (by omega)] at hrows;have HRows := Lib.hid hrows; clear hrows;have c1 : w5.cell? ⟨w.heap.size, 1, none⟩ = some (.int .i64 (c : Int)) := R15.out.cell 1;have hsh5 : ∀ x ∈ R'.map Hd.xs, x.length = c := fun x hx => by
  obtain ⟨q, hq, rfl⟩ := List.mem_map.1 hx; exact HOk.out.sh q hq
 clear hM5 hC5 R14 R24 B4 HRed hown hns;go_wp2_with fail
 refine (matrix_c o r r c (R'.map Hd.xs) w5 HRows.out (by rw [List.length_map, hlR']) hsh5 (by omega) (by omega)).mono ?_;rintro e w6 ⟨⟨b, rfl, hbb, hRb6⟩, hb6⟩;have R26 := Lib.hid (R25.out.below hb6 R25.out.lt);have B6 := Lib.hid (B5.out.trans (hb6.mono B5.out.size));have HR6 := Lib.hid hRb6;have hs5 : w.heap.size <= w5.heap.size := B5.out.size;clear hRb6 hb6 c1;have z0 := R26.out.cell 0;have z1 := R26.out.cell 1;have z2 := R26.out.cell 2;have y0 := R26.out.free 0;have y1 := R26.out.free 1;have y2 := R26.out.free 2;go_wp2;refine bodyPost_ret (results_mat_err (p := 2) (q := 3) (by kernel_rfl) _ _ (w.heap.size + 1) _ _ _ rfl (R26.out.set3 (.int .i64 (r : Int)) (.int .i64 (c : Int)) (.slice (some ⟨b, 0, none⟩) (r * c) (r * c)))) rfl ?_;exact ⟨⟨b, _, k, l, rfl, by omega, HR6.out.setMat R26.out (r : Int) (c : Int) _ _ _, HH.out.1, HH.out.2⟩, ((B6.out.setCell (p := ⟨w.heap.size + 1, 0, none⟩) (Nat.le_succ _) _).setCell (p := ⟨w.heap.size + 1, 1, none⟩) (Nat.le_succ _) _).setCell (p := ⟨w.heap.size + 1, 2, none⟩) (Nat.le_succ _) _⟩
end Go.Proofs.YtcpjoiffkniccaaGreat
