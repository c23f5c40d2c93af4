/- Part 7 of 7 of the proof that the law HnfRest returns true for every input of bulk at most 1048576 and leaves its arguments as they were: the law itself. -/
import Derived.Test.YtknkkceioockjaaGreatPrF
set_option linter.all false
namespace Go.Proofs.YtknkkceioockjaaGreat
open Go.RowKit
theorem Pvs.len {r c : Nat} {E : Nat -> Nat -> Int} {ls : List Nat} (h : Pvs r c E ls) : ls.length <= r := by
 obtain ⟨i, hi, hp, _⟩ := h;rw [hp.len]; exact hi
theorem Pvs.ech {r c : Nat} {E : Nat -> Nat -> Int} {ls : List Nat} (h : Pvs r c E ls) : Herm ls.length c E (fun a => ls.getD a 0) := by
 obtain ⟨i, hi, hp, _⟩ := h;rw [hp.len]; exact hp.herm
theorem getD_set {xs : List Int} {k : Nat} (hk : k < xs.length) (x : Int) (b : Nat) : (xs.set k x).getD b 0 = if b = k then x else xs.getD b 0 := by
 rw [List.getD_eq_getElem?_getD, List.getD_eq_getElem?_getD, List.getElem?_set];by_cases e : b = k
 · subst e; simp [hk]
 · rw [if_neg (fun h => e h.symm), if_neg e]
set_option maxRecDepth 100000 in
set_option maxHeartbeats 4000000 in
theorem HRedBad_c (r c : Nat) (ao : Option Addr) (len cap : Nat) (xs : List Int) (av_ : Option Addr) (lv kv : Nat) (w : World) (hr : r <= 64) (hc : c <= 64) (hl : len = xs.length) (hs : xs.length = r * c) (hb : lv ≠ c) :
 Calls Tryz.prog 31 #[.agg #[.int .i64 (r : Int), .int .i64 (c : Int), .slice ao len cap], .slice av_ lv kv] w fun e w' => e = .returned (.tuple #[.slice none 0 0, .slice none 0 0, .int .i64 2]) /\ Below w.heap.size w w' := by
 have b_0 : Hid (Below w.heap.size w w) := Lib.hid (Below.refl _ _);have HO := Lib.hid (fun w2 => Open_bad r c ao len cap xs av_ lv kv w2 hr hc hl hs hb);clear hl hs hb;go_enter Tryz.func31, Tryz.ntmps31;have r_ := RowAt.new w #[.int .i64 (r : Int), .int .i64 (c : Int), .slice ao len cap] 24;have hb_ : Below w.heap.size w (w.alloc (.cells #[.int .i64 (r : Int), .int .i64 (c : Int), .slice ao len cap] 24)) := (Below.refl _ _).alloc (Nat.le_refl _) _;go_wp2_with fail
 generalize w.alloc (.cells #[.int .i64 (r : Int), .int .i64 (c : Int), .slice ao len cap] 24) = w1 at *;have b_1 := Lib.hid (b_0.out.trans (Below.mono hb_ b_0.out.size));have sz_1 := (hb_).size;clear b_0;have A_1 : Hid (RowAt w1 (w.heap.size) 24 [.int .i64 (r : Int), .int .i64 (c : Int), .slice ao len cap]) := Lib.hid (r_);clear r_ hb_;refine (HO.out w1).mono ?_;rintro e w2 ⟨rfl, hb_⟩;have A_2 := Lib.hid (RowAt.below (w := w1) A_1.out (hb_) A_1.out.lt);have b_2 := Lib.hid (b_1.out.trans (Below.mono hb_ b_1.out.size));have sz_2 := (hb_).size;clear A_1 b_1;clear hb_;go_wp2;go_ret3;exact ⟨rfl, b_2.out⟩
set_option maxRecDepth 100000 in
set_option maxHeartbeats 8000000 in
theorem HReduce_c (r c m mv : Nat) (ao : Option Addr) (len cap : Nat) (xs : List Int) (av_ : Option Addr) (kv : Nat) (vs : List Int) (w : World) (hr : r <= 64) (hc : c <= 64) (h : LsAt w m ao xs) (hm : ∀ x ∈ xs, x.natAbs < W ^ m) (hl : len = xs.length) (hs : xs.length = r * c) (hF : HF r c (matE xs r c))
 (hv : LsAt w 17592186044415 av_ vs) (hvl : vs.length = c) (hvm : ∀ x ∈ vs, x.natAbs < W ^ mv) (hmm : mv + 64 * (m + 1) + m <= 8796093022208) :
 Calls Tryz.prog 31 #[.agg #[.int .i64 (r : Int), .int .i64 (c : Int), .slice ao len cap], .slice av_ c kv] w fun e w' => (∃ b1 b2 ls zs cs, e = .returned (.tuple #[.slice (some ⟨b1, 0, none⟩) c c, .slice (some ⟨b2, 0, none⟩) r r, .int .i64 0]) /\ w.heap.size <= b1 /\ w.heap.size <= b2 /\ RowN w' b1 zs /\ RowN w' b2 cs /\ Pvs r c (matE xs r c) ls /\ RestIs r c (matE xs r c) ls (fun b => vs.getD b 0) zs cs) /\ Below w.heap.size w w' := by
 subst hl;have hxw : ∀ x ∈ xs, wlen x.natAbs <= m := fun x hx => wlen_le_of_lt (hm x hx);have HO := Lib.hid (fun w2 (h2 : LsAt w2 17592186044415 ao xs) => Open_c r c m ao xs.length cap xs av_ kv w2 hr hc h2 hxw (by omega) rfl hs hF);have HXW := Lib.hid (And.intro hm hxw);have HVW := Lib.hid (And.intro hvm hvl);have HMM := Lib.hid hmm;have HS := Lib.hid hs;clear hm hxw hvm hmm hs hF;have HX_0 : Hid (LsAt w m ao xs) := Lib.hid (h);have HV_0 : Hid (LsAt w 17592186044415 av_ vs) := Lib.hid (hv);have b_0 : Hid (Below w.heap.size w w) := Lib.hid (Below.refl _ _);clear h hv;go_enter Tryz.func31, Tryz.ntmps31;have r_ := RowAt.new w #[.int .i64 (r : Int), .int .i64 (c : Int), .slice ao xs.length cap] 24;have hb_ : Below w.heap.size w (w.alloc (.cells #[.int .i64 (r : Int), .int .i64 (c : Int), .slice ao xs.length cap] 24)) := (Below.refl _ _).alloc (Nat.le_refl _) _;go_wp2_with fail
 generalize w.alloc (.cells #[.int .i64 (r : Int), .int .i64 (c : Int), .slice ao xs.length cap] 24) = w1 at *;have HX_1 := Lib.hid (LsAt.below (w := w) HX_0.out (hb_));have HV_1 := Lib.hid (LsAt.below (w := w) HV_0.out (hb_));have b_1 := Lib.hid (b_0.out.trans (Below.mono hb_ b_0.out.size));have sz_1 := (hb_).size;clear HX_0 HV_0 b_0;have A_1 : Hid (RowAt w1 (w.heap.size) 24 [.int .i64 (r : Int), .int .i64 (c : Int), .slice ao xs.length cap]) := Lib.hid (r_);clear r_ hb_;refine (HO.out w1 (HX_1.out.up (by have := HMM.out; omega))).mono ?_;rintro e w3 ⟨⟨pv, ls, rfl, hP, hOw⟩, hb_⟩;have HX_2 := Lib.hid (LsAt.below (w := w1) HX_1.out (hb_));have HV_2 := Lib.hid (LsAt.below (w := w1) HV_1.out (hb_));have A_2 := Lib.hid (RowAt.below (w := w1) A_1.out (hb_) A_1.out.lt);have b_2 := Lib.hid (b_1.out.trans (Below.mono hb_ b_1.out.size));have sz_2 := (hb_).size;clear HX_1 HV_1 A_1 b_1;clear hb_;obtain ⟨ap, kp, rfl, hpc⟩ := own_form hOw;have HPv := Lib.hid hP;have HPc := Lib.hid hpc;have HA := A_2;have hal : w.heap.size < w3.heap.size := HA.out.lt;have hll := hP.len;clear hP hOw hpc HO;go_wp2_with (at_make; refine mk_nums rfl _ _ rfl c c rfl rfl (by omega) (by omega) (Nat.le_refl _) (by omega) ?_; intro b1 w4 hm4)
 have hb1 : w3.heap.size <= b1 := by have := hm4.at_; omega
 have R4 := Lib.hid (RowN.zeros hm4.row);have B4 := Lib.hid hm4.below;have hvl1 := HVW.out.2;clear hm4;go_wp2;go_loopw [29] (fun i_ wr => ∃ (k : Nat) (zs : List Int), k <= c /\ i_ = .int .i64 (k : Int) /\ Hid (zs.length = c) /\ Hid (∀ b, b < k -> zs.getD b 0 = vs.getD b 0) /\ Hid (RowN wr b1 zs) /\ Hid (Below w3.heap.size w3 wr)) (fun i_ _ => c - (intOf i_).toNat)
 case atStart => exact ⟨0, _, Nat.zero_le _, rfl, Lib.hid (by simp), Lib.hid (fun b h => by omega), R4, B4⟩
 case round =>
  obtain ⟨k, zs, hk, rfl, hzl, hz, hX, hB⟩ := hrel;by_cases hkc : k < c
  · have hkx : k < zs.length := by rw [hzl.out]; exact hkc
    have hkv : k < vs.length := by rw [HVW.out.2]; exact hkc
    have hk2 : (k : Int) < (c : Int) := by omega
    obtain ⟨ab, aoff, hao, hab, hcells⟩ := (HV_2.out.below hB.out) (by omega);subst hao;obtain ⟨px, cx0, cx1, hnx⟩ := hcells k hkv;have hve : vs[k] = vs.getD k 0 := by rw [List.getD_eq_getElem?_getD, List.getElem?_eq_getElem hkv]; rfl
    rw [hve] at hnx;have Hnx := Lib.hid hnx; clear hnx hcells hve hvl1;go_wp2_with fail
    clear cx0 cx1;refine (ILeast_c _ (vs.getD k 0) _ Hnx.out).mono ?_;rintro e w5 ⟨⟨vz, rfl, hvz⟩, hb5⟩;obtain ⟨pz, rfl⟩ := NumAt.parts hvz.num;have X5 := Lib.hid (hX.out.below hb5);have B5 := Lib.hid (hB.out.trans (hb5.mono hB.out.size));have Z5 := Lib.hid hvz.num;clear hvz hb5 hX hB Hnx;unfold av at *;obtain ⟨pq, q0, q1, _⟩ := X5.out.get hkx;have q2 := X5.out.free (k * 2);have q3 := X5.out.free (k * 2 + 1);go_wp2;clear q0 q1 q2 q3;go_roundw
    case rel =>
     have hBf := (B5.out.setCell (p := ⟨b1, k * 2, none⟩) hb1 (.bool pz.1)).setCell (p := ⟨b1, k * 2 + 1, none⟩) hb1 (.slice pz.2.1 pz.2.2.1 pz.2.2.2);refine ⟨k + 1, zs.set k (vs.getD k 0), by omega, by go_num, Lib.hid (by simpa using hzl.out), Lib.hid (fun b hb => ?_), Lib.hid (X5.out.set k (p := pz) Z5.out), Lib.hid hBf⟩;rw [getD_set hkx];split
     · rename_i e; rw [e]
     · exact hz.out b (by omega)
    case measure => simp [intOf]; omega
  · obtain rfl : k = c := by omega
    have HA4 := Lib.hid (RowAt.below HA.out hB.out HA.out.lt);have c0 := HA4.out.cell 0;simp only [List.getElem?_cons_zero] at c0;have hbs4 := hB.out.size;have hb1l : b1 < wr.heap.size := hX.out.lt;go_wp2_with (at_make; refine mk_nums rfl _ _ rfl r r rfl rfl (by omega) (by omega) (Nat.le_refl _) (by omega) ?_; intro b2 w6 hm6)
    have hb2 : wr.heap.size <= b2 := by have := hm6.at_; omega
    have R6 := Lib.hid (RowN.zeros hm6.row);have X6 := Lib.hid (hX.out.below hm6.below);have B6 := Lib.hid (hB.out.trans (hm6.below.mono hB.out.size));have hb12 : b1 ≠ b2 := by omega
    clear c0 HA4 hm6 hX hB R4 B4;go_wp2;go_loopw [46] (fun i_ wq => ∃ (i : Nat) (zs : List Int) (cs : List Int), i <= ls.length /\ i_ = .int .i64 (i : Int) /\ Hid (zs.length = k) /\ Hid (cs.length = r) /\ Hid (∀ b, b < k -> zs.getD b 0 = rsN (matE xs r k) (fun a => ls.getD a 0) (fun b => vs.getD b 0) i b) /\ Hid (∀ a, a < r -> cs.getD a 0 = if a < i then rsQ (matE xs r k) (fun a => ls.getD a 0) (fun b => vs.getD b 0) a else 0) /\ Hid (RowN wq b1 zs) /\ Hid (RowN wq b2 cs) /\ Hid (Below w3.heap.size w3 wq)) (fun i_ _ => ls.length - (intOf i_).toNat)
    case atStart => exact ⟨0, zs, _, Nat.zero_le _, rfl, hzl, Lib.hid (by simp), Lib.hid (fun b hb => hz.out b hb), Lib.hid (fun a ha => by rw [if_neg (by omega), List.getD_eq_getElem?_getD, List.getElem?_replicate]; split <;> rfl), X6, R6, B6⟩
    case round =>
     obtain ⟨i, zs, cs, hi, rfl, hzl, hcl, hz, hcz, hX, hY, hB⟩ := hrel;by_cases hin : i < ls.length
     · have hin1 : (i : Int) < (ls.length : Int) := by omega
       obtain ⟨g, hap, hgl, hgc⟩ := HPc.out (by omega);subst hap;have hir : i < r := by omega
       obtain ⟨j, hj⟩ : ∃ j, ls.getD i 0 = j := ⟨_, rfl⟩;have d0 : wr.cell? ⟨g, i, none⟩ = some (.int .i64 (j : Int)) := by rw [hB.out.cell (p := ⟨g, i, none⟩) hgl, hgc i hin, hj]
       have hE := HPv.out.ech;have hjk : j < k := by have := hE.lt i hin; rw [<- hj]; exact this
       have hpos : 0 < matE xs r k i j := by have := hE.pos i hin; rw [<- hj]; exact this
       obtain ⟨qq, hq⟩ : ∃ q, rsQ (matE xs r k) (fun a => ls.getD a 0) (fun b => vs.getD b 0) i = q := ⟨_, rfl⟩;obtain ⟨xi, hxi⟩ : ∃ x, rsN (matE xs r k) (fun a => ls.getD a 0) (fun b => vs.getD b 0) i j = x := ⟨_, rfl⟩;obtain ⟨xk, hxk⟩ : ∃ x, matE xs r k i j = x := ⟨_, rfl⟩;have hqe : xi.fdiv xk = qq := by rw [<- hq, <- hxi, <- hxk, <- hj]; rfl
       have hbd : ∀ b, b < k -> (rsN (matE xs r k) (fun a => ls.getD a 0) (fun b => vs.getD b 0) i b).natAbs < W ^ (mv + 64 * (m + 1)) := fun b hb => Nat.lt_of_lt_of_le
        (rsN_bd (m := m) (k := mv) hE.toEch (fun a b _ _ => matE_bound (Nat.pow_pos (by decide)) HXW.out.1 a b) (fun b hb => by
         have hbv : b < vs.length := by rw [HVW.out.2]; exact hb
         rw [List.getD_eq_getElem?_getD, List.getElem?_eq_getElem hbv]; exact HVW.out.1 _ (List.getElem_mem hbv)) i (by omega) b hb)
        (Nat.pow_le_pow_right (by decide) (Nat.add_le_add_left (Nat.mul_le_mul_right _ (by omega)) _))
       have hqb : qq.natAbs < W ^ (mv + 64 * (m + 1)) := Nat.lt_of_le_of_lt (by rw [<- hqe, <- hxi]; exact fdiv_abs (by rw [<- hxk]; exact hpos)) (hbd j hjk);have HQ := Lib.hid (And.intro hj (And.intro hq (And.intro hxi (And.intro hxk (And.intro hqe (And.intro hbd (And.intro hqb hpos)))))));have hL1 : mv + 64 * (m + 1) + m <= 8796093022208 := HMM.out;obtain ⟨L0, hL0⟩ : ∃ L0, mv + 64 * (m + 1) = L0 := ⟨_, rfl⟩;rw [hL0] at hL1 hbd hqb;have HL0 := Lib.hid hL0;have hjz : j < zs.length := by rw [hzl.out]; exact hjk
       have hxz : zs[j] = xi := by have := hz.out j hjk; rw [List.getD_eq_getElem?_getD, List.getElem?_eq_getElem hjz] at this; rw [<- hxi]; exact this
       have hwi : wlen xi.natAbs <= L0 := by rw [<- hxi]; exact wlen_le_of_lt (hbd j hjk)
       have hQx : i * k + j < r * k := idx_lt hir hjk;have hrk : r * k <= 4096 := Nat.mul_le_mul hr hc;obtain ⟨bx, ox, hao, hbx, hxc⟩ := (HX_2.out) (by rw [HS.out]; omega);subst hao;have hmE : ∀ b (hb : b < k), xs[i * k + b]'(by rw [HS.out]; exact idx_lt hir hb) = matE xs r k i b := fun b hb => by
        rw [matE_eq hir hb, List.getD_eq_getElem?_getD, List.getElem?_eq_getElem (by rw [HS.out]; exact idx_lt hir hb)]; rfl
       obtain ⟨P, hPe⟩ : ∃ P, i * k = P := ⟨_, rfl⟩;have hw1 : IntKind.i64.wrap ((i : Int) * (k : Int)) = (P : Int) := by
        rw [<- Int.natCast_mul, hPe]; exact wrap_small (by omega) (by omega)
       obtain ⟨ph, h0, h1, hnh⟩ := hxc (i * k + j) (by rw [HS.out]; exact hQx);rw [hmE j hjk, hxk] at hnh;have hwk : wlen xk.natAbs <= m := by rw [<- hxk]; exact wlen_le_of_lt (matE_bound (Nat.pow_pos (by decide)) HXW.out.1 i j)
       have HPX := Lib.hid (And.intro hxc (And.intro hmE hPe));rw [hPe] at h0 h1 hQx;obtain ⟨Q1, hQ1⟩ : ∃ q, P + j = q := ⟨_, rfl⟩;rw [hQ1] at h0 h1 hQx;have hv1 : IntKind.i64.wrap ((P : Int) + (j : Int)) = (Q1 : Int) := by
        rw [<- Int.natCast_add, hQ1]; exact wrap_small (by omega) (by omega)
       have hxl1 : (Q1 : Int) < (xs.length : Int) := by rw [HS.out]; omega
       have hjk1 : (j : Int) < (k : Int) := by omega
       have hbx3 : bx < wr.heap.size := Nat.lt_of_lt_of_le hbx hB.out.size;obtain ⟨pi, ci0, ci1, hni⟩ := hX.out.get hjz;rw [hxz] at hni;have Hni := Lib.hid (hni.int (L := 17592186044415) (by omega));have Hnh := Lib.hid ((hnh.below hB.out).mono (L' := 17592186044415) (by omega));have Hpz := Lib.hid (show xk ≠ 0 by omega);have ck0 := (hB.out.cell (p := ⟨bx, ox + Q1 * 2, none⟩) hbx).trans h0;have ck1 := (hB.out.cell (p := ⟨bx, ox + Q1 * 2 + 1, none⟩) hbx).trans h1;have A1 := RowAt.below HA.out hB.out HA.out.lt;have ca1 : wr.cell? ⟨w.heap.size, 1, none⟩ = some (.int .i64 (k : Int)) := A1.cell 1;have ca2 : wr.cell? ⟨w.heap.size, 2, none⟩ = some (.slice (some ⟨bx, ox, none⟩) xs.length cap) := A1.cell 2;have hbz1 : b1 < wr.heap.size := hX.out.lt;have hbz2 : b2 < wr.heap.size := hY.out.lt;have hsz3 := hB.out.size;clear hj hq hxi hxk hqe hbd hqb hL0 hxz hxc hmE hPe hQ1 h0 h1 hnh hni hE A1 hpos hgc;go_wp2;clear d0;refine wp_region_J ⟨24, fun q_ => [52, 53, 54, 55, 56, 57, 58, 59, 60, 61, 62, 63, 64, 65, 66, 51, 67, 68, 69, 11, 12, 1021, 1022, 13].getD q_ 0,
        fun q_ => [.val (.slice (some ⟨b1, 0, none⟩) k k), .val (.int .i64 (j : Int)), .val (.pointer (some ⟨b1, j * 2, none⟩)), .val (.agg #[.bool pi.1, .slice pi.2.1 pi.2.2.1 pi.2.2.2]), .val (.pointer (some ⟨w.heap.size, 2, none⟩)), .val (.slice (some ⟨bx, ox, none⟩) xs.length cap), .val (.int .i64 (i : Int)), .val (.pointer (some ⟨w.heap.size, 1, none⟩)), .val (.int .i64 (k : Int)), .val (.int .i64 (P : Int)), .val (.int .i64 (j : Int)), .val (.int .i64 (Q1 : Int)), .val (.pointer (some ⟨bx, ox + Q1 * 2, none⟩)), .val (.agg #[.bool ph.1, .slice ph.2.1 ph.2.2.1 ph.2.2.2]), .tup2 0 (xi.fdiv xk) (xi.fmod xk), .tup2 0 (xi.fdiv xk) (xi.fmod xk), .int 0 (xi.fdiv xk), .int 0 (xi.fmod xk), .val (.int .i64 0), .ptr wr.heap.size 45 2, .ptr wr.heap.size 45 2, .any, .any, .val (.int .i64 0)].getD q_ .any,
        [],
        [(.agg #[.bool pi.1, .slice pi.2.1 pi.2.2.1 pi.2.2.2], .at_ 17592186044415 xi), (.agg #[.bool ph.1, .slice ph.2.1 ph.2.2.1 ph.2.2.2], .at_ 17592186044415 xk)],
        [],
        [(21, 11, 45, .int 0 (xi.fdiv xk)), (22, 12, 45, .int 0 (xi.fmod xk))], [(⟨w.heap.size, 1, none⟩, .int .i64 (k : Int)), (⟨w.heap.size, 2, none⟩, .slice (some ⟨bx, ox, none⟩) xs.length cap), (⟨b1, j * 2, none⟩, .bool pi.1), (⟨b1, j * 2 + 1, none⟩, .slice pi.2.1 pi.2.2.1 pi.2.2.2), (⟨bx, ox + Q1 * 2, none⟩, .bool ph.1), (⟨bx, ox + Q1 * 2 + 1, none⟩, .slice ph.2.1 ph.2.2.1 ph.2.2.2)], [(19, 11), (20, 12)]⟩ [52, 53, 54, 55, 56, 57, 58, 59, 60, 61, 62, 63, 64, 65, 66, 51, 67, 68, 69, 11, 12, 13] (wr.heap.size) (by kernel_rfl) (by kernel_rfl) (by kernel_rfl) (by kernel_rfl) ?_ ?_ ?_ ?_ ?_ ?_
       · intro p hp;rcases mc hp with rfl | hp
         · exact Hni.out
         rcases mc hp with rfl | hp
         · exact Hnh.out
         cases hp
       · intro p hp;cases hp
       · intro p hp;rcases mc hp with rfl | hp
         · refine ⟨ca1, by show w.heap.size < wr.heap.size; omega, ?_⟩;intro t ht;cases ht
         rcases mc hp with rfl | hp
         · refine ⟨ca2, by show w.heap.size < wr.heap.size; omega, ?_⟩;intro t ht;cases ht
         rcases mc hp with rfl | hp
         · refine ⟨ci0, by show b1 < wr.heap.size; omega, ?_⟩;intro t ht;cases ht
         rcases mc hp with rfl | hp
         · refine ⟨ci1, by show b1 < wr.heap.size; omega, ?_⟩;intro t ht;cases ht
         rcases mc hp with rfl | hp
         · refine ⟨ck0, by show bx < wr.heap.size; omega, ?_⟩;intro t ht;cases ht
         rcases mc hp with rfl | hp
         · refine ⟨ck1, by show bx < wr.heap.size; omega, ?_⟩;intro t ht;cases ht
         cases hp
       · intro t ht;cases ht
       · refine allc ?_ (allc ?_ (allc ?_ (allc ?_ (allc ?_ (allc ?_ (allc ?_ (allc ?_ (allc ?_ (allc ?_ (allc ?_ (allc ?_ (allc ?_ (allc ?_ (allc ?_ (allc ?_ (allc ?_ (allc ?_ (allc ?_ (allc ?_ (allc ?_ (allc ?_ (allc ?_ (allc ?_ alln)))))))))))))))))))))));any_goals (first | (intro L fx w' hJ hL hp hcl; have _ := hp0 hp (by decide +kernel); refine wps rfl fun K hK => ?_; go_simp; exact hJ.q hK (by kernel_rfl) rfl) | fail)
         · intro L fx w' hJ hL hp hcl;have e0 := hJ.pt 0 52 (.slice (some ⟨b1, 0, none⟩) k k) rfl rfl rfl (hp 0 (by decide));rw [e0] at hJ ⊢; clear e0;have e1 := hJ.pt 1 53 (.int .i64 (j : Int)) rfl rfl rfl (hp 1 (by decide));rw [e1] at hJ ⊢; clear e1;refine wps rfl fun K hK => ?_;go_simp;exact hJ.q hK (by kernel_rfl) rfl
         · intro L fx w' hJ hL hp hcl;have e2 := hJ.pt 2 54 (.pointer (some ⟨b1, j * 2, none⟩)) rfl rfl rfl (hp 2 (by decide));rw [e2] at hJ ⊢; clear e2;refine wps rfl fun K hK => ?_;have cl0 := (hJ.cells _ mm2).1;have cl1 := (hJ.cells _ mm3).1;try dsimp only at cl0 cl1
           go_simp;exact hJ.q hK (by kernel_rfl) rfl
         · intro L fx w' hJ hL hp hcl;have e4 := hJ.pt 4 56 (.pointer (some ⟨w.heap.size, 2, none⟩)) rfl rfl rfl (hp 4 (by decide));rw [e4] at hJ ⊢; clear e4;refine wps rfl fun K hK => ?_;have cl0 := (hJ.cells _ mm1).1;try dsimp only at cl0
           go_simp;exact hJ.q hK (by kernel_rfl) rfl
         · intro L fx w' hJ hL hp hcl;have e7 := hJ.pt 7 59 (.pointer (some ⟨w.heap.size, 1, none⟩)) rfl rfl rfl (hp 7 (by decide));rw [e7] at hJ ⊢; clear e7;refine wps rfl fun K hK => ?_;have cl0 := (hJ.cells _ mm0).1;try dsimp only at cl0
           go_simp;exact hJ.q hK (by kernel_rfl) rfl
         · intro L fx w' hJ hL hp hcl;have e6 := hJ.pt 6 58 (.int .i64 (i : Int)) rfl rfl rfl (hp 6 (by decide));rw [e6] at hJ ⊢; clear e6;have e8 := hJ.pt 8 60 (.int .i64 (k : Int)) rfl rfl rfl (hp 8 (by decide));rw [e8] at hJ ⊢; clear e8;refine wps rfl fun K hK => ?_;go_simp;exact hJ.q hK (by kernel_rfl) rfl
         · intro L fx w' hJ hL hp hcl;have e9 := hJ.pt 9 61 (.int .i64 (P : Int)) rfl rfl rfl (hp 9 (by decide));rw [e9] at hJ ⊢; clear e9;have e10 := hJ.pt 10 62 (.int .i64 (j : Int)) rfl rfl rfl (hp 10 (by decide));rw [e10] at hJ ⊢; clear e10;refine wps rfl fun K hK => ?_;go_simp;exact hJ.q hK (by kernel_rfl) rfl
         · intro L fx w' hJ hL hp hcl;have e5 := hJ.pt 5 57 (.slice (some ⟨bx, ox, none⟩) xs.length cap) rfl rfl rfl (hp 5 (by decide));rw [e5] at hJ ⊢; clear e5;have e11 := hJ.pt 11 63 (.int .i64 (Q1 : Int)) rfl rfl rfl (hp 11 (by decide));rw [e11] at hJ ⊢; clear e11;refine wps rfl fun K hK => ?_;go_simp;exact hJ.q hK (by kernel_rfl) rfl
         · intro L fx w' hJ hL hp hcl;have e12 := hJ.pt 12 64 (.pointer (some ⟨bx, ox + Q1 * 2, none⟩)) rfl rfl rfl (hp 12 (by decide));rw [e12] at hJ ⊢; clear e12;refine wps rfl fun K hK => ?_;have cl0 := (hJ.cells _ mm4).1;have cl1 := (hJ.cells _ mm5).1;try dsimp only at cl0 cl1
           go_simp;exact hJ.q hK (by kernel_rfl) rfl
         · intro L fx w' hJ hL hp hcl;have e3 := hJ.pt 3 55 (.agg #[.bool pi.1, .slice pi.2.1 pi.2.2.1 pi.2.2.2]) rfl rfl rfl (hp 3 (by decide));rw [e3] at hJ ⊢; clear e3;have e13 := hJ.pt 13 65 (.agg #[.bool ph.1, .slice ph.2.1 ph.2.2.1 ph.2.2.2]) rfl rfl rfl (hp 13 (by decide));rw [e13] at hJ ⊢; clear e13;refine wps rfl fun K hK => ?_;go_simp;go_at_call 70;refine (IFloor_c _ _ xi xk _ (show IntAt w' _ _ _ from hJ.base _ mm0) (show IntAt w' _ _ _ from hJ.base _ mm1) Hpz.out).mono ?_;rintro e w4 ⟨⟨v5, v6, rfl, h5, h6⟩, hb4⟩;try dsimp only
           exact hK _ _ ⟨_, by kernel_rfl, hJ.gC 14 rfl (by kernel_rfl) hb4 ⟨_, _, rfl, OwnI.mono h5 (Nat.zero_le _), OwnI.mono h6 (Nat.zero_le _)⟩ (by omega)⟩
         · intro L fx w' hJ hL hp hcl;have e14 := hJ.slot 14 (by show 14 < 24; decide) (hp 14 (by decide));refine wps rfl fun K hK => ?_;go_simp;exact hJ.q hK (by kernel_rfl) e14
         · intro L fx w' hJ hL hp hcl;have e15 := hJ.slot 15 (by show 15 < 24; decide) (hp 15 (by decide));obtain ⟨vq, vr, hvt, hq1, hr1⟩ := e15;rw [patchX (x := fx) (d := 51) (v := (.tuple #[vq, vr, .int .i64 0])) hvt] at hJ ⊢;refine wps rfl fun K hK => ?_;go_simp;exact hJ.q hK (by kernel_rfl) hq1
         · intro L fx w' hJ hL hp hcl;have e15 := hJ.slot 15 (by show 15 < 24; decide) (hp 15 (by decide));obtain ⟨vq, vr, hvt, hq1, hr1⟩ := e15;rw [patchX (x := fx) (d := 51) (v := (.tuple #[vq, vr, .int .i64 0])) hvt] at hJ ⊢;refine wps rfl fun K hK => ?_;go_simp;exact hJ.q hK (by kernel_rfl) hr1
         · intro L fx w' hJ hL hp hcl;have e15 := hJ.slot 15 (by show 15 < 24; decide) (hp 15 (by decide));obtain ⟨vq, vr, hvt, hq1, hr1⟩ := e15;rw [patchX (x := fx) (d := 51) (v := (.tuple #[vq, vr, .int .i64 0])) hvt] at hJ ⊢;refine wps rfl fun K hK => ?_;go_simp;exact hJ.q hK (by kernel_rfl) rfl
         · intro L fx w' hJ hL hp hcl;have hg0 : wr.heap.size <= w'.heap.size := Nat.le_trans (by omega : wr.heap.size <= wr.heap.size) hJ.size;refine wps rfl fun K hK => ?_;go_simp;exact hK _ _ ⟨_, by kernel_rfl, hJ.grow 19 (by show 19 < 24; decide) _ (by kernel_rfl) (by kernel_rfl) (by intro t ht; rcases mc ht with rfl | ht; exact ⟨by show 21 ≠ 19; decide, fun _ => by cases hh : L 21 with | false => rfl | true => have := hcl 21 (by show 21 < 24; decide) hh 19 (by decide); rw [hL] at this; cases this⟩; rcases mc ht with rfl | ht; exact ⟨by show 22 ≠ 19; decide, fun h => absurd (show 12 = 11 from h) (by decide)⟩; cases ht) (by intro p hp; rcases mc hp with rfl | hp; exact ⟨⟨fun _ => rfl, fun _ => rfl⟩, fun _ q hq hne hLq => (by rcases mc hq with rfl | hq; exact absurd rfl hne; rcases mc hq with rfl | hq; (obtain ⟨g9, cs9, hx9, _, hr9, _⟩ := hJ.slot 20 (by show 20 < 24; decide) hLq; have hx9 : fx 12 = _ := hx9; show _ ≠ fx 12; rw [hx9]; intro e9; injection e9 with e9; injection e9 with e9; injection e9 with e9; exact absurd e9 (Nat.ne_of_gt hr9.lt)); cases hq)⟩; rcases mc hp with rfl | hp; exact ⟨⟨fun h => absurd (show 20 = 19 from h) (by decide), fun h => absurd (show 12 = 11 from h) (by decide)⟩, fun h => absurd (show 20 = 19 from h) (by decide)⟩; cases hp) ((Below.refl _ _).alloc (Nat.le_refl _) _) ⟨w'.heap.size, _, rfl, hJ.size, RowAt.new _ _ _, NoW.two _ _ _ _, rfl⟩ hg0⟩
         · intro L fx w' hJ hL hp hcl;have hg0 : wr.heap.size <= w'.heap.size := Nat.le_trans (by omega : wr.heap.size <= wr.heap.size) hJ.size;refine wps rfl fun K hK => ?_;go_simp;exact hK _ _ ⟨_, by kernel_rfl, hJ.grow 20 (by show 20 < 24; decide) _ (by kernel_rfl) (by kernel_rfl) (by intro t ht; rcases mc ht with rfl | ht; exact ⟨by show 21 ≠ 20; decide, fun h => absurd (show 11 = 12 from h) (by decide)⟩; rcases mc ht with rfl | ht; exact ⟨by show 22 ≠ 20; decide, fun _ => by cases hh : L 22 with | false => rfl | true => have := hcl 22 (by show 22 < 24; decide) hh 20 (by decide); rw [hL] at this; cases this⟩; cases ht) (by intro p hp; rcases mc hp with rfl | hp; exact ⟨⟨fun h => absurd (show 19 = 20 from h) (by decide), fun h => absurd (show 11 = 12 from h) (by decide)⟩, fun h => absurd (show 19 = 20 from h) (by decide)⟩; rcases mc hp with rfl | hp; exact ⟨⟨fun _ => rfl, fun _ => rfl⟩, fun _ q hq hne hLq => (by rcases mc hq with rfl | hq; (obtain ⟨g9, cs9, hx9, _, hr9, _⟩ := hJ.slot 19 (by show 19 < 24; decide) hLq; have hx9 : fx 11 = _ := hx9; show _ ≠ fx 11; rw [hx9]; intro e9; injection e9 with e9; injection e9 with e9; injection e9 with e9; exact absurd e9 (Nat.ne_of_gt hr9.lt)); rcases mc hq with rfl | hq; exact absurd rfl hne; cases hq)⟩; cases hp) ((Below.refl _ _).alloc (Nat.le_refl _) _) ⟨w'.heap.size, _, rfl, hJ.size, RowAt.new _ _ _, NoW.two _ _ _ _, rfl⟩ hg0⟩
         · intro L fx w' hJ hL hp hcl;have e19 := hJ.slot 19 (by show 19 < 24; decide) (hp 19 (by decide));have e16 := hJ.slot 16 (by show 16 < 24; decide) (hp 16 (by decide));have e16' := e16;obtain ⟨b7, o7, l7, k7, hv0⟩ := OwnI.parts e16;rw [hv0] at e16';rw [patchX (x := fx) (d := 67) (v := (.agg #[.bool b7, .slice o7 l7 k7])) hv0] at hJ ⊢;obtain ⟨g, cs, hx, hgB, hr0, hn0, hl0⟩ := e19;obtain ⟨z0, z1, rfl⟩ : ∃ z0 z1, cs = [z0, z1] := list2 hl0;have hf0 := RowAt.free hr0 0;have hc0 := RowAt.cell hr0 0;have hf1 := RowAt.free hr0 1;have hc1 := RowAt.cell hr0 1;try dsimp only at hf0 hc0 hf1 hc1
           have hx1 := hx;rw [patchX (x := (updX fx 67 (.agg #[.bool b7, .slice o7 l7 k7]))) (d := 11) hx] at hJ ⊢;refine wps rfl fun K hK => ?_;go_simp;exact hK _ _ ⟨_, by kernel_rfl, hJ.storeNew (us := [.bool b7, .slice o7 l7 k7]) 21 11 _ _ (by show 21 < 24; decide) rfl mm0 (by intro t ht h; rcases mc ht with rfl | ht; rfl; rcases mc ht with rfl | ht; exact absurd (show 22 = 21 from h) (by decide); cases ht) (by intro t ht hne hLt; rcases mc ht with rfl | ht; exact absurd rfl hne; rcases mc ht with rfl | ht; exact hJ.apart (20, 12) mm1 (19, 11) mm0 (by show 20 ≠ 19; decide) (hcl 22 (by show 22 < 24; decide) hLt 20 (by decide)) (hp 19 (by decide)); cases ht) (by kernel_rfl) (by kernel_rfl) (by decide) (by rfl) hgB hr0 hn0 rfl (NoW.two _ _ _ _) ⟨_, _, _, _, rfl, e16'⟩ (by omega)⟩
         · intro L fx w' hJ hL hp hcl;have e20 := hJ.slot 20 (by show 20 < 24; decide) (hp 20 (by decide));have e17 := hJ.slot 17 (by show 17 < 24; decide) (hp 17 (by decide));have e17' := e17;obtain ⟨b7, o7, l7, k7, hv0⟩ := OwnI.parts e17;rw [hv0] at e17';rw [patchX (x := fx) (d := 68) (v := (.agg #[.bool b7, .slice o7 l7 k7])) hv0] at hJ ⊢;obtain ⟨g, cs, hx, hgB, hr0, hn0, hl0⟩ := e20;obtain ⟨z0, z1, rfl⟩ : ∃ z0 z1, cs = [z0, z1] := list2 hl0;have hf0 := RowAt.free hr0 0;have hc0 := RowAt.cell hr0 0;have hf1 := RowAt.free hr0 1;have hc1 := RowAt.cell hr0 1;try dsimp only at hf0 hc0 hf1 hc1
           have hx1 := hx;rw [patchX (x := (updX fx 68 (.agg #[.bool b7, .slice o7 l7 k7]))) (d := 12) hx] at hJ ⊢;refine wps rfl fun K hK => ?_;go_simp;exact hK _ _ ⟨_, by kernel_rfl, hJ.storeNew (us := [.bool b7, .slice o7 l7 k7]) 22 12 _ _ (by show 22 < 24; decide) rfl mm1 (by intro t ht h; rcases mc ht with rfl | ht; exact absurd (show 21 = 22 from h) (by decide); rcases mc ht with rfl | ht; rfl; cases ht) (by intro t ht hne hLt; rcases mc ht with rfl | ht; exact hJ.apart (19, 11) mm0 (20, 12) mm1 (by show 19 ≠ 20; decide) (hcl 21 (by show 21 < 24; decide) hLt 19 (by decide)) (hp 20 (by decide)); rcases mc ht with rfl | ht; exact absurd rfl hne; cases ht) (by kernel_rfl) (by kernel_rfl) (by decide) (by rfl) hgB hr0 hn0 rfl (NoW.two _ _ _ _) ⟨_, _, _, _, rfl, e17'⟩ (by omega)⟩
         · intro L fx w' hJ hL hp hcl;have e18 := hJ.pt 18 69 (.int .i64 0) rfl rfl rfl (hp 18 (by decide));rw [e18] at hJ ⊢; clear e18;refine wps rfl fun K hK => ?_;go_simp;exact hJ.q hK (by kernel_rfl) rfl
       · intro L x' w5 hL hJ;have hfr : Below wr.drew.heap.size wr.drew w5 := hJ.fr;obtain ⟨g9, cs9, hx9, hg9, hr9, b9, o9, l9, k9, hcs9, hI9⟩ := hJ.new _ mm0 (hL 21 (by show 21 < 24; decide));subst hcs9;have hx9 : x' 11 = _ := hx9;rw [patchX (x := x') (d := 11) hx9];have hg9 : wr.heap.size <= g9 := hg9;have I9 : OwnI w5 0 (.agg #[.bool b9, .slice o9 l9 k9]) (xi.fdiv xk) := hI9;rw [HQ.out.2.2.2.2.1] at I9;have N9 := Lib.hid I9.num;have G9 : Hid (RowAt w5 g9 45 [.bool b9, .slice o9 l9 k9]) := Lib.hid hr9;have hgl9 : g9 < w5.heap.size := hr9.lt;clear hJ hL hx9 hr9 hI9 I9 ca1 ca2 ci0 ci1 ck0 ck1;have X5 := Lib.hid (RowN.below (w := wr.drew) hX.out hfr);have Y5 := Lib.hid (RowN.below (w := wr.drew) hY.out hfr);have B5 := Lib.hid (hB.out.trans (((Below.refl w3.heap.size wr).drew).trans (hfr.mono hB.out.size)));clear hX hY hB;simp only [pN, Nat.reduceEqDiff, ↓reduceIte];have q0 : w5.cell? ⟨g9, 0, none⟩ = some (.bool b9) := G9.out.cell 0;have q1 : w5.cell? ⟨g9, 1, none⟩ = some (.slice o9 l9 k9) := G9.out.cell 1;have hic : i < cs.length := by rw [hcl.out]; exact hir
         have hir1 : (i : Int) < (r : Int) := by omega
         obtain ⟨pq, y0, y1, _⟩ := Y5.out.get hic;have y2 := Y5.out.free (i * 2);have y3 := Y5.out.free (i * 2 + 1);have hg92 : ¬ g9 = b2 := by omega
         have hg92' : ¬ b2 = g9 := by omega
         go_wp2;clear q0 q1 y0 y1 y2 y3;have Y6 := Lib.hid (Y5.out.set i (p := (b9, o9, l9, k9)) N9.out);have X6 := Lib.hid (Y5.out.keepRow X5.out hb12 i (b9, o9, l9, k9));have G6 := Lib.hid ((G9.out.other (p := ⟨b2, i * 2, none⟩) hg92 (.bool b9)).other (p := ⟨b2, i * 2 + 1, none⟩) hg92 (.slice o9 l9 k9));have N6 := Lib.hid (Y5.out.keepNum N9.out i (b9, o9, l9, k9));have B6 := Lib.hid ((B5.out.setCell (p := ⟨b2, i * 2, none⟩) (by show w3.heap.size <= b2; omega) (.bool b9)).setCell (p := ⟨b2, i * 2 + 1, none⟩) (by show w3.heap.size <= b2; omega) (.slice o9 l9 k9));have s6 : w5.heap.size = ((w5.setCell ⟨b2, i * 2, none⟩ (.bool b9)).setCell ⟨b2, i * 2 + 1, none⟩ (.slice o9 l9 k9)).heap.size := by simp
         generalize (w5.setCell ⟨b2, i * 2, none⟩ (.bool b9)).setCell ⟨b2, i * 2 + 1, none⟩ (.slice o9 l9 k9) = w6 at *;have hzl' := hzl.out;go_loopw [76] (fun k_ wq => ∃ (kk : Nat) (zz : List Int), kk <= k /\ k_ = .int .i64 (kk : Int) /\ Hid (zz.length = k) /\ Hid (∀ b, b < k -> zz.getD b 0 = if b < kk then rsN (matE xs r k) (fun a => ls.getD a 0) (fun b => vs.getD b 0) (i + 1) b else rsN (matE xs r k) (fun a => ls.getD a 0) (fun b => vs.getD b 0) i b) /\ Hid (RowN wq b1 zz) /\ Hid (RowN wq b2 (cs.set i qq)) /\ Hid (RowAt wq g9 45 [.bool b9, .slice o9 l9 k9]) /\ Hid (NumAt wq (.agg #[.bool b9, .slice o9 l9 k9]) qq) /\ Hid (Below w3.heap.size w3 wq)) (fun k_ _ => k - (intOf k_).toNat)
         case atStart => exact ⟨0, zs, Nat.zero_le _, rfl, hzl, Lib.hid (fun b hb => by rw [if_neg (by omega)]; exact hz.out b hb), X6, Y6, G6, N6, B6⟩
         case round =>
          obtain ⟨kk, zz, hkk, rfl, hzl2, hz2, hX2, hY2, hG2, hN2, hB2⟩ := hrel;by_cases hkk1 : kk < k
          · have hkz : kk < zz.length := by rw [hzl2.out]; exact hkk1
            have hkk2 : (kk : Int) < (k : Int) := by omega
            obtain ⟨xz, hxz⟩ : ∃ x, rsN (matE xs r k) (fun a => ls.getD a 0) (fun b => vs.getD b 0) i kk = x := ⟨_, rfl⟩;obtain ⟨xh, hxh⟩ : ∃ x, matE xs r k i kk = x := ⟨_, rfl⟩;have hzz : zz[kk] = xz := by have := hz2.out kk hkk1; rw [if_neg (by omega), List.getD_eq_getElem?_getD, List.getElem?_eq_getElem hkz] at this; rw [<- hxz]; exact this
            have hwz : wlen xz.natAbs <= L0 := by rw [<- hxz]; have := HQ.out.2.2.2.2.2.1 kk hkk1; rw [HL0.out] at this; exact wlen_le_of_lt this
            have hwq : wlen qq.natAbs <= L0 := by have := HQ.out.2.2.2.2.2.2.1; rw [HL0.out] at this; exact wlen_le_of_lt this
            have hwh : wlen xh.natAbs <= m := by rw [<- hxh]; exact wlen_le_of_lt (matE_bound (Nat.pow_pos (by decide)) HXW.out.1 i kk)
            have hwm : wlen (qq * xh).natAbs <= 17592186044415 := by rw [Int.natAbs_mul]; exact Nat.le_trans (wlen_mul _ _) (by omega)
            obtain ⟨ph2, h0, h1, hnh⟩ := HPX.out.1 (i * k + kk) (by rw [HS.out]; exact idx_lt hir hkk1);have hQ2 : i * k + kk < r * k := idx_lt hir hkk1;rw [HPX.out.2.1 kk hkk1, hxh] at hnh;rw [HPX.out.2.2] at h0 h1 hQ2;obtain ⟨Q2, hQ2e⟩ : ∃ q, P + kk = q := ⟨_, rfl⟩;rw [hQ2e] at h0 h1 hQ2;have hv2 : IntKind.i64.wrap ((P : Int) + (kk : Int)) = (Q2 : Int) := by
             rw [<- Int.natCast_add, hQ2e]; exact wrap_small (by omega) (by omega)
            have hxl2 : (Q2 : Int) < (xs.length : Int) := by rw [HS.out]; omega
            obtain ⟨pz, cz0, cz1, hnz⟩ := hX2.out.get hkz;rw [hzz] at hnz;have HZ := Lib.hid (And.intro hxz hxh);have Hnz := Lib.hid (hnz.int (L := 17592186044415) (by omega));have Hnq := Lib.hid (hN2.out.int hwq);have Hnh2 : Hid (IntAt wr m (av ph2) xh) := Lib.hid (hnh.below hB2.out);have ck0 := (hB2.out.cell (p := ⟨bx, ox + Q2 * 2, none⟩) hbx).trans h0;have ck1 := (hB2.out.cell (p := ⟨bx, ox + Q2 * 2 + 1, none⟩) hbx).trans h1;have A2 := RowAt.below HA.out hB2.out HA.out.lt;have ca1 : wr.cell? ⟨w.heap.size, 1, none⟩ = some (.int .i64 (k : Int)) := A2.cell 1;have ca2 : wr.cell? ⟨w.heap.size, 2, none⟩ = some (.slice (some ⟨bx, ox, none⟩) xs.length cap) := A2.cell 2;have cq0 : wr.cell? ⟨g9, 0, none⟩ = some (.bool b9) := hG2.out.cell 0;have cq1 : wr.cell? ⟨g9, 1, none⟩ = some (.slice o9 l9 k9) := hG2.out.cell 1;have hs9 := hB2.out.size;have hl1 : b1 < wr.heap.size := hX2.out.lt;have hl9 : g9 < wr.heap.size := hG2.out.lt;have hbx9 : bx < wr.heap.size := Nat.lt_of_lt_of_le hbx hs9;clear hxz hxh hzz hwz hwq hwh h0 h1 hnh hQ2e hnz A2;go_wp2;refine wp_region_K ⟨20, fun q_ => [79, 80, 81, 82, 83, 84, 85, 86, 87, 88, 89, 90, 91, 92, 93, 94, 95, 96, 97, 98].getD q_ 0,
             fun q_ => [.val (.slice (some ⟨b1, 0, none⟩) k k), .val (.int .i64 (kk : Int)), .val (.slice (some ⟨b1, 0, none⟩) k k), .val (.int .i64 (kk : Int)), .val (.pointer (some ⟨b1, kk * 2, none⟩)), .val (.agg #[.bool pz.1, .slice pz.2.1 pz.2.2.1 pz.2.2.2]), .val (.agg #[.bool b9, .slice o9 l9 k9]), .val (.pointer (some ⟨w.heap.size, 2, none⟩)), .val (.slice (some ⟨bx, ox, none⟩) xs.length cap), .val (.int .i64 (i : Int)), .val (.pointer (some ⟨w.heap.size, 1, none⟩)), .val (.int .i64 (k : Int)), .val (.int .i64 (P : Int)), .val (.int .i64 (kk : Int)), .val (.int .i64 (Q2 : Int)), .val (.pointer (some ⟨bx, ox + Q2 * 2, none⟩)), .val (.agg #[.bool ph2.1, .slice ph2.2.1 ph2.2.2.1 ph2.2.2.2]), .int 0 (qq * xh), .int 0 (xz - qq * xh), .val (.pointer (some ⟨b1, kk * 2, none⟩))].getD q_ .any,
             [],
             [(.agg #[.bool b9, .slice o9 l9 k9], .at_ L0 qq), (.agg #[.bool ph2.1, .slice ph2.2.1 ph2.2.2.1 ph2.2.2.2], .at_ m xh), (.agg #[.bool pz.1, .slice pz.2.1 pz.2.2.1 pz.2.2.2], .at_ 17592186044415 xz)],
             [],
             [], [(⟨w.heap.size, 1, none⟩, .int .i64 (k : Int)), (⟨w.heap.size, 2, none⟩, .slice (some ⟨bx, ox, none⟩) xs.length cap), (⟨b1, kk * 2, none⟩, .bool pz.1), (⟨b1, kk * 2 + 1, none⟩, .slice pz.2.1 pz.2.2.1 pz.2.2.2), (⟨bx, ox + Q2 * 2, none⟩, .bool ph2.1), (⟨bx, ox + Q2 * 2 + 1, none⟩, .slice ph2.2.1 ph2.2.2.1 ph2.2.2.2), (⟨g9, 0, none⟩, .bool b9), (⟨g9, 1, none⟩, .slice o9 l9 k9)], []⟩ [79, 80, 81, 82, 83, 84, 85, 86, 87, 88, 89, 90, 91, 92, 93, 94, 95, 96, 97, 98] (wr.heap.size) (by kernel_rfl) (by kernel_rfl) (by kernel_rfl) (by kernel_rfl) (by kernel_rfl) ?_ ?_ ?_ ?_ ?_ ?_
            · intro p hp;rcases mc hp with rfl | hp
              · exact Hnq.out
              rcases mc hp with rfl | hp
              · exact Hnh2.out
              rcases mc hp with rfl | hp
              · exact Hnz.out
              cases hp
            · intro p hp;cases hp
            · intro p hp;rcases mc hp with rfl | hp
              · refine ⟨ca1, by show w.heap.size < wr.heap.size; omega, ?_⟩;intro t ht;cases ht
              rcases mc hp with rfl | hp
              · refine ⟨ca2, by show w.heap.size < wr.heap.size; omega, ?_⟩;intro t ht;cases ht
              rcases mc hp with rfl | hp
              · refine ⟨cz0, by show b1 < wr.heap.size; omega, ?_⟩;intro t ht;cases ht
              rcases mc hp with rfl | hp
              · refine ⟨cz1, by show b1 < wr.heap.size; omega, ?_⟩;intro t ht;cases ht
              rcases mc hp with rfl | hp
              · refine ⟨ck0, by show bx < wr.heap.size; omega, ?_⟩;intro t ht;cases ht
              rcases mc hp with rfl | hp
              · refine ⟨ck1, by show bx < wr.heap.size; omega, ?_⟩;intro t ht;cases ht
              rcases mc hp with rfl | hp
              · refine ⟨cq0, by show g9 < wr.heap.size; omega, ?_⟩;intro t ht;cases ht
              rcases mc hp with rfl | hp
              · refine ⟨cq1, by show g9 < wr.heap.size; omega, ?_⟩;intro t ht;cases ht
              cases hp
            · intro t ht;cases ht
            · refine allc ?_ (allc ?_ (allc ?_ (allc ?_ (allc ?_ (allc ?_ (allc ?_ (allc ?_ (allc ?_ (allc ?_ (allc ?_ (allc ?_ (allc ?_ (allc ?_ (allc ?_ (allc ?_ (allc ?_ (allc ?_ (allc ?_ (allc ?_ alln)))))))))))))))))));any_goals (first | (intro L fx w' hJ hL hp hcl; have _ := hp0 hp (by decide +kernel); refine wps rfl fun K hK => ?_; go_simp; exact hJ.q hK (by kernel_rfl) rfl) | fail)
              · intro L fx w' hJ hL hp hcl;have e2 := hJ.pt 2 81 (.slice (some ⟨b1, 0, none⟩) k k) rfl rfl rfl (hp 2 (by decide));rw [e2] at hJ ⊢; clear e2;have e3 := hJ.pt 3 82 (.int .i64 (kk : Int)) rfl rfl rfl (hp 3 (by decide));rw [e3] at hJ ⊢; clear e3;refine wps rfl fun K hK => ?_;go_simp;exact hJ.q hK (by kernel_rfl) rfl
              · intro L fx w' hJ hL hp hcl;have e4 := hJ.pt 4 83 (.pointer (some ⟨b1, kk * 2, none⟩)) rfl rfl rfl (hp 4 (by decide));rw [e4] at hJ ⊢; clear e4;refine wps rfl fun K hK => ?_;have cl0 := (hJ.cells _ mm2).1;have cl1 := (hJ.cells _ mm3).1;try dsimp only at cl0 cl1
                go_simp;exact hJ.q hK (by kernel_rfl) rfl
              · intro L fx w' hJ hL hp hcl;refine wps rfl fun K hK => ?_;have cl0 := (hJ.cells _ mm6).1;have cl1 := (hJ.cells _ mm7).1;try dsimp only at cl0 cl1
                go_simp;exact hJ.q hK (by kernel_rfl) rfl
              · intro L fx w' hJ hL hp hcl;have e7 := hJ.pt 7 86 (.pointer (some ⟨w.heap.size, 2, none⟩)) rfl rfl rfl (hp 7 (by decide));rw [e7] at hJ ⊢; clear e7;refine wps rfl fun K hK => ?_;have cl0 := (hJ.cells _ mm1).1;try dsimp only at cl0
                go_simp;exact hJ.q hK (by kernel_rfl) rfl
              · intro L fx w' hJ hL hp hcl;have e10 := hJ.pt 10 89 (.pointer (some ⟨w.heap.size, 1, none⟩)) rfl rfl rfl (hp 10 (by decide));rw [e10] at hJ ⊢; clear e10;refine wps rfl fun K hK => ?_;have cl0 := (hJ.cells _ mm0).1;try dsimp only at cl0
                go_simp;exact hJ.q hK (by kernel_rfl) rfl
              · intro L fx w' hJ hL hp hcl;have e9 := hJ.pt 9 88 (.int .i64 (i : Int)) rfl rfl rfl (hp 9 (by decide));rw [e9] at hJ ⊢; clear e9;have e11 := hJ.pt 11 90 (.int .i64 (k : Int)) rfl rfl rfl (hp 11 (by decide));rw [e11] at hJ ⊢; clear e11;refine wps rfl fun K hK => ?_;go_simp;exact hJ.q hK (by kernel_rfl) rfl
              · intro L fx w' hJ hL hp hcl;have e12 := hJ.pt 12 91 (.int .i64 (P : Int)) rfl rfl rfl (hp 12 (by decide));rw [e12] at hJ ⊢; clear e12;have e13 := hJ.pt 13 92 (.int .i64 (kk : Int)) rfl rfl rfl (hp 13 (by decide));rw [e13] at hJ ⊢; clear e13;refine wps rfl fun K hK => ?_;go_simp;exact hJ.q hK (by kernel_rfl) rfl
              · intro L fx w' hJ hL hp hcl;have e8 := hJ.pt 8 87 (.slice (some ⟨bx, ox, none⟩) xs.length cap) rfl rfl rfl (hp 8 (by decide));rw [e8] at hJ ⊢; clear e8;have e14 := hJ.pt 14 93 (.int .i64 (Q2 : Int)) rfl rfl rfl (hp 14 (by decide));rw [e14] at hJ ⊢; clear e14;refine wps rfl fun K hK => ?_;go_simp;exact hJ.q hK (by kernel_rfl) rfl
              · intro L fx w' hJ hL hp hcl;have e15 := hJ.pt 15 94 (.pointer (some ⟨bx, ox + Q2 * 2, none⟩)) rfl rfl rfl (hp 15 (by decide));rw [e15] at hJ ⊢; clear e15;refine wps rfl fun K hK => ?_;have cl0 := (hJ.cells _ mm4).1;have cl1 := (hJ.cells _ mm5).1;try dsimp only at cl0 cl1
                go_simp;exact hJ.q hK (by kernel_rfl) rfl
              · intro L fx w' hJ hL hp hcl;have e6 := hJ.pt 6 85 (.agg #[.bool b9, .slice o9 l9 k9]) rfl rfl rfl (hp 6 (by decide));rw [e6] at hJ ⊢; clear e6;have e16 := hJ.pt 16 95 (.agg #[.bool ph2.1, .slice ph2.2.1 ph2.2.2.1 ph2.2.2.2]) rfl rfl rfl (hp 16 (by decide));rw [e16] at hJ ⊢; clear e16;refine wps rfl fun K hK => ?_;go_simp;go_at_call 72;refine (IMul_c _ _ qq xh L0 m _ (show IntAt w' _ _ _ from hJ.base _ mm0) (show IntAt w' _ _ _ from hJ.base _ mm1) (by omega)).mono ?_;rintro e w4 ⟨⟨v5, rfl, h5⟩, hb4⟩;try dsimp only
                exact hK _ _ ⟨_, by kernel_rfl, hJ.gC 17 rfl (by kernel_rfl) hb4 (OwnI.mono h5 (Nat.zero_le _)) (by omega)⟩
              · intro L fx w' hJ hL hp hcl;have e17 := hJ.slot 17 (by show 17 < 20; decide) (hp 17 (by decide));have e5 := hJ.pt 5 84 (.agg #[.bool pz.1, .slice pz.2.1 pz.2.2.1 pz.2.2.2]) rfl rfl rfl (hp 5 (by decide));rw [e5] at hJ ⊢; clear e5;refine wps rfl fun K hK => ?_;go_simp;go_at_call 71;refine (ISub_c _ _ xz (qq * xh) _ (show IntAt w' _ _ _ from hJ.base _ mm2) (OwnI.int (show OwnI w' _ (fx 96) _ from e17) hwm)).mono ?_;rintro e w4 ⟨⟨v5, rfl, h5⟩, hb4⟩;try dsimp only
                exact hK _ _ ⟨_, by kernel_rfl, hJ.gC 18 rfl (by kernel_rfl) hb4 (OwnI.mono h5 (Nat.zero_le _)) (by omega)⟩
              · intro L fx w' hJ hL hp hcl;have e0 := hJ.pt 0 79 (.slice (some ⟨b1, 0, none⟩) k k) rfl rfl rfl (hp 0 (by decide));rw [e0] at hJ ⊢; clear e0;have e1 := hJ.pt 1 80 (.int .i64 (kk : Int)) rfl rfl rfl (hp 1 (by decide));rw [e1] at hJ ⊢; clear e1;refine wps rfl fun K hK => ?_;go_simp;exact hJ.q hK (by kernel_rfl) rfl
            · intro L x' w7 hL hJ;have hfr : Below wr.drew.heap.size wr.drew w7 := hJ.fr;have e18 : OwnI w7 0 (x' 97) (xz - qq * xh) := hJ.slot 18 (by show 18 < 20; decide) (hL 18 (by show 18 < 20; decide));have e19 : x' 98 = .pointer (some ⟨b1, kk * 2, none⟩) := hJ.slot 19 (by show 19 < 20; decide) (hL 19 (by show 19 < 20; decide));obtain ⟨pw, hpw⟩ := NumAt.parts e18.num;rw [hpw] at e18;unfold av at hpw;rw [patchX (x := x') (d := 97) hpw];rw [patchX (x := updX x' 97 (.agg #[.bool pw.1, .slice pw.2.1 pw.2.2.1 pw.2.2.2])) (d := 98) (v := .pointer (some ⟨b1, kk * 2, none⟩)) e19];clear hJ hL ca1 ca2 cz0 cz1 ck0 ck1 cq0 cq1;have X7 := Lib.hid (RowN.below (w := wr.drew) hX2.out hfr);have Y7 := RowN.below (w := wr.drew) hY2.out hfr;have G7 := RowAt.below (w := wr.drew) hG2.out hfr hG2.out.lt;have N7 := NumAt.below (w := wr.drew) hN2.out hfr;have B7 := hB2.out.trans (((Below.refl w3.heap.size wr).drew).trans (hfr.mono hB2.out.size));have Y8 := Lib.hid (X7.out.keepRow Y7 (Ne.symm hb12) kk pw);have G8 := Lib.hid ((G7.other (p := ⟨b1, kk * 2, none⟩) (show g9 ≠ b1 by omega) (.bool pw.1)).other (p := ⟨b1, kk * 2 + 1, none⟩) (show g9 ≠ b1 by omega) (.slice pw.2.1 pw.2.2.1 pw.2.2.2));have N8 := Lib.hid (X7.out.keepNum N7 kk pw);have B8 := Lib.hid ((B7.setCell (p := ⟨b1, kk * 2, none⟩) hb1 (.bool pw.1)).setCell (p := ⟨b1, kk * 2 + 1, none⟩) hb1 (.slice pw.2.1 pw.2.2.1 pw.2.2.2));have X8 := Lib.hid (X7.out.set kk e18.num);have HZ8 := Lib.hid (show ∀ b, b < k -> (zz.set kk (xz - qq * xh)).getD b 0 = if b < kk + 1 then rsN (matE xs r k) (fun a => ls.getD a 0) (fun b => vs.getD b 0) (i + 1) b else rsN (matE xs r k) (fun a => ls.getD a 0) (fun b => vs.getD b 0) i b from fun b hb => by
               rw [getD_set hkz];by_cases e : b = kk
               · subst e;rw [if_pos rfl, if_pos (by omega), rsN_succ, HZ.out.1, HZ.out.2, HQ.out.2.1]
               · rw [if_neg e, hz2.out b hb];by_cases e2 : b < kk
                 · rw [if_pos e2, if_pos (by omega)]
                 · rw [if_neg e2, if_neg (by omega)])
              clear Y7 G7 N7 B7 e18;obtain ⟨pq, q0, q1, _⟩ := X7.out.get (i := kk) (by omega);have q2 := X7.out.free (kk * 2);have q3 := X7.out.free (kk * 2 + 1);refine wpOp_step rfl (fun KK hKK => ?_);go_simp;refine hKK _ _ ⟨⟨updX (updX x' 97 (.agg #[.bool pw.1, .slice pw.2.1 pw.2.2.1 pw.2.2.2])) 98 (.pointer (some ⟨b1, kk * 2, none⟩)), by kernel_rfl⟩, ?_⟩;clear hKK q0 q1 q2 q3;go_wp2;go_roundw
              case rel => exact ⟨kk + 1, zz.set kk (xz - qq * xh), by omega, by go_num, Lib.hid (by simpa using hzl2.out), HZ8, X8, Y8, G8, N8, B8⟩
              case measure => simp [intOf]; omega
          · obtain rfl : kk = k := by omega
            have HC8 := Lib.hid (show ∀ a, a < r -> (cs.set i qq).getD a 0 = if a < i + 1 then rsQ (matE xs r kk) (fun a => ls.getD a 0) (fun b => vs.getD b 0) a else 0 from fun a ha => by
             rw [getD_set (by rw [hcl.out]; exact hir)];by_cases e : a = i
             · subst e; rw [if_pos rfl, if_pos (by omega), HQ.out.2.1]
             · rw [if_neg e, hcz.out a ha];by_cases e2 : a < i
               · rw [if_pos e2, if_pos (by omega)]
               · rw [if_neg e2, if_neg (by omega)])
            have HZ8 := Lib.hid (show ∀ b, b < kk -> zz.getD b 0 = rsN (matE xs r kk) (fun a => ls.getD a 0) (fun b => vs.getD b 0) (i + 1) b from fun b hb => by rw [hz2.out b hb, if_pos hb]);go_wp2;go_roundw
            case rel => exact ⟨i + 1, zz, cs.set i qq, by omega, by go_num, hzl2, Lib.hid (by simpa using hcl.out), HZ8, HC8, hX2, hY2, hB2⟩
            case measure => simp [intOf]; omega
     · obtain rfl : i = ls.length := by omega
       have HRI := Lib.hid (show RestIs r k (matE xs r k) ls (fun b => vs.getD b 0) zs cs from ⟨hzl.out, hcl.out, hz.out, hcz.out⟩);go_wp2;go_ret3;exact ⟨⟨b1, b2, ls, zs, cs, rfl, by omega, by omega, hX.out, hY.out, HPv.out, HRI.out⟩, b_2.out.trans (hB.out.mono b_2.out.size)⟩
def vm (us : List Int) (E : Nat -> Nat -> Int) (j : Nat) : Nat -> Int := fun k => sm k (fun a => us.getD a 0 * E a j)
theorem vm_succ (us : List Int) (E : Nat -> Nat -> Int) (j k : Nat) : vm us E j (k + 1) = us.getD k 0 * E k j + vm us E j k := by
 show vm us E j k + us.getD k 0 * E k j = _;omega
theorem vm_bd {us : List Int} {xs : List Int} {r c mu m j : Nat} (hu : ∀ x ∈ us, x.natAbs < W ^ mu) (hm : ∀ x ∈ xs, x.natAbs < W ^ m) (k : Nat) (hk : k <= 64) : (vm us (matE xs r c) j k).natAbs < W ^ (mu + m + 1) := by
 have h1 : (vm us (matE xs r c) j k).natAbs <= k * (W ^ mu * W ^ m) := sm_abs (fun a _ => by
  rw [Int.natAbs_mul];refine Nat.mul_le_mul ?_ (Nat.le_of_lt (matE_bound (Nat.pow_pos (by decide)) hm a j));rw [List.getD_eq_getElem?_getD];by_cases h : a < us.length
  · rw [List.getElem?_eq_getElem h]; exact Nat.le_of_lt (hu _ (List.getElem_mem h))
  · rw [List.getElem?_eq_none (by omega)]; exact Nat.zero_le _)
 have hp : 0 < W ^ mu * W ^ m := Nat.mul_pos (Nat.pow_pos (by decide)) (Nat.pow_pos (by decide));have e : W ^ (mu + m + 1) = W ^ mu * W ^ m * W := by rw [Nat.pow_succ, Nat.pow_add]
 have h2 : k * (W ^ mu * W ^ m) <= 64 * (W ^ mu * W ^ m) := Nat.mul_le_mul_right _ hk;have h3 : (W ^ mu * W ^ m) * 65 <= W ^ mu * W ^ m * W := Nat.mul_le_mul_left _ (by decide);rw [e]; omega
set_option maxRecDepth 100000 in
set_option maxHeartbeats 8000000 in
theorem VecMul_c (r c m mu : Nat) (ax : Option Addr) (kx : Nat) (us : List Int) (ao : Option Addr) (len cap : Nat) (xs : List Int) (w : World) (hr : r <= 64) (hc : c <= 64) (hu : LsAt w 549755813888 ax us) (hul : us.length = r) (hub : ∀ x ∈ us, x.natAbs < W ^ mu)
 (h : LsAt w 549755813888 ao xs) (hm : ∀ x ∈ xs, x.natAbs < W ^ m) (hl : len = xs.length) (hs : xs.length = r * c) (hmm : mu + m + 1 <= 549755813888) :
 Calls Tryz.prog 32 #[.slice ax r kx, .agg #[.int .i64 (r : Int), .int .i64 (c : Int), .slice ao len cap]] w fun e w' => (∃ b ys, e = .returned (.tuple #[.slice (some ⟨b, 0, none⟩) c c, .int .i64 0]) /\ w.heap.size <= b /\ RowN w' b ys /\ ys.length = c /\ ∀ j, j < c -> ys.getD j 0 = vm us (matE xs r c) j r) /\ Below w.heap.size w w' := by
 subst hl;have HC := Lib.hid (fun w2 => M9Check_c r c ao xs.length cap w2 hr hc hs);have HXW := Lib.hid (And.intro hm hub);have HUL := Lib.hid hul;have HMM := Lib.hid hmm;have HS := Lib.hid hs;have hrr : ((r : Int) != (r : Int)) = false := by simp
 clear hm hub hul hmm hs;have HX_0 : Hid (LsAt w 549755813888 ao xs) := Lib.hid (h);have HU_0 : Hid (LsAt w 549755813888 ax us) := Lib.hid (hu);have b_0 : Hid (Below w.heap.size w w) := Lib.hid (Below.refl _ _);clear h hu;go_enter Tryz.func32, Tryz.ntmps32;have r_ := RowAt.new w #[.int .i64 (r : Int), .int .i64 (c : Int), .slice ao xs.length cap] 24;have hb_ : Below w.heap.size w (w.alloc (.cells #[.int .i64 (r : Int), .int .i64 (c : Int), .slice ao xs.length cap] 24)) := (Below.refl _ _).alloc (Nat.le_refl _) _;go_wp2_with fail
 generalize w.alloc (.cells #[.int .i64 (r : Int), .int .i64 (c : Int), .slice ao xs.length cap] 24) = w1 at *;have HX_1 := Lib.hid (LsAt.below (w := w) HX_0.out (hb_));have HU_1 := Lib.hid (LsAt.below (w := w) HU_0.out (hb_));have b_1 := Lib.hid (b_0.out.trans (Below.mono hb_ b_0.out.size));have sz_1 := (hb_).size;clear HX_0 HU_0 b_0;have A_1 : Hid (RowAt w1 (w.heap.size) 24 [.int .i64 (r : Int), .int .i64 (c : Int), .slice ao xs.length cap]) := Lib.hid (r_);clear r_ hb_;refine (HC.out w1).mono ?_;rintro e w3 ⟨rfl, hb_⟩;have HX_2 := Lib.hid (LsAt.below (w := w1) HX_1.out (hb_));have HU_2 := Lib.hid (LsAt.below (w := w1) HU_1.out (hb_));have A_2 := Lib.hid (RowAt.below (w := w1) A_1.out (hb_) A_1.out.lt);have b_2 := Lib.hid (b_1.out.trans (Below.mono hb_ b_1.out.size));have sz_2 := (hb_).size;clear HX_1 HU_1 A_1 b_1;clear hb_;have HA := A_2;have hal : w.heap.size < w3.heap.size := HA.out.lt;have z0 := HA.out.cell 0;have z1 := HA.out.cell 1;simp only [List.getElem?_cons_zero, List.getElem?_cons_succ] at z0 z1;go_wp2_with (at_make; refine mk_nums rfl _ _ rfl c c rfl rfl (by omega) (by omega) (Nat.le_refl _) (by omega) ?_; intro b1 w4 hm4)
 have hb1 : w3.heap.size <= b1 := by have := hm4.at_; omega
 have R4 := Lib.hid (RowN.zeros hm4.row);have B4 := Lib.hid hm4.below;clear hm4 z0 z1 hrr;go_wp2;go_loopw [8] (fun j_ wr => ∃ (j : Nat) (ys : List Int), j <= c /\ j_ = .int .i64 (j : Int) /\ Hid (ys.length = c) /\ Hid (∀ b, b < c -> ys.getD b 0 = if b < j then vm us (matE xs r c) b r else 0) /\ Hid (RowN wr b1 ys) /\ Hid (Below w3.heap.size w3 wr)) (fun j_ _ => c - (intOf j_).toNat)
 case atStart => exact ⟨0, _, Nat.zero_le _, rfl, Lib.hid (by simp), Lib.hid (fun b hb => by rw [if_neg (by omega), List.getD_eq_getElem?_getD, List.getElem?_replicate]; split <;> rfl), R4, B4⟩
 case round =>
  obtain ⟨j, ys, hj, rfl, hyl, hy, hX, hB⟩ := hrel;have A1 := RowAt.below HA.out hB.out HA.out.lt;have ca1 : wr.cell? ⟨w.heap.size, 1, none⟩ = some (.int .i64 (c : Int)) := A1.cell 1;clear A1;by_cases hjc : j < c
  · have hjc1 : (j : Int) < (c : Int) := by omega
    go_wp2;clear ca1;go_loopw [9] (fun k_ wq => ∃ (k : Nat) (zs : List Int), k <= r /\ k_ = .int .i64 (k : Int) /\ Hid (zs.length = c) /\ Hid (∀ b, b < c -> zs.getD b 0 = if b < j then vm us (matE xs r c) b r else if b = j then vm us (matE xs r c) j k else 0) /\ Hid (RowN wq b1 zs) /\ Hid (Below w3.heap.size w3 wq)) (fun k_ _ => r - (intOf k_).toNat)
    case atStart => exact ⟨0, ys, Nat.zero_le _, rfl, hyl, Lib.hid (fun b hb => by
     rw [hy.out b hb];by_cases e : b < j
     · rw [if_pos e, if_pos e]
     · rw [if_neg e, if_neg e];by_cases e2 : b = j
       · rw [if_pos e2]; rfl
       · rw [if_neg e2]), hX, hB⟩
    case round =>
     obtain ⟨k, zs, hk, rfl, hzl, hz, hX, hB⟩ := hrel;have A1 := RowAt.below HA.out hB.out HA.out.lt;have ca0 : wr.cell? ⟨w.heap.size, 0, none⟩ = some (.int .i64 (r : Int)) := A1.cell 0;have ca1 : wr.cell? ⟨w.heap.size, 1, none⟩ = some (.int .i64 (c : Int)) := A1.cell 1;have ca2 : wr.cell? ⟨w.heap.size, 2, none⟩ = some (.slice ao xs.length cap) := A1.cell 2;clear A1;by_cases hkr : k < r
     · have hkr1 : (k : Int) < (r : Int) := by omega
       have hku : k < us.length := by rw [HUL.out]; exact hkr
       have hjz : j < zs.length := by rw [hzl.out]; exact hjc
       have hQ := idx_lt hkr hjc;have hrc : r * c <= 4096 := Nat.mul_le_mul hr hc;obtain ⟨bu, ou, hax, hbu, huc⟩ := HU_2.out (by omega);subst hax;obtain ⟨pu, u0, u1, hnu⟩ := huc k hku;obtain ⟨bx, ox, hao, hbx, hxc⟩ := HX_2.out (by rw [HS.out]; omega);subst hao;obtain ⟨px, x0, x1, hnx⟩ := hxc (k * c + j) (by rw [HS.out]; exact hQ);have hxe : xs[k * c + j]'(by rw [HS.out]; exact hQ) = matE xs r c k j := by rw [matE_eq hkr hjc, List.getD_eq_getElem?_getD, List.getElem?_eq_getElem (by rw [HS.out]; exact hQ)]; rfl
       have hue : us[k] = us.getD k 0 := by rw [List.getD_eq_getElem?_getD, List.getElem?_eq_getElem hku]; rfl
       obtain ⟨P, hPe⟩ : ∃ P, k * c = P := ⟨_, rfl⟩;have hw1 : IntKind.i64.wrap ((k : Int) * (c : Int)) = (P : Int) := by
        rw [<- Int.natCast_mul, hPe]; exact wrap_small (by omega) (by omega)
       rw [hxe] at hnx;rw [hue] at hnu;rw [hPe] at x0 x1 hQ;obtain ⟨Q1, hQ1⟩ : ∃ q, P + j = q := ⟨_, rfl⟩;rw [hQ1] at x0 x1 hQ;have hv1 : IntKind.i64.wrap ((P : Int) + (j : Int)) = (Q1 : Int) := by
        rw [<- Int.natCast_add, hQ1]; exact wrap_small (by omega) (by omega)
       have hxl1 : (Q1 : Int) < (xs.length : Int) := by rw [HS.out]; omega
       obtain ⟨uu, huu⟩ : ∃ u, us.getD k 0 = u := ⟨_, rfl⟩;obtain ⟨xx, hxx⟩ : ∃ x, matE xs r c k j = x := ⟨_, rfl⟩;obtain ⟨yy, hyy⟩ : ∃ y, vm us (matE xs r c) j k = y := ⟨_, rfl⟩;rw [huu] at hnu;rw [hxx] at hnx;obtain ⟨py, y0, y1, hny⟩ := hX.out.get hjz;have hye : zs[j] = yy := by have := hz.out j hjc; rw [if_neg (by omega), if_pos rfl, List.getD_eq_getElem?_getD, List.getElem?_eq_getElem hjz] at this; rw [<- hyy]; exact this
       rw [hye] at hny;have hwy : wlen yy.natAbs <= 549755813888 := by rw [<- hyy]; exact Nat.le_trans (wlen_le_of_lt (vm_bd HXW.out.2 HXW.out.1 k (by omega))) HMM.out
       have HV := Lib.hid (And.intro huu (And.intro hxx hyy));have NU := Lib.hid (hnu.below hB.out);have NX := Lib.hid (hnx.below hB.out);have NY := Lib.hid (hny.int hwy);have cu0 := (hB.out.cell (p := ⟨bu, ou + k * 2, none⟩) hbu).trans u0;have cu1 := (hB.out.cell (p := ⟨bu, ou + k * 2 + 1, none⟩) hbu).trans u1;have cx0 := (hB.out.cell (p := ⟨bx, ox + Q1 * 2, none⟩) hbx).trans x0;have cx1 := (hB.out.cell (p := ⟨bx, ox + Q1 * 2 + 1, none⟩) hbx).trans x1;have hs9 := hB.out.size;have hl1 : b1 < wr.heap.size := hX.out.lt;have hbu9 : bu < wr.heap.size := Nat.lt_of_lt_of_le hbu hs9;have hbx9 : bx < wr.heap.size := Nat.lt_of_lt_of_le hbx hs9;clear hnu hnx hny hxe hue hPe hQ1 huu hxx hyy hye hwy x0 x1 u0 u1 huc hxc;go_wp2;clear ca0;refine wp_region_K ⟨22, fun q_ => [35, 36, 37, 38, 39, 40, 41, 42, 43, 44, 45, 46, 47, 48, 49, 50, 51, 52, 53, 54, 55, 56].getD q_ 0,
        fun q_ => [.val (.slice (some ⟨b1, 0, none⟩) c c), .val (.int .i64 (j : Int)), .val (.slice (some ⟨bu, ou, none⟩) r kx), .val (.int .i64 (k : Int)), .val (.pointer (some ⟨bu, ou + k * 2, none⟩)), .val (.agg #[.bool pu.1, .slice pu.2.1 pu.2.2.1 pu.2.2.2]), .val (.pointer (some ⟨w.heap.size, 2, none⟩)), .val (.slice (some ⟨bx, ox, none⟩) xs.length cap), .val (.int .i64 (k : Int)), .val (.pointer (some ⟨w.heap.size, 1, none⟩)), .val (.int .i64 (c : Int)), .val (.int .i64 (P : Int)), .val (.int .i64 (j : Int)), .val (.int .i64 (Q1 : Int)), .val (.pointer (some ⟨bx, ox + Q1 * 2, none⟩)), .val (.agg #[.bool px.1, .slice px.2.1 px.2.2.1 px.2.2.2]), .val (.slice (some ⟨b1, 0, none⟩) c c), .val (.int .i64 (j : Int)), .val (.pointer (some ⟨b1, j * 2, none⟩)), .val (.agg #[.bool py.1, .slice py.2.1 py.2.2.1 py.2.2.2]), .int 0 (uu * xx + yy), .val (.pointer (some ⟨b1, j * 2, none⟩))].getD q_ .any,
        [],
        [(.agg #[.bool pu.1, .slice pu.2.1 pu.2.2.1 pu.2.2.2], .at_ 549755813888 uu), (.agg #[.bool px.1, .slice px.2.1 px.2.2.1 px.2.2.2], .at_ 549755813888 xx), (.agg #[.bool py.1, .slice py.2.1 py.2.2.1 py.2.2.2], .at_ 549755813888 yy)],
        [],
        [], [(⟨w.heap.size, 1, none⟩, .int .i64 (c : Int)), (⟨w.heap.size, 2, none⟩, .slice (some ⟨bx, ox, none⟩) xs.length cap), (⟨bu, ou + k * 2, none⟩, .bool pu.1), (⟨bu, ou + k * 2 + 1, none⟩, .slice pu.2.1 pu.2.2.1 pu.2.2.2), (⟨bx, ox + Q1 * 2, none⟩, .bool px.1), (⟨bx, ox + Q1 * 2 + 1, none⟩, .slice px.2.1 px.2.2.1 px.2.2.2), (⟨b1, j * 2, none⟩, .bool py.1), (⟨b1, j * 2 + 1, none⟩, .slice py.2.1 py.2.2.1 py.2.2.2)], []⟩ [35, 36, 37, 38, 39, 40, 41, 42, 43, 44, 45, 46, 47, 48, 49, 50, 51, 52, 53, 54, 55, 56] (wr.heap.size) (by kernel_rfl) (by kernel_rfl) (by kernel_rfl) (by kernel_rfl) (by kernel_rfl) ?_ ?_ ?_ ?_ ?_ ?_
       · intro p hp;rcases mc hp with rfl | hp
         · exact NU.out
         rcases mc hp with rfl | hp
         · exact NX.out
         rcases mc hp with rfl | hp
         · exact NY.out
         cases hp
       · intro p hp;cases hp
       · intro p hp;rcases mc hp with rfl | hp
         · refine ⟨ca1, by show w.heap.size < wr.heap.size; omega, ?_⟩;intro t ht;cases ht
         rcases mc hp with rfl | hp
         · refine ⟨ca2, by show w.heap.size < wr.heap.size; omega, ?_⟩;intro t ht;cases ht
         rcases mc hp with rfl | hp
         · refine ⟨cu0, by show bu < wr.heap.size; omega, ?_⟩;intro t ht;cases ht
         rcases mc hp with rfl | hp
         · refine ⟨cu1, by show bu < wr.heap.size; omega, ?_⟩;intro t ht;cases ht
         rcases mc hp with rfl | hp
         · refine ⟨cx0, by show bx < wr.heap.size; omega, ?_⟩;intro t ht;cases ht
         rcases mc hp with rfl | hp
         · refine ⟨cx1, by show bx < wr.heap.size; omega, ?_⟩;intro t ht;cases ht
         rcases mc hp with rfl | hp
         · refine ⟨y0, by show b1 < wr.heap.size; omega, ?_⟩;intro t ht;cases ht
         rcases mc hp with rfl | hp
         · refine ⟨y1, by show b1 < wr.heap.size; omega, ?_⟩;intro t ht;cases ht
         cases hp
       · intro t ht;cases ht
       · refine allc ?_ (allc ?_ (allc ?_ (allc ?_ (allc ?_ (allc ?_ (allc ?_ (allc ?_ (allc ?_ (allc ?_ (allc ?_ (allc ?_ (allc ?_ (allc ?_ (allc ?_ (allc ?_ (allc ?_ (allc ?_ (allc ?_ (allc ?_ (allc ?_ (allc ?_ alln)))))))))))))))))))));any_goals (first | (intro L fx w' hJ hL hp hcl; have _ := hp0 hp (by decide +kernel); refine wps rfl fun K hK => ?_; go_simp; exact hJ.q hK (by kernel_rfl) rfl) | fail)
         · intro L fx w' hJ hL hp hcl;have e2 := hJ.pt 2 37 (.slice (some ⟨bu, ou, none⟩) r kx) rfl rfl rfl (hp 2 (by decide));rw [e2] at hJ ⊢; clear e2;have e3 := hJ.pt 3 38 (.int .i64 (k : Int)) rfl rfl rfl (hp 3 (by decide));rw [e3] at hJ ⊢; clear e3;refine wps rfl fun K hK => ?_;go_simp;exact hJ.q hK (by kernel_rfl) rfl
         · intro L fx w' hJ hL hp hcl;have e4 := hJ.pt 4 39 (.pointer (some ⟨bu, ou + k * 2, none⟩)) rfl rfl rfl (hp 4 (by decide));rw [e4] at hJ ⊢; clear e4;refine wps rfl fun K hK => ?_;have cl0 := (hJ.cells _ mm2).1;have cl1 := (hJ.cells _ mm3).1;try dsimp only at cl0 cl1
           go_simp;exact hJ.q hK (by kernel_rfl) rfl
         · intro L fx w' hJ hL hp hcl;have e6 := hJ.pt 6 41 (.pointer (some ⟨w.heap.size, 2, none⟩)) rfl rfl rfl (hp 6 (by decide));rw [e6] at hJ ⊢; clear e6;refine wps rfl fun K hK => ?_;have cl0 := (hJ.cells _ mm1).1;try dsimp only at cl0
           go_simp;exact hJ.q hK (by kernel_rfl) rfl
         · intro L fx w' hJ hL hp hcl;have e9 := hJ.pt 9 44 (.pointer (some ⟨w.heap.size, 1, none⟩)) rfl rfl rfl (hp 9 (by decide));rw [e9] at hJ ⊢; clear e9;refine wps rfl fun K hK => ?_;have cl0 := (hJ.cells _ mm0).1;try dsimp only at cl0
           go_simp;exact hJ.q hK (by kernel_rfl) rfl
         · intro L fx w' hJ hL hp hcl;have e8 := hJ.pt 8 43 (.int .i64 (k : Int)) rfl rfl rfl (hp 8 (by decide));rw [e8] at hJ ⊢; clear e8;have e10 := hJ.pt 10 45 (.int .i64 (c : Int)) rfl rfl rfl (hp 10 (by decide));rw [e10] at hJ ⊢; clear e10;refine wps rfl fun K hK => ?_;go_simp;exact hJ.q hK (by kernel_rfl) rfl
         · intro L fx w' hJ hL hp hcl;have e11 := hJ.pt 11 46 (.int .i64 (P : Int)) rfl rfl rfl (hp 11 (by decide));rw [e11] at hJ ⊢; clear e11;have e12 := hJ.pt 12 47 (.int .i64 (j : Int)) rfl rfl rfl (hp 12 (by decide));rw [e12] at hJ ⊢; clear e12;refine wps rfl fun K hK => ?_;go_simp;exact hJ.q hK (by kernel_rfl) rfl
         · intro L fx w' hJ hL hp hcl;have e7 := hJ.pt 7 42 (.slice (some ⟨bx, ox, none⟩) xs.length cap) rfl rfl rfl (hp 7 (by decide));rw [e7] at hJ ⊢; clear e7;have e13 := hJ.pt 13 48 (.int .i64 (Q1 : Int)) rfl rfl rfl (hp 13 (by decide));rw [e13] at hJ ⊢; clear e13;refine wps rfl fun K hK => ?_;go_simp;exact hJ.q hK (by kernel_rfl) rfl
         · intro L fx w' hJ hL hp hcl;have e14 := hJ.pt 14 49 (.pointer (some ⟨bx, ox + Q1 * 2, none⟩)) rfl rfl rfl (hp 14 (by decide));rw [e14] at hJ ⊢; clear e14;refine wps rfl fun K hK => ?_;have cl0 := (hJ.cells _ mm4).1;have cl1 := (hJ.cells _ mm5).1;try dsimp only at cl0 cl1
           go_simp;exact hJ.q hK (by kernel_rfl) rfl
         · intro L fx w' hJ hL hp hcl;have e16 := hJ.pt 16 51 (.slice (some ⟨b1, 0, none⟩) c c) rfl rfl rfl (hp 16 (by decide));rw [e16] at hJ ⊢; clear e16;have e17 := hJ.pt 17 52 (.int .i64 (j : Int)) rfl rfl rfl (hp 17 (by decide));rw [e17] at hJ ⊢; clear e17;refine wps rfl fun K hK => ?_;go_simp;exact hJ.q hK (by kernel_rfl) rfl
         · intro L fx w' hJ hL hp hcl;have e18 := hJ.pt 18 53 (.pointer (some ⟨b1, j * 2, none⟩)) rfl rfl rfl (hp 18 (by decide));rw [e18] at hJ ⊢; clear e18;refine wps rfl fun K hK => ?_;have cl0 := (hJ.cells _ mm6).1;have cl1 := (hJ.cells _ mm7).1;try dsimp only at cl0 cl1
           go_simp;exact hJ.q hK (by kernel_rfl) rfl
         · intro L fx w' hJ hL hp hcl;have e5 := hJ.pt 5 40 (.agg #[.bool pu.1, .slice pu.2.1 pu.2.2.1 pu.2.2.2]) rfl rfl rfl (hp 5 (by decide));rw [e5] at hJ ⊢; clear e5;have e15 := hJ.pt 15 50 (.agg #[.bool px.1, .slice px.2.1 px.2.2.1 px.2.2.2]) rfl rfl rfl (hp 15 (by decide));rw [e15] at hJ ⊢; clear e15;have e19 := hJ.pt 19 54 (.agg #[.bool py.1, .slice py.2.1 py.2.2.1 py.2.2.2]) rfl rfl rfl (hp 19 (by decide));rw [e19] at hJ ⊢; clear e19;refine wps rfl fun K hK => ?_;go_simp;go_at_call 40;refine (RMulAdd_c _ _ _ uu xx yy _ _ (show IntAt w' _ _ _ from hJ.base _ mm0) (show IntAt w' _ _ _ from hJ.base _ mm1) (show IntAt w' _ _ _ from hJ.base _ mm2) (Nat.le_refl _)).mono ?_;rintro e w4 ⟨⟨v5, rfl, h5⟩, hb4⟩;try dsimp only
           exact hK _ _ ⟨_, by kernel_rfl, hJ.gC 20 rfl (by kernel_rfl) hb4 (OwnI.mono h5 (Nat.zero_le _)) (by omega)⟩
         · intro L fx w' hJ hL hp hcl;have e0 := hJ.pt 0 35 (.slice (some ⟨b1, 0, none⟩) c c) rfl rfl rfl (hp 0 (by decide));rw [e0] at hJ ⊢; clear e0;have e1 := hJ.pt 1 36 (.int .i64 (j : Int)) rfl rfl rfl (hp 1 (by decide));rw [e1] at hJ ⊢; clear e1;refine wps rfl fun K hK => ?_;go_simp;exact hJ.q hK (by kernel_rfl) rfl
       · intro L x' w7 hL hJ;have hfr : Below wr.drew.heap.size wr.drew w7 := hJ.fr;have e18 : OwnI w7 0 (x' 55) (uu * xx + yy) := hJ.slot 20 (by show 20 < 22; decide) (hL 20 (by show 20 < 22; decide));have e19 : x' 56 = .pointer (some ⟨b1, j * 2, none⟩) := hJ.slot 21 (by show 21 < 22; decide) (hL 21 (by show 21 < 22; decide));obtain ⟨pw, hpw⟩ := NumAt.parts e18.num;rw [hpw] at e18;unfold av at hpw;rw [patchX (x := x') (d := 55) hpw];rw [patchX (x := updX x' 55 (.agg #[.bool pw.1, .slice pw.2.1 pw.2.2.1 pw.2.2.2])) (d := 56) (v := .pointer (some ⟨b1, j * 2, none⟩)) e19];clear hJ hL ca1 ca2 cu0 cu1 cx0 cx1 y0 y1;have X7 := Lib.hid (RowN.below (w := wr.drew) hX.out hfr);have B7 := hB.out.trans (((Below.refl w3.heap.size wr).drew).trans (hfr.mono hB.out.size));have B8 := Lib.hid ((B7.setCell (p := ⟨b1, j * 2, none⟩) hb1 (.bool pw.1)).setCell (p := ⟨b1, j * 2 + 1, none⟩) hb1 (.slice pw.2.1 pw.2.2.1 pw.2.2.2));have X8 := Lib.hid (X7.out.set j e18.num);have HZ8 := Lib.hid (show ∀ b, b < c -> (zs.set j (uu * xx + yy)).getD b 0 = if b < j then vm us (matE xs r c) b r else if b = j then vm us (matE xs r c) j (k + 1) else 0 from fun b hb => by
          rw [getD_set hjz];by_cases e : b = j
          · subst e;rw [if_pos rfl, if_neg (by omega), if_pos rfl, vm_succ, HV.out.1, HV.out.2.1, HV.out.2.2]
          · rw [if_neg e, hz.out b hb, if_neg e, if_neg e])
         clear B7 e18;obtain ⟨pq, q0, q1, _⟩ := X7.out.get (i := j) (by omega);have q2 := X7.out.free (j * 2);have q3 := X7.out.free (j * 2 + 1);refine wpOp_step rfl (fun KK hKK => ?_);go_simp;refine hKK _ _ ⟨⟨updX (updX x' 55 (.agg #[.bool pw.1, .slice pw.2.1 pw.2.2.1 pw.2.2.2])) 56 (.pointer (some ⟨b1, j * 2, none⟩)), by kernel_rfl⟩, ?_⟩;clear hKK q0 q1 q2 q3;go_wp2;go_roundw
         case rel => exact ⟨k + 1, zs.set j (uu * xx + yy), by omega, by go_num, Lib.hid (by simpa using hzl.out), HZ8, X8, B8⟩
         case measure => simp [intOf]; omega
     · obtain rfl : k = r := by omega
       have HZ8 := Lib.hid (show ∀ b, b < c -> zs.getD b 0 = if b < j + 1 then vm us (matE xs k c) b k else 0 from fun b hb => by
        rw [hz.out b hb];by_cases e : b < j
        · rw [if_pos e, if_pos (by omega)]
        · by_cases e2 : b = j
          · subst e2; rw [if_neg e, if_pos rfl, if_pos (by omega)]
          · rw [if_neg e, if_neg e2, if_neg (by omega)])
       clear ca1 ca2;go_wp2;go_roundw
       case rel => exact ⟨j + 1, zs, by omega, by go_num, hzl, HZ8, hX, hB⟩
       case measure => simp [intOf]; omega
  · obtain rfl : j = c := by omega
    have HZ9 := Lib.hid (show ∀ b, b < j -> ys.getD b 0 = vm us (matE xs r j) b r from fun b hb => by rw [hy.out b hb, if_pos hb]);go_wp2;go_ret2;exact ⟨⟨b1, ys, rfl, by omega, hX.out, hyl.out, HZ9.out⟩, b_2.out.trans (hB.out.mono b_2.out.size)⟩
def NsAt (w : World) (ao : Option Addr) (ls : List Nat) : Prop := 0 < ls.length -> ∃ g, ao = some ⟨g, 0, none⟩ /\ g < w.heap.size /\ ∀ k (_ : k < ls.length), w.cell? ⟨g, k, none⟩ = some (.int .i64 (ls.getD k 0 : Nat))
theorem NsAt.below {w w' : World} {ao : Option Addr} {ls : List Nat} (h : NsAt w ao ls) (hb : Below w.heap.size w w') : NsAt w' ao ls := fun hl => by
 obtain ⟨g, e, hg, hc⟩ := h hl;exact ⟨g, e, Nat.lt_of_lt_of_le hg hb.size, fun k hk => (hb.cell (p := ⟨g, k, none⟩) hg).trans (hc k hk)⟩
theorem wpOp_stepG {P : Program} {ops : Array Oper} {Q : Exit -> Act -> World -> Prop} {i : Nat} {o : Oper} {K : Act -> World -> Prop} {a : Act} {w : World} (ho : ops[i]? = some o) (hw : Region.wanted o (yielded ops a.tmps) = true)
 (h : ∀ K' : Act -> World -> Prop, (∀ a w, K a w -> K' a w) -> Oper.wp P o a w K' Q) : wpOp P ops Q i K a w :=
 wpOp_step ho (fun K' hK => by rw [if_pos hw]; exact h K' hK)
set_option maxRecDepth 100000 in
set_option maxHeartbeats 8000000 in
theorem Reduced_c (r c m mv : Nat) (ao : Option Addr) (len cap : Nat) (xs : List Int) (al : Option Addr) (kl : Nat) (ls : List Nat) (az : Option Addr) (kz : Nat) (zs : List Int) (w : World) (hr : r <= 64) (hc : c <= 64) (h : LsAt w m ao xs) (hl : len = xs.length) (hs : xs.length = r * c) (hm : m <= 549755813888)
 (hls : NsAt w al ls) (hlr : ls.length <= r) (hlc : ∀ k, k < ls.length -> ls.getD k 0 < c) (hz : LsAt w mv az zs) (hzl : zs.length = c) (hmv : mv <= 549755813888)
 (hok : ∀ k, k < ls.length -> 0 <= zs.getD (ls.getD k 0) 0 /\ zs.getD (ls.getD k 0) 0 < matE xs r c k (ls.getD k 0)) :
 Calls Tryz.prog 29 #[.agg #[.int .i64 (r : Int), .int .i64 (c : Int), .slice ao len cap], .slice al ls.length kl, .slice az c kz] w fun e w' => e = .returned (.bool true) /\ Below w.heap.size w w' := by
 subst hl;have HXX := Lib.hid h;have HZZ := Lib.hid hz;have HNN := Lib.hid hls;have HS := Lib.hid hs;have HZL := Lib.hid hzl;have HOK := Lib.hid (And.intro hlc hok);have r1 := RowAt.new w #[.int .i64 (r : Int), .int .i64 (c : Int), .slice ao xs.length cap] 24;have hb : Below w.heap.size w (w.alloc (.cells #[.int .i64 (r : Int), .int .i64 (c : Int), .slice ao xs.length cap] 24)) := (Below.refl _ _).alloc (Nat.le_refl _) _;clear h hz hls hs hzl hlc hok;go_enter Tryz.func29, Tryz.ntmps29;go_wp2;generalize w.alloc (.cells #[.int .i64 (r : Int), .int .i64 (c : Int), .slice ao xs.length cap] 24) = w1 at *;have HA := Lib.hid r1;have HB := Lib.hid hb;have hal : w.heap.size < w1.heap.size := r1.lt;clear r1 hb;go_loopw [7] (fun i_ wr => ∃ (i : Nat), i <= ls.length /\ i_ = .int .i64 (i : Int) /\ Hid (Below w1.heap.size w1 wr)) (fun i_ _ => ls.length - (intOf i_).toNat)
 case atStart => exact ⟨0, Nat.zero_le _, rfl, Lib.hid (Below.refl _ _)⟩
 case round =>
  obtain ⟨i, hi, rfl, hB⟩ := hrel;by_cases hin : i < ls.length
  · have hin1 : (i : Int) < (ls.length : Int) := by omega
    have hir : i < r := by omega
    obtain ⟨j, hj⟩ : ∃ j, ls.getD i 0 = j := ⟨_, rfl⟩;have hjc : j < c := by rw [<- hj]; exact HOK.out.1 i hin
    have hok := HOK.out.2 i hin;rw [hj] at hok;have hBw := HB.out.trans (hB.out.mono HB.out.size);obtain ⟨g, hag, hg, hgc⟩ := HNN.out (by omega);subst hag;have d0 : w.cell? ⟨g, i, none⟩ = some (.int .i64 (j : Int)) := by rw [hgc i hin, hj]
    have hjz : j < zs.length := by rw [HZL.out]; exact hjc
    obtain ⟨bz, oz, haz, hbz, hzc⟩ := HZZ.out (by omega);subst haz;obtain ⟨pz, z0, z1, hnz⟩ := hzc j hjz;have hQ := idx_lt hir hjc;have hrc : r * c <= 4096 := Nat.mul_le_mul hr hc;obtain ⟨bx, ox, hao, hbx, hxc⟩ := HXX.out (by rw [HS.out]; omega);subst hao;obtain ⟨px, x0, x1, hnx⟩ := hxc (i * c + j) (by rw [HS.out]; exact hQ);have hxe : xs[i * c + j]'(by rw [HS.out]; exact hQ) = matE xs r c i j := by rw [matE_eq hir hjc, List.getD_eq_getElem?_getD, List.getElem?_eq_getElem (by rw [HS.out]; exact hQ)]; rfl
    have hze : zs[j] = zs.getD j 0 := by rw [List.getD_eq_getElem?_getD, List.getElem?_eq_getElem hjz]; rfl
    obtain ⟨P, hPe⟩ : ∃ P, i * c = P := ⟨_, rfl⟩;have hw1 : IntKind.i64.wrap ((i : Int) * (c : Int)) = (P : Int) := by
     rw [<- Int.natCast_mul, hPe]; exact wrap_small (by omega) (by omega)
    rw [hxe] at hnx;rw [hze] at hnz;rw [hPe] at x0 x1 hQ;obtain ⟨Q1, hQ1⟩ : ∃ q, P + j = q := ⟨_, rfl⟩;rw [hQ1] at x0 x1 hQ;have hv1 : IntKind.i64.wrap ((P : Int) + (j : Int)) = (Q1 : Int) := by
     rw [<- Int.natCast_add, hQ1]; exact wrap_small (by omega) (by omega)
    have hxl1 : (Q1 : Int) < (xs.length : Int) := by rw [HS.out]; omega
    obtain ⟨zz, hzz⟩ : ∃ u, zs.getD j 0 = u := ⟨_, rfl⟩;obtain ⟨xx, hxx⟩ : ∃ x, matE xs r c i j = x := ⟨_, rfl⟩;rw [hzz, hxx] at hok;rw [hzz] at hnz;rw [hxx] at hnx;obtain ⟨sz, hsz⟩ : ∃ s, zsign zz = s := ⟨_, rfl⟩;have t1 : decide (sz < 0) = false := by rw [<- hsz]; unfold zsign; rw [if_neg (by omega)]; split <;> rfl
    obtain ⟨sc, hsc⟩ : ∃ s, zcmp zz xx = s := ⟨_, rfl⟩;have t2 : decide (0 <= sc) = false := by rw [<- hsc]; unfold zcmp; rw [if_pos hok.2]; rfl
    have HSG := Lib.hid (And.intro hsz (And.intro hsc (And.intro t1 t2)));have hjc1 : (j : Int) < (c : Int) := by omega
    have hb2 : Below wr.heap.size wr (wr.alloc (.cells #[.bool pz.1, .slice pz.2.1 pz.2.2.1 pz.2.2.2] 45)) := (Below.refl _ _).alloc (Nat.le_refl _) _;have r2 := RowAt.new wr #[.bool pz.1, .slice pz.2.1 pz.2.2.1 pz.2.2.2] 45;have d1 := (hBw.cell (p := ⟨g, i, none⟩) hg).trans d0;have c0 := (hBw.cell (p := ⟨bz, oz + j * 2, none⟩) hbz).trans z0;have c1 := (hBw.cell (p := ⟨bz, oz + j * 2 + 1, none⟩) hbz).trans z1;have hgl : g < wr.heap.size := Nat.lt_of_lt_of_le hg hBw.size;have hBx := Lib.hid hBw;clear hBw hj hok hxe hze hPe hQ1 hzz hxx hsz hsc d0 z0 z1 hzc hxc hgc t1 t2;go_wp2;clear c0 c1;generalize wr.alloc (.cells #[.bool pz.1, .slice pz.2.1 pz.2.2.1 pz.2.2.2] 45) = w2 at *;have HB2 := Lib.hid (hB.out.trans (hb2.mono hB.out.size));have HBW := Lib.hid (hBx.out.trans (hb2.mono hBx.out.size));have A2 := RowAt.below HA.out HB2.out HA.out.lt;have ca1 : w2.cell? ⟨w.heap.size, 1, none⟩ = some (.int .i64 (c : Int)) := A2.cell 1;have ca2 : w2.cell? ⟨w.heap.size, 2, none⟩ = some (.slice (some ⟨bx, ox, none⟩) xs.length cap) := A2.cell 2;have cz0 : w2.cell? ⟨wr.heap.size, 0, none⟩ = some (.bool pz.1) := r2.cell 0;have cz1 : w2.cell? ⟨wr.heap.size, 1, none⟩ = some (.slice pz.2.1 pz.2.2.1 pz.2.2.2) := r2.cell 1;have cg : w2.cell? ⟨g, i, none⟩ = some (.int .i64 (j : Int)) := (hb2.cell (p := ⟨g, i, none⟩) hgl).trans d1;have cx0 := (HBW.out.cell (p := ⟨bx, ox + Q1 * 2, none⟩) hbx).trans x0;have cx1 := (HBW.out.cell (p := ⟨bx, ox + Q1 * 2 + 1, none⟩) hbx).trans x1;have NZ := Lib.hid ((hnz.below HBW.out).mono (L' := 549755813888) hmv);have NX := Lib.hid ((hnx.below HBW.out).mono (L' := 549755813888) hm);have hs9 := HB2.out.size;have hbx9 : bx < w2.heap.size := Nat.lt_of_lt_of_le hbx HBW.out.size;have hg9 : g < w2.heap.size := Nat.lt_of_lt_of_le hg HBW.out.size;have hr9 : wr.heap.size < w2.heap.size := r2.lt;have t1 : decide (sz < 0) = false := HSG.out.2.2.1;have t2 : decide (0 <= sc) = false := HSG.out.2.2.2;clear hnz hnx A2 r2 hb2 d1 x0 x1 hB;refine wp_region_J ⟨21, fun q_ => [22, 23, 24, 25, 26, 27, 28, 29, 30, 31, 32, 33, 34, 35, 36, 37, 38, 39, 40, 41, 42].getD q_ 0,
     fun q_ => [.val (.agg #[.bool pz.1, .slice pz.2.1 pz.2.2.1 pz.2.2.2]), .val (.int .i64 sz), .val (.bool false), .val (.bool false), .val (.agg #[.bool pz.1, .slice pz.2.1 pz.2.2.1 pz.2.2.2]), .val (.pointer (some ⟨w.heap.size, 2, none⟩)), .val (.slice (some ⟨bx, ox, none⟩) xs.length cap), .val (.int .i64 (i : Int)), .val (.pointer (some ⟨w.heap.size, 1, none⟩)), .val (.int .i64 (c : Int)), .val (.int .i64 (P : Int)), .val (.slice (some ⟨g, 0, none⟩) ls.length kl), .val (.int .i64 (i : Int)), .val (.pointer (some ⟨g, i, none⟩)), .val (.int .i64 (j : Int)), .val (.int .i64 (Q1 : Int)), .val (.pointer (some ⟨bx, ox + Q1 * 2, none⟩)), .val (.agg #[.bool px.1, .slice px.2.1 px.2.2.1 px.2.2.2]), .val (.int .i64 sc), .val (.bool false), .val (.bool false)].getD q_ .any,
     [],
     [(.agg #[.bool pz.1, .slice pz.2.1 pz.2.2.1 pz.2.2.2], .at_ 549755813888 zz), (.agg #[.bool px.1, .slice px.2.1 px.2.2.1 px.2.2.2], .at_ 549755813888 xx)],
     [],
     [], [(⟨w.heap.size, 1, none⟩, .int .i64 (c : Int)), (⟨w.heap.size, 2, none⟩, .slice (some ⟨bx, ox, none⟩) xs.length cap), (⟨wr.heap.size, 0, none⟩, .bool pz.1), (⟨wr.heap.size, 1, none⟩, .slice pz.2.1 pz.2.2.1 pz.2.2.2), (⟨bx, ox + Q1 * 2, none⟩, .bool px.1), (⟨bx, ox + Q1 * 2 + 1, none⟩, .slice px.2.1 px.2.2.1 px.2.2.2), (⟨g, i, none⟩, .int .i64 (j : Int))], []⟩ [22, 23, 24, 25, 26, 27, 28, 29, 30, 31, 32, 33, 34, 35, 36, 37, 38, 39, 40, 41, 42] (w2.heap.size) (by kernel_rfl) (by kernel_rfl) (by kernel_rfl) (by kernel_rfl) ?_ ?_ ?_ ?_ ?_ ?_
    · intro p hp;rcases mc hp with rfl | hp
      · exact NZ.out
      rcases mc hp with rfl | hp
      · exact NX.out
      cases hp
    · intro p hp;cases hp
    · intro p hp;rcases mc hp with rfl | hp
      · refine ⟨ca1, by show w.heap.size < w2.heap.size; omega, ?_⟩;intro t ht;cases ht
      rcases mc hp with rfl | hp
      · refine ⟨ca2, by show w.heap.size < w2.heap.size; omega, ?_⟩;intro t ht;cases ht
      rcases mc hp with rfl | hp
      · refine ⟨cz0, by show wr.heap.size < w2.heap.size; omega, ?_⟩;intro t ht;cases ht
      rcases mc hp with rfl | hp
      · refine ⟨cz1, by show wr.heap.size < w2.heap.size; omega, ?_⟩;intro t ht;cases ht
      rcases mc hp with rfl | hp
      · refine ⟨cx0, by show bx < w2.heap.size; omega, ?_⟩;intro t ht;cases ht
      rcases mc hp with rfl | hp
      · refine ⟨cx1, by show bx < w2.heap.size; omega, ?_⟩;intro t ht;cases ht
      rcases mc hp with rfl | hp
      · refine ⟨cg, by show g < w2.heap.size; omega, ?_⟩;intro t ht;cases ht
      cases hp
    · intro t ht;cases ht
    · refine allc ?_ (allc ?_ (allc ?_ (allc ?_ (allc ?_ (allc ?_ (allc ?_ (allc ?_ (allc ?_ (allc ?_ (allc ?_ (allc ?_ (allc ?_ (allc ?_ (allc ?_ (allc ?_ (allc ?_ (allc ?_ (allc ?_ (allc ?_ (allc ?_ alln))))))))))))))))))))
      · intro L fx w' hJ hL hp hcl;refine wps rfl fun K hK => ?_;have cl0 := (hJ.cells _ mm2).1;have cl1 := (hJ.cells _ mm3).1;try dsimp only at cl0 cl1
        go_simp;exact hJ.q hK (by kernel_rfl) rfl
      · intro L fx w' hJ hL hp hcl;have e0 := hJ.pt 0 22 (.agg #[.bool pz.1, .slice pz.2.1 pz.2.2.1 pz.2.2.2]) rfl rfl rfl (hp 0 (by decide));rw [e0] at hJ ⊢; clear e0;refine wps rfl fun K hK => ?_;go_simp;go_at_call 45;refine (RSign_c _ zz _ _ (show IntAt w' _ _ _ from hJ.base _ mm0) (by decide)).mono ?_;rw [HSG.out.1];rintro e w4 ⟨rfl, hb4⟩;try dsimp only
        exact hK _ _ ⟨_, by kernel_rfl, hJ.gC 1 rfl (by kernel_rfl) hb4 rfl (by omega)⟩
      · intro L fx w' hJ hL hp hcl;have e1 := hJ.pt 1 23 (.int .i64 sz) rfl rfl rfl (hp 1 (by decide));rw [e1] at hJ ⊢; clear e1;refine wps rfl fun K hK => ?_;go_simp;exact hJ.q hK (by kernel_rfl) rfl
      · intro L fx w' hJ hL hp hcl;have e2 := hJ.pt 2 24 (.bool false) rfl rfl rfl (hp 2 (by decide));rw [e2] at hJ ⊢; clear e2;refine wps rfl fun K hK => ?_;go_simp;exact hJ.q hK (by kernel_rfl) rfl
      · intro L fx w' hJ hL hp hcl;have e3 := hJ.pt 3 25 (.bool false) rfl rfl rfl (hp 3 (by decide));rw [e3] at hJ ⊢; clear e3;refine wpOp_stepG (o := ?o4) ?ho4 ?h4 ?k4
        case ho4 => rfl
        case h4 => kernel_rfl
        intro K hK;have cl0 := (hJ.cells _ mm2).1;have cl1 := (hJ.cells _ mm3).1;try dsimp only at cl0 cl1
        go_simp;exact hJ.q hK (by kernel_rfl) rfl
      · intro L fx w' hJ hL hp hcl;have e3 := hJ.pt 3 25 (.bool false) rfl rfl rfl (hp 3 (by decide));rw [e3] at hJ ⊢; clear e3;refine wpOp_stepG (o := ?o5) ?ho5 ?h5 ?k5
        case ho5 => rfl
        case h5 => kernel_rfl
        intro K hK;go_simp;exact hJ.q hK (by kernel_rfl) rfl
      · intro L fx w' hJ hL hp hcl;have e3 := hJ.pt 3 25 (.bool false) rfl rfl rfl (hp 3 (by decide));rw [e3] at hJ ⊢; clear e3;have e5 := hJ.pt 5 27 (.pointer (some ⟨w.heap.size, 2, none⟩)) rfl rfl rfl (hp 5 (by decide));rw [e5] at hJ ⊢; clear e5;refine wpOp_stepG (o := ?o6) ?ho6 ?h6 ?k6
        case ho6 => rfl
        case h6 => kernel_rfl
        intro K hK;have cl0 := (hJ.cells _ mm1).1;try dsimp only at cl0
        go_simp;exact hJ.q hK (by kernel_rfl) rfl
      · intro L fx w' hJ hL hp hcl;have e3 := hJ.pt 3 25 (.bool false) rfl rfl rfl (hp 3 (by decide));rw [e3] at hJ ⊢; clear e3;refine wpOp_stepG (o := ?o7) ?ho7 ?h7 ?k7
        case ho7 => rfl
        case h7 => kernel_rfl
        intro K hK;go_simp;exact hJ.q hK (by kernel_rfl) rfl
      · intro L fx w' hJ hL hp hcl;have e3 := hJ.pt 3 25 (.bool false) rfl rfl rfl (hp 3 (by decide));rw [e3] at hJ ⊢; clear e3;refine wpOp_stepG (o := ?o8) ?ho8 ?h8 ?k8
        case ho8 => rfl
        case h8 => kernel_rfl
        intro K hK;go_simp;exact hJ.q hK (by kernel_rfl) rfl
      · intro L fx w' hJ hL hp hcl;have e3 := hJ.pt 3 25 (.bool false) rfl rfl rfl (hp 3 (by decide));rw [e3] at hJ ⊢; clear e3;have e8 := hJ.pt 8 30 (.pointer (some ⟨w.heap.size, 1, none⟩)) rfl rfl rfl (hp 8 (by decide));rw [e8] at hJ ⊢; clear e8;refine wpOp_stepG (o := ?o9) ?ho9 ?h9 ?k9
        case ho9 => rfl
        case h9 => kernel_rfl
        intro K hK;have cl0 := (hJ.cells _ mm0).1;try dsimp only at cl0
        go_simp;exact hJ.q hK (by kernel_rfl) rfl
      · intro L fx w' hJ hL hp hcl;have e3 := hJ.pt 3 25 (.bool false) rfl rfl rfl (hp 3 (by decide));rw [e3] at hJ ⊢; clear e3;have e7 := hJ.pt 7 29 (.int .i64 (i : Int)) rfl rfl rfl (hp 7 (by decide));rw [e7] at hJ ⊢; clear e7;have e9 := hJ.pt 9 31 (.int .i64 (c : Int)) rfl rfl rfl (hp 9 (by decide));rw [e9] at hJ ⊢; clear e9;refine wpOp_stepG (o := ?o10) ?ho10 ?h10 ?k10
        case ho10 => rfl
        case h10 => kernel_rfl
        intro K hK;go_simp;exact hJ.q hK (by kernel_rfl) rfl
      · intro L fx w' hJ hL hp hcl;have e3 := hJ.pt 3 25 (.bool false) rfl rfl rfl (hp 3 (by decide));rw [e3] at hJ ⊢; clear e3;refine wpOp_stepG (o := ?o11) ?ho11 ?h11 ?k11
        case ho11 => rfl
        case h11 => kernel_rfl
        intro K hK;go_simp;exact hJ.q hK (by kernel_rfl) rfl
      · intro L fx w' hJ hL hp hcl;have e3 := hJ.pt 3 25 (.bool false) rfl rfl rfl (hp 3 (by decide));rw [e3] at hJ ⊢; clear e3;refine wpOp_stepG (o := ?o12) ?ho12 ?h12 ?k12
        case ho12 => rfl
        case h12 => kernel_rfl
        intro K hK;go_simp;exact hJ.q hK (by kernel_rfl) rfl
      · intro L fx w' hJ hL hp hcl;have e3 := hJ.pt 3 25 (.bool false) rfl rfl rfl (hp 3 (by decide));rw [e3] at hJ ⊢; clear e3;have e11 := hJ.pt 11 33 (.slice (some ⟨g, 0, none⟩) ls.length kl) rfl rfl rfl (hp 11 (by decide));rw [e11] at hJ ⊢; clear e11;have e12 := hJ.pt 12 34 (.int .i64 (i : Int)) rfl rfl rfl (hp 12 (by decide));rw [e12] at hJ ⊢; clear e12;refine wpOp_stepG (o := ?o13) ?ho13 ?h13 ?k13
        case ho13 => rfl
        case h13 => kernel_rfl
        intro K hK;go_simp;exact hJ.q hK (by kernel_rfl) rfl
      · intro L fx w' hJ hL hp hcl;have e3 := hJ.pt 3 25 (.bool false) rfl rfl rfl (hp 3 (by decide));rw [e3] at hJ ⊢; clear e3;have e13 := hJ.pt 13 35 (.pointer (some ⟨g, i, none⟩)) rfl rfl rfl (hp 13 (by decide));rw [e13] at hJ ⊢; clear e13;refine wpOp_stepG (o := ?o14) ?ho14 ?h14 ?k14
        case ho14 => rfl
        case h14 => kernel_rfl
        intro K hK;have cl0 := (hJ.cells _ mm6).1;try dsimp only at cl0
        go_simp;exact hJ.q hK (by kernel_rfl) rfl
      · intro L fx w' hJ hL hp hcl;have e3 := hJ.pt 3 25 (.bool false) rfl rfl rfl (hp 3 (by decide));rw [e3] at hJ ⊢; clear e3;have e10 := hJ.pt 10 32 (.int .i64 (P : Int)) rfl rfl rfl (hp 10 (by decide));rw [e10] at hJ ⊢; clear e10;have e14 := hJ.pt 14 36 (.int .i64 (j : Int)) rfl rfl rfl (hp 14 (by decide));rw [e14] at hJ ⊢; clear e14;refine wpOp_stepG (o := ?o15) ?ho15 ?h15 ?k15
        case ho15 => rfl
        case h15 => kernel_rfl
        intro K hK;go_simp;exact hJ.q hK (by kernel_rfl) rfl
      · intro L fx w' hJ hL hp hcl;have e3 := hJ.pt 3 25 (.bool false) rfl rfl rfl (hp 3 (by decide));rw [e3] at hJ ⊢; clear e3;have e6 := hJ.pt 6 28 (.slice (some ⟨bx, ox, none⟩) xs.length cap) rfl rfl rfl (hp 6 (by decide));rw [e6] at hJ ⊢; clear e6;have e15 := hJ.pt 15 37 (.int .i64 (Q1 : Int)) rfl rfl rfl (hp 15 (by decide));rw [e15] at hJ ⊢; clear e15;refine wpOp_stepG (o := ?o16) ?ho16 ?h16 ?k16
        case ho16 => rfl
        case h16 => kernel_rfl
        intro K hK;go_simp;exact hJ.q hK (by kernel_rfl) rfl
      · intro L fx w' hJ hL hp hcl;have e3 := hJ.pt 3 25 (.bool false) rfl rfl rfl (hp 3 (by decide));rw [e3] at hJ ⊢; clear e3;have e16 := hJ.pt 16 38 (.pointer (some ⟨bx, ox + Q1 * 2, none⟩)) rfl rfl rfl (hp 16 (by decide));rw [e16] at hJ ⊢; clear e16;refine wpOp_stepG (o := ?o17) ?ho17 ?h17 ?k17
        case ho17 => rfl
        case h17 => kernel_rfl
        intro K hK;have cl0 := (hJ.cells _ mm4).1;have cl1 := (hJ.cells _ mm5).1;try dsimp only at cl0 cl1
        go_simp;exact hJ.q hK (by kernel_rfl) rfl
      · intro L fx w' hJ hL hp hcl;have e3 := hJ.pt 3 25 (.bool false) rfl rfl rfl (hp 3 (by decide));rw [e3] at hJ ⊢; clear e3;have e4 := hJ.pt 4 26 (.agg #[.bool pz.1, .slice pz.2.1 pz.2.2.1 pz.2.2.2]) rfl rfl rfl (hp 4 (by decide));rw [e4] at hJ ⊢; clear e4;have e17 := hJ.pt 17 39 (.agg #[.bool px.1, .slice px.2.1 px.2.2.1 px.2.2.2]) rfl rfl rfl (hp 17 (by decide));rw [e17] at hJ ⊢; clear e17;refine wpOp_stepG (o := ?o18) ?ho18 ?h18 ?k18
        case ho18 => rfl
        case h18 => kernel_rfl
        intro K hK;go_simp;go_at_call 34;refine (RCmp_c _ _ zz xx _ _ (show IntAt w' _ _ _ from hJ.base _ mm0) (show IntAt w' _ _ _ from hJ.base _ mm1) (by decide)).mono ?_;rw [HSG.out.2.1];rintro e w4 ⟨rfl, hb4⟩;try dsimp only
        exact hK _ _ ⟨_, by kernel_rfl, hJ.gC 18 rfl (by kernel_rfl) hb4 rfl (by omega)⟩
      · intro L fx w' hJ hL hp hcl;have e3 := hJ.pt 3 25 (.bool false) rfl rfl rfl (hp 3 (by decide));rw [e3] at hJ ⊢; clear e3;have e18 := hJ.pt 18 40 (.int .i64 sc) rfl rfl rfl (hp 18 (by decide));rw [e18] at hJ ⊢; clear e18;refine wpOp_stepG (o := ?o19) ?ho19 ?h19 ?k19
        case ho19 => rfl
        case h19 => kernel_rfl
        intro K hK;go_simp;exact hJ.q hK (by kernel_rfl) rfl
      · intro L fx w' hJ hL hp hcl;have e3 := hJ.pt 3 25 (.bool false) rfl rfl rfl (hp 3 (by decide));rw [e3] at hJ ⊢; clear e3;have e19 := hJ.pt 19 41 (.bool false) rfl rfl rfl (hp 19 (by decide));rw [e19] at hJ ⊢; clear e19;refine wps rfl fun K hK => ?_;go_simp;exact hJ.q hK (by kernel_rfl) rfl
    · intro L x' w7 hL hJ;have hfr : Below w2.drew.heap.size w2.drew w7 := hJ.fr;have e20 : x' 42 = .bool false := hJ.slot 20 (by show 20 < 21; decide) (hL 20 (by show 20 < 21; decide));rw [patchX (x := x') (d := 42) e20];have B7 := Lib.hid (HB2.out.trans (((Below.refl w1.heap.size w2).drew).trans (hfr.mono HB2.out.size)));clear hJ hL ca1 ca2 cz0 cz1 cx0 cx1 cg e20 t1 t2;simp only [pN, Nat.reduceEqDiff, ↓reduceIte];go_wp2;go_roundw
      case rel => exact ⟨i + 1, by omega, by go_num, B7⟩
      case measure => simp [intOf]; omega
  · obtain rfl : i = ls.length := by omega
    go_wp2;go_ret;exact ⟨rfl, HB.out.trans (hB.out.mono HB.out.size)⟩
end Go.Proofs.YtknkkceioockjaaGreat
namespace Go.Proofs.YtknkkceioockjaaGreat
theorem Pvs.zero {r c : Nat} {E : Nat -> Nat -> Int} {ls : List Nat} (h : Pvs r c E ls) : ∀ a, ls.length <= a -> a < r -> ∀ b, E a b = 0 := by
 obtain ⟨i, hi, hp, hz⟩ := h;rw [hp.len]; exact hz
theorem Herm.len_eq {r c k n : Nat} {E : Nat -> Nat -> Int} {l l' : Nat -> Nat} (h : Herm k c E l) (h' : Herm n c E l') (hk : k <= r) (hn : n <= r) (z : ∀ a, k <= a -> a < r -> ∀ b, E a b = 0) (z' : ∀ a, n <= a -> a < r -> ∀ b, E a b = 0) : k = n := by
 rcases Nat.lt_trichotomy k n with e | e | e
 · have := h'.pos k e; rw [z k (Nat.le_refl _) (by omega)] at this; omega
 · exact e
 · have := h.pos n e; rw [z' n (Nat.le_refl _) (by omega)] at this; omega
theorem Pvs.unique {r c : Nat} {E : Nat -> Nat -> Int} {ls ls' : List Nat} (h : Pvs r c E ls) (h' : Pvs r c E ls') : ls = ls' := by
 have e := Herm.len_eq h.ech h'.ech h.len h'.len h.zero h'.zero;refine List.ext_getElem e fun i h1 h2 => ?_;have a1 := h.ech.leadAt h1 (h'.ech.zero i h2) (by have := h'.ech.pos i h2; omega);have a2 : ls.getD i 0 = ls'.getD i 0 := a1;rw [List.getD_eq_getElem?_getD, List.getD_eq_getElem?_getD, List.getElem?_eq_getElem h1, List.getElem?_eq_getElem h2] at a2;exact a2
theorem IsHnf.len_pvs {r c k : Nat} {xs hs : List Int} {l : Nat -> Nat} {ls : List Nat} (h : IsHnf r c xs hs k l) (h' : Pvs r c (matE hs r c) ls) : k = ls.length :=
 Herm.len_eq h.herm h'.ech h.kr h'.len (fun a h1 _ b => h.zero a h1 b) h'.zero
theorem RestIs.red {r c : Nat} {E : Nat -> Nat -> Int} {ls : List Nat} {v : Nat -> Int} {zs cs : List Int} (h : RestIs r c E ls v zs cs) (hp : Pvs r c E ls) : ∀ k, k < ls.length -> 0 <= zs.getD (ls.getD k 0) 0 /\ zs.getD (ls.getD k 0) 0 < E k (ls.getD k 0) := by
 intro k hk;rw [h.rest _ (hp.ech.lt k hk)];exact rsN_red hp.ech.toEch v ls.length (Nat.le_refl _) k hk
theorem sm_cut {n m : Nat} (h : n <= m) {f : Nat -> Int} (hz : ∀ k, n <= k -> k < m -> f k = 0) : sm m f = sm n f := by
 obtain ⟨d, rfl⟩ : ∃ d, m = n + d := ⟨m - n, by omega⟩;rw [sm_split, sm_zero (n := d) (fun k hk => hz (n + k) (by omega) (by omega))];omega
theorem RestIs.sum {r c : Nat} {E : Nat -> Nat -> Int} {ls : List Nat} {v : Nat -> Int} {zs cs : List Int} (h : RestIs r c E ls v zs cs) (hp : Pvs r c E ls) {j : Nat} (hj : j < c) : vm cs E j r + zs.getD j 0 = v j := by
 rw [h.rest j hj, rsN_sum E (fun a => ls.getD a 0) v ls.length j];have e : vm cs E j r = sm ls.length (fun i => rsQ E (fun a => ls.getD a 0) v i * E i j) := by
  show sm r (fun a => cs.getD a 0 * E a j) = _;rw [sm_cut hp.len (fun k h1 h2 => by rw [h.mult k h2, if_neg (by omega), Int.zero_mul])];exact sm_congr (fun k hk => by rw [h.mult k (by have := hp.len; omega), if_pos hk])
 omega
theorem RestIs.zero {r c : Nat} {E : Nat -> Nat -> Int} {ls : List Nat} {v : Nat -> Int} {zs cs : List Int} (h : RestIs r c E ls v zs cs) {a : Nat} (h1 : ls.length <= a) (h2 : a < r) : cs.getD a 0 = 0 := by
 rw [h.mult a h2, if_neg (by omega)]
theorem RestIs.bd {r c m k : Nat} {E : Nat -> Nat -> Int} {ls : List Nat} {v : Nat -> Int} {zs cs : List Int} (h : RestIs r c E ls v zs cs) (hp : Pvs r c E ls) (hr : r <= 64) (hE : ∀ i b, i < ls.length -> b < c -> (E i b).natAbs < W ^ m) (hv : ∀ b, b < c -> (v b).natAbs < W ^ k) :
 (∀ x ∈ zs, x.natAbs < W ^ (k + 64 * (m + 1))) /\ ∀ x ∈ cs, x.natAbs < W ^ (k + 64 * (m + 1)) := by
 have hb := rsN_bd hp.ech.toEch hE hv;have hl := hp.len;have up : ∀ i, i <= ls.length -> W ^ (k + i * (m + 1)) <= W ^ (k + 64 * (m + 1)) := fun i hi => Nat.pow_le_pow_right (by decide) (Nat.add_le_add_left (Nat.mul_le_mul_right _ (by omega)) _);refine ⟨fun x hx => ?_, fun x hx => ?_⟩
 · obtain ⟨b, hb1, rfl⟩ := List.getElem_of_mem hx;have hbc : b < c := by rw [<- h.zlen]; exact hb1
   have e := h.rest b hbc;rw [List.getD_eq_getElem?_getD, List.getElem?_eq_getElem hb1] at e;have e : zs[b] = _ := e;rw [e];exact Nat.lt_of_lt_of_le (hb ls.length (Nat.le_refl _) b hbc) (up _ (Nat.le_refl _))
 · obtain ⟨a, ha1, rfl⟩ := List.getElem_of_mem hx;have har : a < r := by rw [<- h.clen]; exact ha1
   have e := h.mult a har;rw [List.getD_eq_getElem?_getD, List.getElem?_eq_getElem ha1] at e;have e : cs[a] = _ := e;rw [e];split
   · rename_i hal;have h9 := hb a (by omega) _ (hp.ech.lt a hal);exact Nat.lt_of_le_of_lt (rsQ_bd hp.ech.toEch v hal (Nat.le_refl _)) (Nat.lt_of_lt_of_le h9 (up a (by omega)))
   · exact Nat.pow_pos (by decide)
theorem RestIs.same {r c k : Nat} {xs hs : List Int} {l : Nat -> Nat} {ls : List Nat} {u v : Nat -> Int} {zs cs zs' cs' : List Int} (hh : IsHnf r c xs hs k l) (hp : Pvs r c (matE hs r c) ls) (h : RestIs r c (matE hs r c) ls u zs cs) (h' : RestIs r c (matE hs r c) ls v zs' cs')
 (hd : Sp r (matE xs r c) (fun b => u b - v b)) : zs = zs' := by
 have hk := hh.len_pvs hp;have h1 : Sp ls.length (matE hs r c) (fun b => u b - v b) := by rw [<- hk]; exact hh.sp.sp.1 hd
 refine List.ext_getElem (h.zlen.trans h'.zlen.symm) fun b b1 b2 => ?_;have hb : b < c := by rw [<- h.zlen]; exact b1
 have e := (h.rest b hb).trans ((rsN_class hp.ech.toEch h1 b).trans (h'.rest b hb).symm);rw [List.getD_eq_getElem?_getD, List.getD_eq_getElem?_getD, List.getElem?_eq_getElem b1, List.getElem?_eq_getElem b2] at e;exact e
end Go.Proofs.YtknkkceioockjaaGreat
namespace Go.Proofs.YtknkkceioockjaaGreat
open Go.RowKit
set_option maxRecDepth 100000 in
set_option maxHeartbeats 4000000 in
theorem Of18_c (n : Nat) (w : World) (h0 : 0 < n) (h1 : n < W) :
 Calls Tryz.prog 21 #[.int .u64 (n : Int)] w fun e w' => (e = .returned (.agg #[.bool false, .slice (some ⟨w.heap.size + 1, 0, none⟩) 1 1]) /\ NumAt w' (.agg #[.bool false, .slice (some ⟨w.heap.size + 1, 0, none⟩) 1 1]) (n : Int)) /\ Below w.heap.size w w' := by
 obtain ⟨r1, r2, hb⟩ := two_new w #[.bool false, .slice (some ⟨w.heap.size + 1, 0, none⟩) 1 1] #[.int .u64 (n : Int)] 45 49;have hw2 : WAt ((w.alloc (.cells #[.bool false, .slice (some ⟨w.heap.size + 1, 0, none⟩) 1 1] 45)).alloc (.cells #[.int .u64 (n : Int)] 49)) (some ⟨w.heap.size + 1, 0, none⟩) [n] := RowAt.wat (ws := [n]) r2 (Ok.one h1);have hv1 : nval [n] = n := by simp [nval]
 have hwl : wlen n = 1 := by
  have e1 : wlen n ≠ 0 := fun e => by have := wlen_eq_zero.1 e; omega
  have e2 : wlen n <= 1 := wlen_le_of_lt (by simpa using h1);omega
 have hI : IntAt ((w.alloc (.cells #[.bool false, .slice (some ⟨w.heap.size + 1, 0, none⟩) 1 1] 45)).alloc (.cells #[.int .u64 (n : Int)] 49)) (wlen ((n : Int)).natAbs) (.agg #[.bool false, .slice (some ⟨w.heap.size + 1, 0, none⟩) 1 1]) (n : Int) :=
  ⟨false, _, 1, 1, [n], rfl, hw2, rfl, by rw [Int.natAbs_natCast, hwl]; exact Nat.le_refl _, Nat.le_refl _, by rw [hv1]; rfl⟩
 have HI := Lib.hid hI;have HR6 := Lib.hid r1;have HB := Lib.hid hb;clear hI hw2 hv1 hb r2 r1 hwl;go_enter Tryz.func21, Tryz.ntmps21;go_wp2;refine bodyPost_ret (results_int (p := 2) (by kernel_rfl) _ _ w.heap.size _ _ rfl HR6.out) rfl ?_;exact ⟨⟨rfl, HI.out, ⟨_, by rw [show decide ((n : Int) < 0) = false by simp]⟩⟩, HB.out⟩
theorem hnf_wake : IsHnf 2 1 [4, 6] [2, 0] 1 (fun _ => 0) := by
 have e0 : ∀ i j, matE [2, 0] 2 1 i j = if i = 0 /\ j = 0 then 2 else 0 := fun i j => by
  unfold matE;by_cases h : i < 2 /\ j < 1
  · obtain ⟨h1, h2⟩ := h;obtain rfl : j = 0 := by omega
    rw [if_pos ⟨h1, h2⟩];have : i = 0 ∨ i = 1 := by omega
    rcases this with rfl | rfl <;> rfl
  · rw [if_neg h, if_neg (by omega)]
 have e1 : ∀ i j, matE [4, 6] 2 1 i j = if i = 0 /\ j = 0 then 4 else if i = 1 /\ j = 0 then 6 else 0 := fun i j => by
  unfold matE;by_cases h : i < 2 /\ j < 1
  · obtain ⟨h1, h2⟩ := h;obtain rfl : j = 0 := by omega
    rw [if_pos ⟨h1, h2⟩];have : i = 0 ∨ i = 1 := by omega
    rcases this with rfl | rfl <;> rfl
  · rw [if_neg h, if_neg (by omega), if_neg (by omega)]
 refine ⟨rfl, by omega, ⟨⟨fun i k _ _ => by omega, fun i _ => by omega, fun i _ j hj => by omega, fun i hi => ?_⟩, fun i k _ _ => by omega⟩, fun i hi b => ?_, ?_⟩
 · obtain rfl : i = 0 := by omega
   rw [e0]; decide
 · rw [e0, if_neg (by omega)]
 · refine ⟨fun k hk => ?_, fun k hk => ?_⟩
   · have hk' : k = 0 ∨ k = 1 := by omega
     rcases hk' with rfl | rfl
     · exact ((Sp.row (matE [2, 0] 2 1) (k := 0) (n := 1) (by omega)).smul 2).congr (fun j => by
        rw [e0, e1]; by_cases h : j = 0 <;> simp [h])
     · exact ((Sp.row (matE [2, 0] 2 1) (k := 0) (n := 1) (by omega)).smul 3).congr (fun j => by
        rw [e0, e1]; by_cases h : j = 0 <;> simp [h])
   · obtain rfl : k = 0 := by omega
     exact ((Sp.row (matE [4, 6] 2 1) (k := 1) (n := 2) (by omega)).sub (Sp.row (matE [4, 6] 2 1) (k := 0) (n := 2) (by omega))).congr (fun j => by
      rw [e0, e1, e1]; by_cases h : j = 0 <;> simp [h])
theorem row2 {w : World} {p q : P4} {x y : Int} (hp : NumAt w (av p) x) (hq : NumAt w (av q) y) : RowN (w.alloc (.cells #[.bool p.1, .slice p.2.1 p.2.2.1 p.2.2.2, .bool q.1, .slice q.2.1 q.2.2.1 q.2.2.2] 45)) w.heap.size [x, y] := by
 have hb : Below w.heap.size w (w.alloc (.cells #[.bool p.1, .slice p.2.1 p.2.2.1 p.2.2.2, .bool q.1, .slice q.2.1 q.2.2.1 q.2.2.2] 45)) := (Below.refl _ _).alloc (Nat.le_refl _) _;refine ⟨[p, q], RowAt.new w _ _, rfl, fun i h1 h2 => ?_⟩;match i, h1, h2 with
 | 0, _, _ => exact NumAt.below hp hb
 | 1, _, _ => exact NumAt.below hq hb
theorem LsN.lsAt {w : World} {L : Nat} {ao : Option Addr} {xs : List Int} (h : LsN w ao xs) (hL : ∀ x ∈ xs, wlen x.natAbs <= L) : LsAt w L ao xs := by
 intro hl;obtain ⟨b, o, e, hlt, hc⟩ := h hl;exact ⟨b, o, e, hlt, fun i hi => by
  obtain ⟨p, h0, h1, hn⟩ := hc i hi;exact ⟨p, h0, h1, hn.int (hL _ (List.getElem_mem hi))⟩⟩
set_option maxRecDepth 100000 in
set_option maxHeartbeats 4000000 in
theorem Wakes_c (w : World) :
 Calls Tryz.prog 10 #[] w fun e w' => e = .returned (.bool true) /\ Below w.heap.size w w' := by
 go_enter Tryz.func10, Tryz.ntmps10;go_wp2_with fail
 refine (Of18_c 4 _ (by omega) (by decide)).mono ?_;rintro e w1 ⟨⟨rfl, h4⟩, hb1⟩;have H4 := Lib.hid h4; clear h4;go_wp2_with fail
 refine (Of18_c 6 _ (by omega) (by decide)).mono ?_;rintro e w2 ⟨⟨rfl, h6⟩, hb2⟩;have HN4 := Lib.hid (NumAt.below H4.out hb2);have HN6 := Lib.hid h6;have HB2 := Lib.hid (hb1.trans (hb2.mono hb1.size));clear h6 hb1 hb2 H4;have hW6 : ∀ x ∈ ([4, 6] : List Int), x.natAbs < W ^ 1 := fun x hx => by simp at hx; rcases hx with rfl | rfl <;> decide
 have hrw := row2 (p := (false, some ⟨w.heap.size + 1, 0, none⟩, 1, 1)) (q := (false, some ⟨w1.heap.size + 1, 0, none⟩, 1, 1)) HN4.out HN6.out;have hb3 : Below w2.heap.size w2 (w2.alloc (.cells #[.bool false, .slice (some ⟨w.heap.size + 1, 0, none⟩) 1 1, .bool false, .slice (some ⟨w1.heap.size + 1, 0, none⟩) 1 1] 45)) := (Below.refl _ _).alloc (Nat.le_refl _) _;have HF3 := Lib.hid (Form_c 2 1 1 (some ⟨w2.heap.size, 0, none⟩) 2 2 [4, 6] _ (by omega) (by omega) (hrw.lsN.lsAt (fun x hx => Nat.le_trans (wlen_le_of_lt (hW6 x hx)) (by omega))) hW6 (by omega) rfl rfl);have HB3 := Lib.hid (HB2.out.trans (hb3.mono HB2.out.size));clear hrw hW6 hb3 HN4 HN6;go_wp2_with fail
 refine HF3.out.mono ?_;rintro e w4 ⟨⟨b, hs, k, l, rfl, hbb, hR, hH, hbd⟩, hb4⟩;obtain ⟨rfl, -, -⟩ := hH.unique hnf_wake;have HR := Lib.hid hR;have HB4 := Lib.hid (HB3.out.trans (hb4.mono HB3.out.size));have rB := RowAt.new w4 #[.int .i64 2, .int .i64 1, .slice (some ⟨b, 0, none⟩) 2 2] 24;have hb5 : Below w4.heap.size w4 (w4.alloc (.cells #[.int .i64 2, .int .i64 1, .slice (some ⟨b, 0, none⟩) 2 2] 24)) := (Below.refl _ _).alloc (Nat.le_refl _) _;clear hR hH hbd hb4 HF3;go_wp2;generalize w4.alloc (.cells #[.int .i64 2, .int .i64 1, .slice (some ⟨b, 0, none⟩) 2 2] 24) = w5 at *;have HR5 := Lib.hid (HR.out.below hb5);have HB5 := Lib.hid (HB4.out.trans (hb5.mono HB4.out.size));have RB := Lib.hid rB;have z0 := RB.out.cell 0;have z1 := RB.out.cell 1;have z2 := RB.out.cell 2;simp only [List.getElem?_cons_zero, List.getElem?_cons_succ] at z0 z1 z2;have hs5 : w4.heap.size < w5.heap.size := RB.out.lt;clear rB hb5;refine wp_region_any (by kernel_rfl) ?_;try (change wpAny _ _ _ _ _ _ _ (World.drew _))
 refine wpAny_take (i := 0) (v := ?_) rfl (by kernel_rfl) (by kernel_rfl) (by kernel_rfl) (fun _ _ _ h => h) (Or.inl ⟨by kernel_rfl, ?_⟩) ?_;rotate_left
 · intro w; go_simp; try (with_reducible rfl)
 refine wpAny_take (i := 1) (v := ?_) rfl (by kernel_rfl) (by kernel_rfl) (by kernel_rfl) (fun _ _ _ h => h) (Or.inl ⟨by kernel_rfl, ?_⟩) ?_;rotate_left
 · intro w; go_simp; try (with_reducible rfl)
 refine wpAny_take (i := 2) (v := ?_) rfl (by kernel_rfl) (by kernel_rfl) (by kernel_rfl) (fun _ _ _ h => h) (Or.inl ⟨by kernel_rfl, ?_⟩) ?_;rotate_left
 · intro w; go_simp; try (with_reducible rfl)
 refine wpAny_take (i := 5) (v := ?_) rfl (by kernel_rfl) (by kernel_rfl) (by kernel_rfl) (fun _ _ _ h => h) (Or.inl ⟨by kernel_rfl, ?_⟩) ?_;rotate_left
 · intro w; go_simp; try (with_reducible rfl)
 refine wpAny_ready (rs := [3, 4]) (by kernel_rfl) (by simp) ?_;refine AllReady.cons rfl (fun K hK => ?_) (AllReady.cons rfl (fun K hK => ?_) AllReady.nil)
 · go_simp;refine hK _ _ ?_;clear hK K;refine wpAny_ready (rs := [4]) (by kernel_rfl) (by simp) ?_;refine AllReady.cons rfl (fun K hK => ?_) AllReady.nil;go_simp;go_wp2_with (first | (go_at_call 21; refine (Of18_c 2 _ (by omega) (by decide)).mono ?_; rintro e w6 ⟨⟨rfl, h2⟩, hb6⟩; have H2 := Lib.hid h2; clear h2; have hs6 : w4.heap.size < w6.heap.size := Nat.lt_of_lt_of_le hs5 hb6.size; have y0 := (hb6.cell (p := ⟨w4.heap.size, 0, none⟩) hs5).trans z0; have y1 := (hb6.cell (p := ⟨w4.heap.size, 1, none⟩) hs5).trans z1; have y2 := (hb6.cell (p := ⟨w4.heap.size, 2, none⟩) hs5).trans z2))
   refine wpAny_ready (rs := [6]) (by kernel_rfl) (by simp) ?_;refine AllReady.cons rfl (fun K hK => ?_) AllReady.nil;go_simp;refine hK _ _ ?_;clear hK K;refine wpAny_take (i := 7) (v := ?_) rfl (by kernel_rfl) (by kernel_rfl) (by kernel_rfl) (fun _ _ _ h => h) (Or.inl ⟨by kernel_rfl, ?_⟩) ?_;rotate_left
   · intro w; go_simp; try (with_reducible rfl)
   have hrw := row2 (p := (false, some ⟨w5.heap.size + 1, 0, none⟩, 1, 1)) (q := p0) H2.out (NumAt.zero w6);have hb7 : Below w6.heap.size w6 (w6.alloc (.cells #[.bool false, .slice (some ⟨w5.heap.size + 1, 0, none⟩) 1 1, .bool false, .slice none 0 0] 45)) := (Below.refl _ _).alloc (Nat.le_refl _) _;have hb67 : Below w5.heap.size w5 (w6.alloc (.cells #[.bool false, .slice (some ⟨w5.heap.size + 1, 0, none⟩) 1 1, .bool false, .slice none 0 0] 45)) := ((Below.refl _ w5).drew.trans hb6).trans (hb7.mono hb6.size);have HAM := Lib.hid (AlikeMats_c 2 1 2 1 (some ⟨b, 0, none⟩) (some ⟨w6.heap.size, 0, none⟩) 2 2 2 2 [2, 0] [2, 0] _ (HR5.out.below hb67).lsN hrw.lsN rfl rfl (by omega) (by omega) (by intro x hx; simp at hx; rcases hx with rfl | rfl <;> exact Nat.le_trans (wlen_le_of_lt (k := 1) (by decide)) (by omega)) (by intro x hx; simp at hx; rcases hx with rfl | rfl <;> exact Nat.le_trans (wlen_le_of_lt (k := 1) (by decide)) (by omega)));have HB7 := Lib.hid (HB5.out.trans (hb67.mono HB5.out.size));clear hrw hb7 hb67;refine wpAny_ready (rs := [8]) (by kernel_rfl) (by simp) ?_;refine AllReady.cons rfl (fun K hK => ?_) AllReady.nil;go_simp;go_wp2_with (first | (go_at_call 14; refine HAM.out.mono ?_; rintro e w8 ⟨rfl, hb8⟩))
   refine wpAny_take (i := 9) (v := ?_) rfl (by kernel_rfl) (by kernel_rfl) (by kernel_rfl) (fun _ _ _ h => h) (Or.inl ⟨by kernel_rfl, ?_⟩) ?_;rotate_left
   · intro w; go_simp; try (with_reducible rfl)
   refine wpAny_take (i := 10) (v := ?_) rfl (by kernel_rfl) (by kernel_rfl) (by kernel_rfl) (fun _ _ _ h => h) (Or.inl ⟨by kernel_rfl, ?_⟩) ?_;rotate_left
   · intro w; go_simp; try (with_reducible rfl)
   refine wpAny_done (by kernel_rfl) ?_ _;go_simp;have HB8 := Lib.hid (HB7.out.trans (hb8.mono HB7.out.size));go_wp2;go_ret;exact ⟨rfl, HB8.out⟩
 · go_simp;go_wp2_with (first | (go_at_call 21; refine (Of18_c 2 _ (by omega) (by decide)).mono ?_; rintro e w6 ⟨⟨rfl, h2⟩, hb6⟩; have H2 := Lib.hid h2; clear h2; have hs6 : w4.heap.size < w6.heap.size := Nat.lt_of_lt_of_le hs5 hb6.size; have y0 := (hb6.cell (p := ⟨w4.heap.size, 0, none⟩) hs5).trans z0; have y1 := (hb6.cell (p := ⟨w4.heap.size, 1, none⟩) hs5).trans z1; have y2 := (hb6.cell (p := ⟨w4.heap.size, 2, none⟩) hs5).trans z2))
   refine wpAny_ready (rs := [3, 6]) (by kernel_rfl) (by simp) ?_;refine AllReady.cons rfl (fun K hK => ?_) (AllReady.cons rfl (fun K hK => ?_) AllReady.nil)
   · go_simp;refine hK _ _ ?_;clear hK K;refine wpAny_ready (rs := [6]) (by kernel_rfl) (by simp) ?_;refine AllReady.cons rfl (fun K hK => ?_) AllReady.nil;go_simp;refine hK _ _ ?_;clear hK K;refine wpAny_take (i := 7) (v := ?_) rfl (by kernel_rfl) (by kernel_rfl) (by kernel_rfl) (fun _ _ _ h => h) (Or.inl ⟨by kernel_rfl, ?_⟩) ?_;rotate_left
     · intro w; go_simp; try (with_reducible rfl)
     have hrw := row2 (p := (false, some ⟨w5.heap.size + 1, 0, none⟩, 1, 1)) (q := p0) H2.out (NumAt.zero w6);have hb7 : Below w6.heap.size w6 (w6.alloc (.cells #[.bool false, .slice (some ⟨w5.heap.size + 1, 0, none⟩) 1 1, .bool false, .slice none 0 0] 45)) := (Below.refl _ _).alloc (Nat.le_refl _) _;have hb67 : Below w5.heap.size w5 (w6.alloc (.cells #[.bool false, .slice (some ⟨w5.heap.size + 1, 0, none⟩) 1 1, .bool false, .slice none 0 0] 45)) := ((Below.refl _ w5).drew.trans hb6).trans (hb7.mono hb6.size);have HAM := Lib.hid (AlikeMats_c 2 1 2 1 (some ⟨b, 0, none⟩) (some ⟨w6.heap.size, 0, none⟩) 2 2 2 2 [2, 0] [2, 0] _ (HR5.out.below hb67).lsN hrw.lsN rfl rfl (by omega) (by omega) (by intro x hx; simp at hx; rcases hx with rfl | rfl <;> exact Nat.le_trans (wlen_le_of_lt (k := 1) (by decide)) (by omega)) (by intro x hx; simp at hx; rcases hx with rfl | rfl <;> exact Nat.le_trans (wlen_le_of_lt (k := 1) (by decide)) (by omega)));have HB7 := Lib.hid (HB5.out.trans (hb67.mono HB5.out.size));clear hrw hb7 hb67;refine wpAny_ready (rs := [8]) (by kernel_rfl) (by simp) ?_;refine AllReady.cons rfl (fun K hK => ?_) AllReady.nil;go_simp;go_wp2_with (first | (go_at_call 14; refine HAM.out.mono ?_; rintro e w8 ⟨rfl, hb8⟩))
     refine wpAny_take (i := 9) (v := ?_) rfl (by kernel_rfl) (by kernel_rfl) (by kernel_rfl) (fun _ _ _ h => h) (Or.inl ⟨by kernel_rfl, ?_⟩) ?_;rotate_left
     · intro w; go_simp; try (with_reducible rfl)
     refine wpAny_take (i := 10) (v := ?_) rfl (by kernel_rfl) (by kernel_rfl) (by kernel_rfl) (fun _ _ _ h => h) (Or.inl ⟨by kernel_rfl, ?_⟩) ?_;rotate_left
     · intro w; go_simp; try (with_reducible rfl)
     refine wpAny_done (by kernel_rfl) ?_ _;go_simp;have HB8 := Lib.hid (HB7.out.trans (hb8.mono HB7.out.size));go_wp2;go_ret;exact ⟨rfl, HB8.out⟩
   · go_simp;refine hK _ _ ?_;clear hK K;refine wpAny_take (i := 7) (v := ?_) rfl (by kernel_rfl) (by kernel_rfl) (by kernel_rfl) (fun _ _ _ h => h) (Or.inl ⟨by kernel_rfl, ?_⟩) ?_;rotate_left
     · intro w; go_simp; try (with_reducible rfl)
     refine wpAny_ready (rs := [3]) (by kernel_rfl) (by simp) ?_;refine AllReady.cons rfl (fun K hK => ?_) AllReady.nil;go_simp;refine hK _ _ ?_;clear hK K;have hrw := row2 (p := (false, some ⟨w5.heap.size + 1, 0, none⟩, 1, 1)) (q := p0) H2.out (NumAt.zero w6);have hb7 : Below w6.heap.size w6 (w6.alloc (.cells #[.bool false, .slice (some ⟨w5.heap.size + 1, 0, none⟩) 1 1, .bool false, .slice none 0 0] 45)) := (Below.refl _ _).alloc (Nat.le_refl _) _;have hb67 : Below w5.heap.size w5 (w6.alloc (.cells #[.bool false, .slice (some ⟨w5.heap.size + 1, 0, none⟩) 1 1, .bool false, .slice none 0 0] 45)) := ((Below.refl _ w5).drew.trans hb6).trans (hb7.mono hb6.size);have HAM := Lib.hid (AlikeMats_c 2 1 2 1 (some ⟨b, 0, none⟩) (some ⟨w6.heap.size, 0, none⟩) 2 2 2 2 [2, 0] [2, 0] _ (HR5.out.below hb67).lsN hrw.lsN rfl rfl (by omega) (by omega) (by intro x hx; simp at hx; rcases hx with rfl | rfl <;> exact Nat.le_trans (wlen_le_of_lt (k := 1) (by decide)) (by omega)) (by intro x hx; simp at hx; rcases hx with rfl | rfl <;> exact Nat.le_trans (wlen_le_of_lt (k := 1) (by decide)) (by omega)));have HB7 := Lib.hid (HB5.out.trans (hb67.mono HB5.out.size));clear hrw hb7 hb67;refine wpAny_ready (rs := [8]) (by kernel_rfl) (by simp) ?_;refine AllReady.cons rfl (fun K hK => ?_) AllReady.nil;go_simp;go_wp2_with (first | (go_at_call 14; refine HAM.out.mono ?_; rintro e w8 ⟨rfl, hb8⟩))
     refine wpAny_take (i := 9) (v := ?_) rfl (by kernel_rfl) (by kernel_rfl) (by kernel_rfl) (fun _ _ _ h => h) (Or.inl ⟨by kernel_rfl, ?_⟩) ?_;rotate_left
     · intro w; go_simp; try (with_reducible rfl)
     refine wpAny_take (i := 10) (v := ?_) rfl (by kernel_rfl) (by kernel_rfl) (by kernel_rfl) (fun _ _ _ h => h) (Or.inl ⟨by kernel_rfl, ?_⟩) ?_;rotate_left
     · intro w; go_simp; try (with_reducible rfl)
     refine wpAny_done (by kernel_rfl) ?_ _;go_simp;have HB8 := Lib.hid (HB7.out.trans (hb8.mono HB7.out.size));go_wp2;go_ret;exact ⟨rfl, HB8.out⟩
theorem hW_up {m k : Nat} (h : m <= k) : hW m <= 132 * (k + 1) + 1 := by unfold hW hermW; omega
theorem NumAt.zero_parts {w : World} {p : P4} (h : NumAt w (av p) 0) : p.1 = false /\ p.2.2.1 = 0 := by
 obtain ⟨ao, cap, e, _⟩ := h.least;obtain ⟨p1, p2, p3, p4⟩ := p;unfold av at e;simp [wlen_zero] at e;exact ⟨e.1, e.2.2.1⟩
set_option maxRecDepth 100000 in
set_option maxHeartbeats 4000000 in
theorem Rest_u (r c : Int) (ao : Option Addr) (len cap : Nat) (a1 : Option Addr) (l1 k1 : Nat) (a2 : Option Addr) (l2 k2 : Nat) (w : World) (hs : soundM r c len = false) :
 Calls Tryz.prog 6 #[.agg #[.int .i64 r, .int .i64 c, .slice ao len cap], .slice a1 l1 k1, .slice a2 l2 k2] w fun e w' => e = .returned (.bool true) /\ Below w.heap.size w w' := by
 have HSnd := Lib.hid hs;clear hs;have b_0 : Hid (Below w.heap.size w w) := Lib.hid (Below.refl _ _);go_enter Tryz.func6, Tryz.ntmps6;have r_ := RowAt.new w #[.int .i64 r, .int .i64 c, .slice ao len cap] 24;have hb_ : Below w.heap.size w (w.alloc (.cells #[.int .i64 r, .int .i64 c, .slice ao len cap] 24)) := (Below.refl _ _).alloc (Nat.le_refl _) _;go_wp2_with fail
 generalize w.alloc (.cells #[.int .i64 r, .int .i64 c, .slice ao len cap] 24) = w1 at *;have b_1 := Lib.hid (b_0.out.trans (Below.mono hb_ b_0.out.size));have sz_1 := (hb_).size;clear b_0;have A_1 : Hid (RowAt w1 (w.heap.size) 24 [.int .i64 r, .int .i64 c, .slice ao len cap]) := Lib.hid (r_);clear r_ hb_;refine (Wakes_c _).mono ?_;rintro e w2 ⟨rfl, hb_⟩;have A_2 := Lib.hid (RowAt.below (w := w1) A_1.out (hb_) A_1.out.lt);have b_2 := Lib.hid (b_1.out.trans (Below.mono hb_ b_1.out.size));have sz_2 := (hb_).size;clear A_1 b_1;clear hb_;have l2_A : w.heap.size < w2.heap.size := A_2.out.lt;have c2_A0 : w2.cell? ⟨w.heap.size, 0, none⟩ = some (.int .i64 r) := A_2.out.cell 0;have c2_A1 : w2.cell? ⟨w.heap.size, 1, none⟩ = some (.int .i64 c) := A_2.out.cell 1;have c2_A2 : w2.cell? ⟨w.heap.size, 2, none⟩ = some (.slice ao len cap) := A_2.out.cell 2;go_wp2_with fail
 clear l2_A c2_A0 c2_A1 c2_A2;refine (Sound_c r c ao len cap _).mono ?_;rintro e w3 ⟨rfl, hb_⟩;have A_3 := Lib.hid (RowAt.below (w := w2) A_2.out (hb_) A_2.out.lt);have b_3 := Lib.hid (b_2.out.trans (Below.mono hb_ b_2.out.size));have sz_3 := (hb_).size;clear A_2 b_2;clear hb_;rw [HSnd.out];go_wp2;go_ret;exact ⟨rfl, b_3.out⟩
set_option maxRecDepth 100000 in
set_option maxHeartbeats 16000000 in
theorem Rest_c (r c m mv mx : Nat) (ao : Option Addr) (len cap : Nat) (xs : List Int) (av_ : Option Addr) (lv kv : Nat) (vs : List Int) (au : Option Addr) (lx kx : Nat) (us : List Int) (w : World) (hr : r <= 64) (hc : c <= 64)
 (h : LsAt w m ao xs) (hm : ∀ x ∈ xs, x.natAbs < W ^ m) (hl : len = xs.length) (hs : xs.length = r * c) (hv : LsAt w mv av_ vs) (hvl : lv = vs.length) (hvb : ∀ x ∈ vs, x.natAbs < W ^ mv) (hu : LsAt w mx au us) (hul : lx = us.length) (hub : ∀ x ∈ us, x.natAbs < W ^ mx)
 (hB1 : m <= 1048576) (hB2 : mv <= 1048576) (hB3 : mx <= 1048576) :
 Calls Tryz.prog 6 #[.agg #[.int .i64 (r : Int), .int .i64 (c : Int), .slice ao len cap], .slice av_ lv kv, .slice au lx kx] w fun e w' => e = .returned (.bool true) /\ Below w.heap.size w w' := by
 subst hl;have hsnd : soundM (r : Int) (c : Int) xs.length = true := by
  unfold soundM sideOk;rw [hs]; simp; omega
 have HSnd := Lib.hid hsnd;have hsnd2 : soundM (r : Int) (c : Int) (r * c) = true := by rw [<- hs]; exact hsnd
 have HSnd2 := Lib.hid hsnd2;have hhw : hW m <= 140000000 := Nat.le_trans (hW_up hB1) (by decide);obtain ⟨M, hM⟩ : ∃ M, hW m = M := ⟨_, rfl⟩;rw [hM] at hhw;have HMe := Lib.hid hM;have HS := Lib.hid hs;have HV0 := Lib.hid (And.intro hvl hvb);have HU0 := Lib.hid (And.intro hul hub);have HM := Lib.hid hm;have hrc : r * c <= 4096 := Nat.mul_le_mul hr hc;have hxl : xs.length <= 4096 := by omega
 clear hsnd hsnd2 hs hvl hvb hul hub hm hM;have HX_0 : Hid (LsAt w m ao xs) := Lib.hid (h);have HV_0 : Hid (LsAt w mv av_ vs) := Lib.hid (hv);have HU_0 : Hid (LsAt w mx au us) := Lib.hid (hu);have b_0 : Hid (Below w.heap.size w w) := Lib.hid (Below.refl _ _);clear h hv hu;go_enter Tryz.func6, Tryz.ntmps6;have r_ := RowAt.new w #[.int .i64 (r : Int), .int .i64 (c : Int), .slice ao xs.length cap] 24;have hb_ : Below w.heap.size w (w.alloc (.cells #[.int .i64 (r : Int), .int .i64 (c : Int), .slice ao xs.length cap] 24)) := (Below.refl _ _).alloc (Nat.le_refl _) _;go_wp2_with fail
 generalize w.alloc (.cells #[.int .i64 (r : Int), .int .i64 (c : Int), .slice ao xs.length cap] 24) = w1 at *;have HX_1 := Lib.hid (LsAt.below (w := w) HX_0.out (hb_));have HV_1 := Lib.hid (LsAt.below (w := w) HV_0.out (hb_));have HU_1 := Lib.hid (LsAt.below (w := w) HU_0.out (hb_));have b_1 := Lib.hid (b_0.out.trans (Below.mono hb_ b_0.out.size));have sz_1 := (hb_).size;clear HX_0 HV_0 HU_0 b_0;have A_1 : Hid (RowAt w1 (w.heap.size) 24 [.int .i64 (r : Int), .int .i64 (c : Int), .slice ao xs.length cap]) := Lib.hid (r_);clear r_ hb_;refine (Wakes_c _).mono ?_;rintro e w2 ⟨rfl, hb_⟩;have HX_2 := Lib.hid (LsAt.below (w := w1) HX_1.out (hb_));have HV_2 := Lib.hid (LsAt.below (w := w1) HV_1.out (hb_));have HU_2 := Lib.hid (LsAt.below (w := w1) HU_1.out (hb_));have A_2 := Lib.hid (RowAt.below (w := w1) A_1.out (hb_) A_1.out.lt);have b_2 := Lib.hid (b_1.out.trans (Below.mono hb_ b_1.out.size));have sz_2 := (hb_).size;clear HX_1 HV_1 HU_1 A_1 b_1;clear hb_;have l2_A : w.heap.size < w2.heap.size := A_2.out.lt;have c2_A0 : w2.cell? ⟨w.heap.size, 0, none⟩ = some (.int .i64 (r : Int)) := A_2.out.cell 0;have c2_A1 : w2.cell? ⟨w.heap.size, 1, none⟩ = some (.int .i64 (c : Int)) := A_2.out.cell 1;have c2_A2 : w2.cell? ⟨w.heap.size, 2, none⟩ = some (.slice ao xs.length cap) := A_2.out.cell 2;go_wp2_with fail
 clear l2_A c2_A0 c2_A1 c2_A2;refine (Sound_c (r : Int) (c : Int) ao xs.length cap _).mono ?_;rintro e w3 ⟨rfl, hb_⟩;have HX_3 := Lib.hid (LsAt.below (w := w2) HX_2.out (hb_));have HV_3 := Lib.hid (LsAt.below (w := w2) HV_2.out (hb_));have HU_3 := Lib.hid (LsAt.below (w := w2) HU_2.out (hb_));have A_3 := Lib.hid (RowAt.below (w := w2) A_2.out (hb_) A_2.out.lt);have b_3 := Lib.hid (b_2.out.trans (Below.mono hb_ b_2.out.size));have sz_3 := (hb_).size;clear HX_2 HV_2 HU_2 A_2 b_2;clear hb_;rw [HSnd.out];have l3_A : w.heap.size < w3.heap.size := A_3.out.lt;have c3_A0 : w3.cell? ⟨w.heap.size, 0, none⟩ = some (.int .i64 (r : Int)) := A_3.out.cell 0;have c3_A1 : w3.cell? ⟨w.heap.size, 1, none⟩ = some (.int .i64 (c : Int)) := A_3.out.cell 1;have c3_A2 : w3.cell? ⟨w.heap.size, 2, none⟩ = some (.slice ao xs.length cap) := A_3.out.cell 2;go_wp2_with fail
 clear l3_A c3_A0 c3_A1 c3_A2;refine (Form_c r c m ao xs.length cap xs w3 hr hc (HX_3.out.up (by omega)) HM.out (by omega) rfl HS.out).mono ?_;rintro e w4 ⟨⟨b1, hs, k1, l1, rfl, hbb1, hR1, hH1, hd1⟩, hb_⟩;have HX_4 := Lib.hid (LsAt.below (w := w3) HX_3.out (hb_));have HV_4 := Lib.hid (LsAt.below (w := w3) HV_3.out (hb_));have HU_4 := Lib.hid (LsAt.below (w := w3) HU_3.out (hb_));have A_4 := Lib.hid (RowAt.below (w := w3) A_3.out (hb_) A_3.out.lt);have b_4 := Lib.hid (b_3.out.trans (Below.mono hb_ b_3.out.size));have sz_4 := (hb_).size;clear HX_3 HV_3 HU_3 A_3 b_3;clear hb_;rw [HMe.out] at hd1;have H1 := Lib.hid (And.intro hH1 hd1);have HL1 := Lib.hid (show hs.length = r * c from hH1.len);have HXW := Lib.hid (show ∀ y ∈ hs, wlen y.natAbs <= M from fun y hy => wlen_le_of_lt (hd1 y hy));have R1_4 : Hid (RowN w4 b1 hs) := Lib.hid (hR1);clear hR1 hH1 hd1 HMe;have r_ := RowAt.new w4 #[.int .i64 (r : Int), .int .i64 (c : Int), .slice (some ⟨b1, 0, none⟩) (r * c) (r * c)] 24;have hb_ : Below w4.heap.size w4 (w4.alloc (.cells #[.int .i64 (r : Int), .int .i64 (c : Int), .slice (some ⟨b1, 0, none⟩) (r * c) (r * c)] 24)) := (Below.refl _ _).alloc (Nat.le_refl _) _;go_wp2_with fail
 generalize w4.alloc (.cells #[.int .i64 (r : Int), .int .i64 (c : Int), .slice (some ⟨b1, 0, none⟩) (r * c) (r * c)] 24) = w5 at *;have HX_5 := Lib.hid (LsAt.below (w := w4) HX_4.out (hb_));have HV_5 := Lib.hid (LsAt.below (w := w4) HV_4.out (hb_));have HU_5 := Lib.hid (LsAt.below (w := w4) HU_4.out (hb_));have A_5 := Lib.hid (RowAt.below (w := w4) A_4.out (hb_) A_4.out.lt);have R1_5 := Lib.hid (RowN.below (w := w4) R1_4.out (hb_));have b_5 := Lib.hid (b_4.out.trans (Below.mono hb_ b_4.out.size));have sz_5 := (hb_).size;clear HX_4 HV_4 HU_4 A_4 R1_4 b_4;have X_5 : Hid (RowAt w5 (w4.heap.size) 24 [.int .i64 (r : Int), .int .i64 (c : Int), .slice (some ⟨b1, 0, none⟩) (r * c) (r * c)]) := Lib.hid (r_);clear r_ hb_;refine (PivH_c r c M (some ⟨b1, 0, none⟩) (r * c) (r * c) hs w5 hr hc (R1_5.out.lsAt (fun y hy => Nat.le_trans (HXW.out y hy) (by omega))) HXW.out (by omega) HL1.out.symm HL1.out H1.out.1.hf).mono ?_;rintro e w6 ⟨⟨pv1, ls, rfl, hP1, hO1⟩, hb_⟩;have HX_6 := Lib.hid (LsAt.below (w := w5) HX_5.out (hb_));have HV_6 := Lib.hid (LsAt.below (w := w5) HV_5.out (hb_));have HU_6 := Lib.hid (LsAt.below (w := w5) HU_5.out (hb_));have A_6 := Lib.hid (RowAt.below (w := w5) A_5.out (hb_) A_5.out.lt);have R1_6 := Lib.hid (RowN.below (w := w5) R1_5.out (hb_));have X_6 := Lib.hid (RowAt.below (w := w5) X_5.out (hb_) X_5.out.lt);have b_6 := Lib.hid (b_5.out.trans (Below.mono hb_ b_5.out.size));have sz_6 := (hb_).size;clear HX_5 HV_5 HU_5 A_5 R1_5 X_5 b_5;clear hb_;obtain ⟨a1, q1, rfl, hN1⟩ := own_form hO1;have HP := Lib.hid hP1;have N1_6 : Hid (NsAt w6 a1 ls) := Lib.hid (hN1);clear hO1 hN1 hP1;have l6_X : w4.heap.size < w6.heap.size := X_6.out.lt;have c6_X0 : w6.cell? ⟨w4.heap.size, 0, none⟩ = some (.int .i64 (r : Int)) := X_6.out.cell 0;have c6_X1 : w6.cell? ⟨w4.heap.size, 1, none⟩ = some (.int .i64 (c : Int)) := X_6.out.cell 1;have c6_X2 : w6.cell? ⟨w4.heap.size, 2, none⟩ = some (.slice (some ⟨b1, 0, none⟩) (r * c) (r * c)) := X_6.out.cell 2;have l6_A : w.heap.size < w6.heap.size := A_6.out.lt;have c6_A0 : w6.cell? ⟨w.heap.size, 0, none⟩ = some (.int .i64 (r : Int)) := A_6.out.cell 0;have c6_A1 : w6.cell? ⟨w.heap.size, 1, none⟩ = some (.int .i64 (c : Int)) := A_6.out.cell 1;have c6_A2 : w6.cell? ⟨w.heap.size, 2, none⟩ = some (.slice ao xs.length cap) := A_6.out.cell 2;go_wp2_with fail
 clear l6_X c6_X0 c6_X1 c6_X2 l6_A c6_A0 c6_A1 c6_A2;refine (Sound_c (r : Int) (c : Int) _ _ _ _).mono ?_;rintro e w7 ⟨rfl, hb_⟩;have HX_7 := Lib.hid (LsAt.below (w := w6) HX_6.out (hb_));have HV_7 := Lib.hid (LsAt.below (w := w6) HV_6.out (hb_));have HU_7 := Lib.hid (LsAt.below (w := w6) HU_6.out (hb_));have A_7 := Lib.hid (RowAt.below (w := w6) A_6.out (hb_) A_6.out.lt);have R1_7 := Lib.hid (RowN.below (w := w6) R1_6.out (hb_));have X_7 := Lib.hid (RowAt.below (w := w6) X_6.out (hb_) X_6.out.lt);have N1_7 := Lib.hid (NsAt.below (w := w6) N1_6.out (hb_));have b_7 := Lib.hid (b_6.out.trans (Below.mono hb_ b_6.out.size));have sz_7 := (hb_).size;clear HX_6 HV_6 HU_6 A_6 R1_6 X_6 N1_6 b_6;clear hb_;rw [HSnd2.out];have l7_X : w4.heap.size < w7.heap.size := X_7.out.lt;have c7_X0 : w7.cell? ⟨w4.heap.size, 0, none⟩ = some (.int .i64 (r : Int)) := X_7.out.cell 0;have c7_X1 : w7.cell? ⟨w4.heap.size, 1, none⟩ = some (.int .i64 (c : Int)) := X_7.out.cell 1;have c7_X2 : w7.cell? ⟨w4.heap.size, 2, none⟩ = some (.slice (some ⟨b1, 0, none⟩) (r * c) (r * c)) := X_7.out.cell 2;have l7_A : w.heap.size < w7.heap.size := A_7.out.lt;have c7_A0 : w7.cell? ⟨w.heap.size, 0, none⟩ = some (.int .i64 (r : Int)) := A_7.out.cell 0;have c7_A1 : w7.cell? ⟨w.heap.size, 1, none⟩ = some (.int .i64 (c : Int)) := A_7.out.cell 1;have c7_A2 : w7.cell? ⟨w.heap.size, 2, none⟩ = some (.slice ao xs.length cap) := A_7.out.cell 2;go_wp2_with fail
 clear l7_X c7_X0 c7_X1 c7_X2 l7_A c7_A0 c7_A1 c7_A2;refine (Pivots_c r c M (some ⟨b1, 0, none⟩) (r * c) (r * c) hs w7 hr hc (R1_7.out.lsAt HXW.out) (by omega) HL1.out.symm HL1.out).mono ?_;rintro e w8 ⟨⟨pv2, t, rfl, ht1, ht2⟩, hb_⟩;have HX_8 := Lib.hid (LsAt.below (w := w7) HX_7.out (hb_));have HV_8 := Lib.hid (LsAt.below (w := w7) HV_7.out (hb_));have HU_8 := Lib.hid (LsAt.below (w := w7) HU_7.out (hb_));have A_8 := Lib.hid (RowAt.below (w := w7) A_7.out (hb_) A_7.out.lt);have R1_8 := Lib.hid (RowN.below (w := w7) R1_7.out (hb_));have X_8 := Lib.hid (RowAt.below (w := w7) X_7.out (hb_) X_7.out.lt);have N1_8 := Lib.hid (NsAt.below (w := w7) N1_7.out (hb_));have b_8 := Lib.hid (b_7.out.trans (Below.mono hb_ b_7.out.size));have sz_8 := (hb_).size;clear HX_7 HV_7 HU_7 A_7 R1_7 X_7 N1_7 b_7;clear hb_;obtain rfl : t = true := by cases t with | true => rfl | false => exact absurd H1.out.1.hf (ht2 rfl)
 obtain ⟨ls2, hP2, hO2⟩ := ht1 rfl;obtain rfl : ls = ls2 := HP.out.unique hP2;obtain ⟨a2, q2, rfl, hN2⟩ := own_form hO2;have N2_8 : Hid (NsAt w8 a2 ls) := Lib.hid (hN2);clear hO2 hN2 hP2 ht1 ht2;have hll := HP.out.len;have l8_X : w4.heap.size < w8.heap.size := X_8.out.lt;have c8_X0 : w8.cell? ⟨w4.heap.size, 0, none⟩ = some (.int .i64 (r : Int)) := X_8.out.cell 0;have c8_X1 : w8.cell? ⟨w4.heap.size, 1, none⟩ = some (.int .i64 (c : Int)) := X_8.out.cell 1;have c8_X2 : w8.cell? ⟨w4.heap.size, 2, none⟩ = some (.slice (some ⟨b1, 0, none⟩) (r * c) (r * c)) := X_8.out.cell 2;have l8_A : w.heap.size < w8.heap.size := A_8.out.lt;have c8_A0 : w8.cell? ⟨w.heap.size, 0, none⟩ = some (.int .i64 (r : Int)) := A_8.out.cell 0;have c8_A1 : w8.cell? ⟨w.heap.size, 1, none⟩ = some (.int .i64 (c : Int)) := A_8.out.cell 1;have c8_A2 : w8.cell? ⟨w.heap.size, 2, none⟩ = some (.slice ao xs.length cap) := A_8.out.cell 2;go_wp2;clear l8_X c8_X0 c8_X1 c8_X2 l8_A c8_A0 c8_A1 c8_A2;go_loopw [13] (fun i_ wq => ∃ (i : Nat), i <= ls.length /\ i_ = .int .i64 (i : Int) /\ Hid (Below w8.heap.size w8 wq)) (fun i_ _ => ls.length - (intOf i_).toNat)
 case atStart => exact ⟨0, by omega, rfl, Lib.hid (Below.refl _ _)⟩
 case round =>
  obtain ⟨i, hi, rfl, hB⟩ := hrel;by_cases hin : i < ls.length
  · skip;have hin1 : (i : Int) < (ls.length : Int) := by omega
    obtain ⟨g1, rfl, hg1, hc1⟩ := (N1_8.out.below hB.out) (by omega);obtain ⟨g2, rfl, hg2, hc2⟩ := (N2_8.out.below hB.out) (by omega);have d1 := hc1 i hin;have d2 := hc2 i hin;obtain ⟨y, hy⟩ : ∃ y, ls.getD i 0 = y := ⟨_, rfl⟩;rw [hy] at d1 d2;have hyy : ((y : Int) != (y : Int)) = false := by simp
    clear hc1 hc2 hy;go_wp2;refine wp_region_J ⟨9, fun q_ => [87, 88, 89, 90, 91, 92, 93, 94, 95].getD q_ 0,
     fun q_ => [.val (.slice (some ⟨g2, 0, none⟩) ls.length q2), .val (.int .i64 (i : Int)), .val (.pointer (some ⟨g2, i, none⟩)), .val (.int .i64 (y : Int)), .val (.slice (some ⟨g1, 0, none⟩) ls.length q1), .val (.int .i64 (i : Int)), .val (.pointer (some ⟨g1, i, none⟩)), .val (.int .i64 (y : Int)), .val (.bool false)].getD q_ .any,
     [],
     [],
     [],
     [], [(⟨g1, i, none⟩, .int .i64 (y : Int)), (⟨g2, i, none⟩, .int .i64 (y : Int))], []⟩ [87, 88, 89, 90, 91, 92, 93, 94, 95] (wr.heap.size) (by kernel_rfl) (by kernel_rfl) (by kernel_rfl) (by kernel_rfl) ?_ ?_ ?_ ?_ ?_ ?_
    · intro p hp;cases hp
    · intro p hp;cases hp
    · intro p hp;rcases mc hp with rfl | hp
      · refine ⟨d1, by show g1 < wr.heap.size; omega, ?_⟩;intro t ht;cases ht
      rcases mc hp with rfl | hp
      · refine ⟨d2, by show g2 < wr.heap.size; omega, ?_⟩;intro t ht;cases ht
      cases hp
    · intro t ht;cases ht
    · refine allc ?_ (allc ?_ (allc ?_ (allc ?_ (allc ?_ (allc ?_ (allc ?_ (allc ?_ (allc ?_ alln))))))));any_goals (first | (intro L fx w' hJ hL hp hcl; have _ := hp0 hp (by decide +kernel); refine wps rfl fun K hK => ?_; go_simp; exact hJ.q hK (by kernel_rfl) rfl) | fail)
      · intro L fx w' hJ hL hp hcl;have e0 := hJ.pt 0 87 (.slice (some ⟨g2, 0, none⟩) ls.length q2) rfl rfl rfl (hp 0 (by decide));rw [e0] at hJ ⊢; clear e0;have e1 := hJ.pt 1 88 (.int .i64 (i : Int)) rfl rfl rfl (hp 1 (by decide));rw [e1] at hJ ⊢; clear e1;refine wps rfl fun K hK => ?_;go_simp;exact hJ.q hK (by kernel_rfl) rfl
      · intro L fx w' hJ hL hp hcl;have e2 := hJ.pt 2 89 (.pointer (some ⟨g2, i, none⟩)) rfl rfl rfl (hp 2 (by decide));rw [e2] at hJ ⊢; clear e2;refine wps rfl fun K hK => ?_;have cl0 := (hJ.cells _ mm1).1;try dsimp only at cl0
        go_simp;exact hJ.q hK (by kernel_rfl) rfl
      · intro L fx w' hJ hL hp hcl;have e4 := hJ.pt 4 91 (.slice (some ⟨g1, 0, none⟩) ls.length q1) rfl rfl rfl (hp 4 (by decide));rw [e4] at hJ ⊢; clear e4;have e5 := hJ.pt 5 92 (.int .i64 (i : Int)) rfl rfl rfl (hp 5 (by decide));rw [e5] at hJ ⊢; clear e5;refine wps rfl fun K hK => ?_;go_simp;exact hJ.q hK (by kernel_rfl) rfl
      · intro L fx w' hJ hL hp hcl;have e6 := hJ.pt 6 93 (.pointer (some ⟨g1, i, none⟩)) rfl rfl rfl (hp 6 (by decide));rw [e6] at hJ ⊢; clear e6;refine wps rfl fun K hK => ?_;have cl0 := (hJ.cells _ mm0).1;try dsimp only at cl0
        go_simp;exact hJ.q hK (by kernel_rfl) rfl
      · intro L fx w' hJ hL hp hcl;have e3 := hJ.pt 3 90 (.int .i64 (y : Int)) rfl rfl rfl (hp 3 (by decide));rw [e3] at hJ ⊢; clear e3;have e7 := hJ.pt 7 94 (.int .i64 (y : Int)) rfl rfl rfl (hp 7 (by decide));rw [e7] at hJ ⊢; clear e7;refine wps rfl fun K hK => ?_;go_simp;exact hJ.q hK (by kernel_rfl) rfl
    · intro L x' w9 hL hJ;have hfr : Below wr.drew.heap.size wr.drew w9 := hJ.fr;have e8 : x' 95 = .bool false := hJ.slot 8 (by show 8 < 9; decide) (hL 8 (by show 8 < 9; decide));rw [patchX (x := x') (d := 95) e8];have B9 := Lib.hid (hB.out.trans (((Below.refl w8.heap.size wr).drew).trans (hfr.mono hB.out.size)));clear hJ hL d1 d2 e8;simp only [pN, Nat.reduceEqDiff, ↓reduceIte];go_wp2;go_roundw
      case rel => exact ⟨i + 1, by omega, by go_num, B9⟩
      case measure => simp [intOf]; omega
  · skip;obtain rfl : i = ls.length := by omega
    obtain ⟨wA, rfl⟩ : ∃ wo : World, wo = wr := ⟨_, rfl⟩;have hb_ := hB.out;clear hB;have HX_9 := Lib.hid (LsAt.below (w := w8) HX_8.out (hb_));have HV_9 := Lib.hid (LsAt.below (w := w8) HV_8.out (hb_));have HU_9 := Lib.hid (LsAt.below (w := w8) HU_8.out (hb_));have A_9 := Lib.hid (RowAt.below (w := w8) A_8.out (hb_) A_8.out.lt);have R1_9 := Lib.hid (RowN.below (w := w8) R1_8.out (hb_));have X_9 := Lib.hid (RowAt.below (w := w8) X_8.out (hb_) X_8.out.lt);have N1_9 := Lib.hid (NsAt.below (w := w8) N1_8.out (hb_));have N2_9 := Lib.hid (NsAt.below (w := w8) N2_8.out (hb_));have b_9 := Lib.hid (b_8.out.trans (Below.mono hb_ b_8.out.size));have sz_9 := (hb_).size;clear HX_8 HV_8 HU_8 A_8 R1_8 X_8 N1_8 N2_8 b_8;clear hb_;by_cases hlv : lv = c
    · skip;have hlv2 : c = lv := hlv.symm;subst hlv2;clear hlv;obtain ⟨mcc, hmc⟩ : ∃ k, mv + 64 * (M + 1) = k := ⟨_, rfl⟩;have hmcl : mcc <= 10000000000 := by omega
      have l9_X : w4.heap.size < wA.heap.size := X_9.out.lt;have c9_X0 : wA.cell? ⟨w4.heap.size, 0, none⟩ = some (.int .i64 (r : Int)) := X_9.out.cell 0;have c9_X1 : wA.cell? ⟨w4.heap.size, 1, none⟩ = some (.int .i64 (c : Int)) := X_9.out.cell 1;have c9_X2 : wA.cell? ⟨w4.heap.size, 2, none⟩ = some (.slice (some ⟨b1, 0, none⟩) (r * c) (r * c)) := X_9.out.cell 2;have l9_A : w.heap.size < wA.heap.size := A_9.out.lt;have c9_A0 : wA.cell? ⟨w.heap.size, 0, none⟩ = some (.int .i64 (r : Int)) := A_9.out.cell 0;have c9_A1 : wA.cell? ⟨w.heap.size, 1, none⟩ = some (.int .i64 (c : Int)) := A_9.out.cell 1;have c9_A2 : wA.cell? ⟨w.heap.size, 2, none⟩ = some (.slice ao xs.length cap) := A_9.out.cell 2;go_wp2_with fail
      clear l9_X c9_X0 c9_X1 c9_X2 l9_A c9_A0 c9_A1 c9_A2;refine (HReduce_c r c M mv (some ⟨b1, 0, none⟩) (r * c) (r * c) hs av_ kv vs wA hr hc (R1_9.out.lsAt HXW.out) H1.out.2 HL1.out.symm HL1.out H1.out.1.hf (HV_9.out.up (by omega)) HV0.out.1.symm HV0.out.2 (by omega)).mono ?_;rintro e w10 ⟨⟨b3, b4, ls3, zs, cs, rfl, hb3, hb4, hR3, hR4, hP3, hRI⟩, hb_⟩;have HX_10 := Lib.hid (LsAt.below (w := wA) HX_9.out (hb_));have HV_10 := Lib.hid (LsAt.below (w := wA) HV_9.out (hb_));have HU_10 := Lib.hid (LsAt.below (w := wA) HU_9.out (hb_));have A_10 := Lib.hid (RowAt.below (w := wA) A_9.out (hb_) A_9.out.lt);have R1_10 := Lib.hid (RowN.below (w := wA) R1_9.out (hb_));have X_10 := Lib.hid (RowAt.below (w := wA) X_9.out (hb_) X_9.out.lt);have N1_10 := Lib.hid (NsAt.below (w := wA) N1_9.out (hb_));have N2_10 := Lib.hid (NsAt.below (w := wA) N2_9.out (hb_));have b_10 := Lib.hid (b_9.out.trans (Below.mono hb_ b_9.out.size));have sz_10 := (hb_).size;clear HX_9 HV_9 HU_9 A_9 R1_9 X_9 N1_9 N2_9 b_9;clear hb_;obtain rfl : ls = ls3 := HP.out.unique hP3;have hgv : ∀ b, b < c -> (vs.getD b 0).natAbs < W ^ mv := fun b hb => by
       have hbv : b < vs.length := by rw [<- HV0.out.1]; exact hb
       rw [List.getD_eq_getElem?_getD, List.getElem?_eq_getElem hbv]; exact HV0.out.2 _ (List.getElem_mem hbv)
      have hbd := hRI.bd HP.out hr (fun a b _ _ => matE_bound (Nat.pow_pos (by decide)) H1.out.2 a b) hgv;rw [hmc] at hbd;have HRI := Lib.hid (And.intro hRI hbd);clear hP3 hRI hbd hgv hmc;have RZ_10 : Hid (RowN w10 b3 zs) := Lib.hid (hR3);have RC_10 : Hid (RowN w10 b4 cs) := Lib.hid (hR4);clear hR3 hR4;have HZW := Lib.hid (show ∀ y ∈ zs, wlen y.natAbs <= mcc from fun y hy => wlen_le_of_lt (HRI.out.2.1 y hy));have HCW := Lib.hid (show ∀ y ∈ cs, wlen y.natAbs <= mcc from fun y hy => wlen_le_of_lt (HRI.out.2.2 y hy));have l10_X : w4.heap.size < w10.heap.size := X_10.out.lt;have c10_X0 : w10.cell? ⟨w4.heap.size, 0, none⟩ = some (.int .i64 (r : Int)) := X_10.out.cell 0;have c10_X1 : w10.cell? ⟨w4.heap.size, 1, none⟩ = some (.int .i64 (c : Int)) := X_10.out.cell 1;have c10_X2 : w10.cell? ⟨w4.heap.size, 2, none⟩ = some (.slice (some ⟨b1, 0, none⟩) (r * c) (r * c)) := X_10.out.cell 2;have l10_A : w.heap.size < w10.heap.size := A_10.out.lt;have c10_A0 : w10.cell? ⟨w.heap.size, 0, none⟩ = some (.int .i64 (r : Int)) := A_10.out.cell 0;have c10_A1 : w10.cell? ⟨w.heap.size, 1, none⟩ = some (.int .i64 (c : Int)) := A_10.out.cell 1;have c10_A2 : w10.cell? ⟨w.heap.size, 2, none⟩ = some (.slice ao xs.length cap) := A_10.out.cell 2;go_wp2_with fail
      clear l10_X c10_X0 c10_X1 c10_X2 l10_A c10_A0 c10_A1 c10_A2;refine (Reduced_c r c M mcc (some ⟨b1, 0, none⟩) (r * c) (r * c) hs a2 q2 ls (some ⟨b3, 0, none⟩) c zs w10 hr hc (R1_10.out.lsAt HXW.out) HL1.out.symm HL1.out (by omega) N2_10.out hll (fun k hk => HP.out.ech.lt k hk) (RZ_10.out.lsAt HZW.out) HRI.out.1.zlen (by omega) (HRI.out.1.red HP.out)).mono ?_;rintro e w11 ⟨rfl, hb_⟩;have HX_11 := Lib.hid (LsAt.below (w := w10) HX_10.out (hb_));have HV_11 := Lib.hid (LsAt.below (w := w10) HV_10.out (hb_));have HU_11 := Lib.hid (LsAt.below (w := w10) HU_10.out (hb_));have A_11 := Lib.hid (RowAt.below (w := w10) A_10.out (hb_) A_10.out.lt);have R1_11 := Lib.hid (RowN.below (w := w10) R1_10.out (hb_));have X_11 := Lib.hid (RowAt.below (w := w10) X_10.out (hb_) X_10.out.lt);have N1_11 := Lib.hid (NsAt.below (w := w10) N1_10.out (hb_));have N2_11 := Lib.hid (NsAt.below (w := w10) N2_10.out (hb_));have RZ_11 := Lib.hid (RowN.below (w := w10) RZ_10.out (hb_));have RC_11 := Lib.hid (RowN.below (w := w10) RC_10.out (hb_));have b_11 := Lib.hid (b_10.out.trans (Below.mono hb_ b_10.out.size));have sz_11 := (hb_).size;clear HX_10 HV_10 HU_10 A_10 R1_10 X_10 N1_10 N2_10 RZ_10 RC_10 b_10;clear hb_;have l11_X : w4.heap.size < w11.heap.size := X_11.out.lt;have c11_X0 : w11.cell? ⟨w4.heap.size, 0, none⟩ = some (.int .i64 (r : Int)) := X_11.out.cell 0;have c11_X1 : w11.cell? ⟨w4.heap.size, 1, none⟩ = some (.int .i64 (c : Int)) := X_11.out.cell 1;have c11_X2 : w11.cell? ⟨w4.heap.size, 2, none⟩ = some (.slice (some ⟨b1, 0, none⟩) (r * c) (r * c)) := X_11.out.cell 2;have l11_A : w.heap.size < w11.heap.size := A_11.out.lt;have c11_A0 : w11.cell? ⟨w.heap.size, 0, none⟩ = some (.int .i64 (r : Int)) := A_11.out.cell 0;have c11_A1 : w11.cell? ⟨w.heap.size, 1, none⟩ = some (.int .i64 (c : Int)) := A_11.out.cell 1;have c11_A2 : w11.cell? ⟨w.heap.size, 2, none⟩ = some (.slice ao xs.length cap) := A_11.out.cell 2;go_wp2;clear l11_X c11_X0 c11_X1 c11_X2 l11_A c11_A0 c11_A1 c11_A2;go_loopw [17] (fun i_ wq => ∃ (i : Nat), ls.length <= i /\ i <= r /\ i_ = .int .i64 (i : Int) /\ Hid (Below w11.heap.size w11 wq)) (fun i_ _ => r - (intOf i_).toNat)
      case atStart => exact ⟨ls.length, by omega, by omega, rfl, Lib.hid (Below.refl _ _)⟩
      case round =>
       obtain ⟨i, hi0, hi, rfl, hB⟩ := hrel;have A9 := RowAt.below A_11.out hB.out A_11.out.lt;have ca0 : wr.cell? ⟨w.heap.size, 0, none⟩ = some (.int .i64 (r : Int)) := A9.cell 0;clear A9;by_cases hin : i < r
       · skip;have hin1 : (i : Int) < (r : Int) := by omega
         have hcl : i < cs.length := by rw [HRI.out.1.clen]; exact hin
         obtain ⟨p, c0, c1, hn⟩ := (RC_11.out.below hB.out).get hcl;have hz : cs[i] = 0 := by have := HRI.out.1.zero hi0 hin; rw [List.getD_eq_getElem?_getD, List.getElem?_eq_getElem hcl] at this; exact this
         rw [hz] at hn;obtain ⟨z1, z2⟩ := hn.zero_parts;rw [z1] at c0;rw [z2] at c1;clear hn hz z1 z2;go_wp2;go_roundw
         case rel => exact ⟨i + 1, by omega, by omega, by go_num, hB⟩
         case measure => simp [intOf]; omega
       · skip;have hir : i = r := by omega
         clear ca0;obtain ⟨wB, rfl⟩ : ∃ wo : World, wo = wr := ⟨_, rfl⟩;have hb_ := hB.out;clear hB;have HX_12 := Lib.hid (LsAt.below (w := w11) HX_11.out (hb_));have HV_12 := Lib.hid (LsAt.below (w := w11) HV_11.out (hb_));have HU_12 := Lib.hid (LsAt.below (w := w11) HU_11.out (hb_));have A_12 := Lib.hid (RowAt.below (w := w11) A_11.out (hb_) A_11.out.lt);have R1_12 := Lib.hid (RowN.below (w := w11) R1_11.out (hb_));have X_12 := Lib.hid (RowAt.below (w := w11) X_11.out (hb_) X_11.out.lt);have N1_12 := Lib.hid (NsAt.below (w := w11) N1_11.out (hb_));have N2_12 := Lib.hid (NsAt.below (w := w11) N2_11.out (hb_));have RZ_12 := Lib.hid (RowN.below (w := w11) RZ_11.out (hb_));have RC_12 := Lib.hid (RowN.below (w := w11) RC_11.out (hb_));have b_12 := Lib.hid (b_11.out.trans (Below.mono hb_ b_11.out.size));have sz_12 := (hb_).size;clear HX_11 HV_11 HU_11 A_11 R1_11 X_11 N1_11 N2_11 RZ_11 RC_11 b_11;clear hb_;have hirn : ¬ (i : Int) < (r : Int) := by omega
         have hirb : decide ((i : Int) < (r : Int)) = false := decide_eq_false hirn;have hirb2 : decide (i < r) = false := decide_eq_false (by omega);clear hirn hir;have l12_X : w4.heap.size < wB.heap.size := X_12.out.lt;have c12_X0 : wB.cell? ⟨w4.heap.size, 0, none⟩ = some (.int .i64 (r : Int)) := X_12.out.cell 0;have c12_X1 : wB.cell? ⟨w4.heap.size, 1, none⟩ = some (.int .i64 (c : Int)) := X_12.out.cell 1;have c12_X2 : wB.cell? ⟨w4.heap.size, 2, none⟩ = some (.slice (some ⟨b1, 0, none⟩) (r * c) (r * c)) := X_12.out.cell 2;have l12_A : w.heap.size < wB.heap.size := A_12.out.lt;have c12_A0 : wB.cell? ⟨w.heap.size, 0, none⟩ = some (.int .i64 (r : Int)) := A_12.out.cell 0;have c12_A1 : wB.cell? ⟨w.heap.size, 1, none⟩ = some (.int .i64 (c : Int)) := A_12.out.cell 1;have c12_A2 : wB.cell? ⟨w.heap.size, 2, none⟩ = some (.slice ao xs.length cap) := A_12.out.cell 2;go_wp2_with fail
         clear l12_X c12_X0 c12_X1 c12_X2 l12_A c12_A0 c12_A1 c12_A2;clear hirb hirb2;refine (VecMul_c r c M mcc (some ⟨b4, 0, none⟩) r cs (some ⟨b1, 0, none⟩) (r * c) (r * c) hs wB hr hc (RC_12.out.lsAt (fun y hy => Nat.le_trans (HCW.out y hy) (by omega))) HRI.out.1.clen HRI.out.2.2 (R1_12.out.lsAt (fun y hy => Nat.le_trans (HXW.out y hy) (by omega))) H1.out.2 HL1.out.symm HL1.out (by omega)).mono ?_;rintro e w12 ⟨⟨b5, ps, rfl, hb5, hR5, hpl, hps⟩, hb_⟩;have HX_13 := Lib.hid (LsAt.below (w := wB) HX_12.out (hb_));have HV_13 := Lib.hid (LsAt.below (w := wB) HV_12.out (hb_));have HU_13 := Lib.hid (LsAt.below (w := wB) HU_12.out (hb_));have A_13 := Lib.hid (RowAt.below (w := wB) A_12.out (hb_) A_12.out.lt);have R1_13 := Lib.hid (RowN.below (w := wB) R1_12.out (hb_));have X_13 := Lib.hid (RowAt.below (w := wB) X_12.out (hb_) X_12.out.lt);have N1_13 := Lib.hid (NsAt.below (w := wB) N1_12.out (hb_));have N2_13 := Lib.hid (NsAt.below (w := wB) N2_12.out (hb_));have RZ_13 := Lib.hid (RowN.below (w := wB) RZ_12.out (hb_));have RC_13 := Lib.hid (RowN.below (w := wB) RC_12.out (hb_));have b_13 := Lib.hid (b_12.out.trans (Below.mono hb_ b_12.out.size));have sz_13 := (hb_).size;clear HX_12 HV_12 HU_12 A_12 R1_12 X_12 N1_12 N2_12 RZ_12 RC_12 b_12;clear hb_;have HPS := Lib.hid (And.intro hpl hps);have RP_13 : Hid (RowN w12 b5 ps) := Lib.hid (hR5);clear hR5 hpl hps;have l13_X : w4.heap.size < w12.heap.size := X_13.out.lt;have c13_X0 : w12.cell? ⟨w4.heap.size, 0, none⟩ = some (.int .i64 (r : Int)) := X_13.out.cell 0;have c13_X1 : w12.cell? ⟨w4.heap.size, 1, none⟩ = some (.int .i64 (c : Int)) := X_13.out.cell 1;have c13_X2 : w12.cell? ⟨w4.heap.size, 2, none⟩ = some (.slice (some ⟨b1, 0, none⟩) (r * c) (r * c)) := X_13.out.cell 2;have l13_A : w.heap.size < w12.heap.size := A_13.out.lt;have c13_A0 : w12.cell? ⟨w.heap.size, 0, none⟩ = some (.int .i64 (r : Int)) := A_13.out.cell 0;have c13_A1 : w12.cell? ⟨w.heap.size, 1, none⟩ = some (.int .i64 (c : Int)) := A_13.out.cell 1;have c13_A2 : w12.cell? ⟨w.heap.size, 2, none⟩ = some (.slice ao xs.length cap) := A_13.out.cell 2;go_wp2;clear l13_X c13_X0 c13_X1 c13_X2 l13_A c13_A0 c13_A1 c13_A2;obtain ⟨w12', hw12⟩ : ∃ wz : World, wz = w12 := ⟨_, rfl⟩;clear hw12 w12';go_loopw [20] (fun i_ wq => ∃ (i : Nat), i <= c /\ i_ = .int .i64 (i : Int) /\ Hid (Below w12.heap.size w12 wq)) (fun i_ _ => c - (intOf i_).toNat)
         case atStart => exact ⟨0, by omega, rfl, Lib.hid (Below.refl _ _)⟩
         case round =>
          obtain ⟨i, hi, rfl, hB⟩ := hrel;have A9 := RowAt.below A_13.out hB.out A_13.out.lt;have ca1 : wr.cell? ⟨w.heap.size, 1, none⟩ = some (.int .i64 (c : Int)) := A9.cell 1;clear A9;by_cases hin : i < c
          · skip;have hin1 : (i : Int) < (c : Int) := by omega
            have hpl : i < ps.length := by rw [HPS.out.1]; exact hin
            have hzl : i < zs.length := by rw [HRI.out.1.zlen]; exact hin
            have hvl : i < vs.length := by rw [<- HV0.out.1]; exact hin
            obtain ⟨pp, p0, p1, hnp⟩ := (RP_13.out.below hB.out).get hpl;obtain ⟨pz, z0, z1, hnz⟩ := (RZ_13.out.below hB.out).get hzl;obtain ⟨bv, ov, rfl, hbv, hvc⟩ := (HV_13.out.below hB.out) (by omega);obtain ⟨pv, v0, v1, hnv⟩ := hvc i hvl;have e1 : ps[i] = vm cs (matE hs r c) i r := by have := HPS.out.2 i hin; rw [List.getD_eq_getElem?_getD, List.getElem?_eq_getElem hpl] at this; exact this
            have e2 : zs[i] = zs.getD i 0 := by rw [List.getD_eq_getElem?_getD, List.getElem?_eq_getElem hzl]; rfl
            have e3 : vs[i] = vs.getD i 0 := by rw [List.getD_eq_getElem?_getD, List.getElem?_eq_getElem hvl]; rfl
            have hsum := HRI.out.1.sum HP.out hin;obtain ⟨yp, hyp⟩ : ∃ y, vm cs (matE hs r c) i r = y := ⟨_, rfl⟩;obtain ⟨yz, hyz⟩ : ∃ y, zs.getD i 0 = y := ⟨_, rfl⟩;obtain ⟨yv, hyv⟩ : ∃ y, vs.getD i 0 = y := ⟨_, rfl⟩;rw [e1, hyp] at hnp;rw [e2, hyz] at hnz;rw [e3, hyv] at hnv;have hsum : yp + yz = yv := by rw [<- hyp, <- hyz, <- hyv]; exact hsum
            have hwp : wlen yp.natAbs <= 549755813888 := by rw [<- hyp]; exact Nat.le_trans (wlen_le_of_lt (vm_bd HRI.out.2.2 H1.out.2 r (by omega))) (by omega)
            have hwz : wlen yz.natAbs <= 549755813888 := by have := HZW.out _ (List.getElem_mem hzl); rw [e2, hyz] at this; omega
            have hwv : wlen yv.natAbs <= 549755813888 := by have := hnv.wlen; omega
            have hzc : zcmp yv yv = 0 := by unfold zcmp; rw [if_neg (by omega)]; first | rfl | (split <;> omega)
            have HSUM := Lib.hid (And.intro hsum (And.intro hwv hzc));have NP := Lib.hid (hnp.int hwp);have NZ := Lib.hid (hnz.int hwz);have NV := Lib.hid (hnv.mono (L' := 549755813888) (by omega));have lp : b5 < wr.heap.size := (RP_13.out.below hB.out).lt;have lz : b3 < wr.heap.size := (RZ_13.out.below hB.out).lt;clear e1 e2 e3 hyp hyz hyv hnp hnz hnv hvc hsum hwp hwz hwv hzc;go_wp2;clear ca1;refine wp_region_J ⟨11, fun q_ => [177, 178, 179, 180, 181, 182, 183, 184, 185, 21, 1010].getD q_ 0,
             fun q_ => [.val (.slice (some ⟨b5, 0, none⟩) c c), .val (.int .i64 (i : Int)), .val (.pointer (some ⟨b5, i * 2, none⟩)), .val (.agg #[.bool pp.1, .slice pp.2.1 pp.2.2.1 pp.2.2.2]), .val (.slice (some ⟨b3, 0, none⟩) c c), .val (.int .i64 (i : Int)), .val (.pointer (some ⟨b3, i * 2, none⟩)), .val (.agg #[.bool pz.1, .slice pz.2.1 pz.2.2.1 pz.2.2.2]), .int 0 (yp + yz), .ptr wr.heap.size 45 2, .any].getD q_ .any,
             [],
             [(.agg #[.bool pp.1, .slice pp.2.1 pp.2.2.1 pp.2.2.2], .at_ 549755813888 yp), (.agg #[.bool pz.1, .slice pz.2.1 pz.2.2.1 pz.2.2.2], .at_ 549755813888 yz)],
             [],
             [(10, 21, 45, .int 0 (yp + yz))], [(⟨b5, i * 2, none⟩, .bool pp.1), (⟨b5, i * 2 + 1, none⟩, .slice pp.2.1 pp.2.2.1 pp.2.2.2), (⟨b3, i * 2, none⟩, .bool pz.1), (⟨b3, i * 2 + 1, none⟩, .slice pz.2.1 pz.2.2.1 pz.2.2.2)], [(9, 21)]⟩ [177, 178, 179, 180, 181, 182, 183, 184, 185, 21] (wr.heap.size) (by kernel_rfl) (by kernel_rfl) (by kernel_rfl) (by kernel_rfl) ?_ ?_ ?_ ?_ ?_ ?_
            · intro p hp;rcases mc hp with rfl | hp
              · exact NP.out
              rcases mc hp with rfl | hp
              · exact NZ.out
              cases hp
            · intro p hp;cases hp
            · intro p hp;rcases mc hp with rfl | hp
              · refine ⟨p0, by show b5 < wr.heap.size; omega, ?_⟩;intro t ht;cases ht
              rcases mc hp with rfl | hp
              · refine ⟨p1, by show b5 < wr.heap.size; omega, ?_⟩;intro t ht;cases ht
              rcases mc hp with rfl | hp
              · refine ⟨z0, by show b3 < wr.heap.size; omega, ?_⟩;intro t ht;cases ht
              rcases mc hp with rfl | hp
              · refine ⟨z1, by show b3 < wr.heap.size; omega, ?_⟩;intro t ht;cases ht
              cases hp
            · intro t ht;cases ht
            · refine allc ?_ (allc ?_ (allc ?_ (allc ?_ (allc ?_ (allc ?_ (allc ?_ (allc ?_ (allc ?_ (allc ?_ (allc ?_ alln))))))))));any_goals (first | (intro L fx w' hJ hL hp hcl; have _ := hp0 hp (by decide +kernel); refine wps rfl fun K hK => ?_; go_simp; exact hJ.q hK (by kernel_rfl) rfl) | fail)
              · intro L fx w' hJ hL hp hcl;have e0 := hJ.pt 0 177 (.slice (some ⟨b5, 0, none⟩) c c) rfl rfl rfl (hp 0 (by decide));rw [e0] at hJ ⊢; clear e0;have e1 := hJ.pt 1 178 (.int .i64 (i : Int)) rfl rfl rfl (hp 1 (by decide));rw [e1] at hJ ⊢; clear e1;refine wps rfl fun K hK => ?_;go_simp;exact hJ.q hK (by kernel_rfl) rfl
              · intro L fx w' hJ hL hp hcl;have e2 := hJ.pt 2 179 (.pointer (some ⟨b5, i * 2, none⟩)) rfl rfl rfl (hp 2 (by decide));rw [e2] at hJ ⊢; clear e2;refine wps rfl fun K hK => ?_;have cl0 := (hJ.cells _ mm0).1;have cl1 := (hJ.cells _ mm1).1;try dsimp only at cl0 cl1
                go_simp;exact hJ.q hK (by kernel_rfl) rfl
              · intro L fx w' hJ hL hp hcl;have e4 := hJ.pt 4 181 (.slice (some ⟨b3, 0, none⟩) c c) rfl rfl rfl (hp 4 (by decide));rw [e4] at hJ ⊢; clear e4;have e5 := hJ.pt 5 182 (.int .i64 (i : Int)) rfl rfl rfl (hp 5 (by decide));rw [e5] at hJ ⊢; clear e5;refine wps rfl fun K hK => ?_;go_simp;exact hJ.q hK (by kernel_rfl) rfl
              · intro L fx w' hJ hL hp hcl;have e6 := hJ.pt 6 183 (.pointer (some ⟨b3, i * 2, none⟩)) rfl rfl rfl (hp 6 (by decide));rw [e6] at hJ ⊢; clear e6;refine wps rfl fun K hK => ?_;have cl0 := (hJ.cells _ mm2).1;have cl1 := (hJ.cells _ mm3).1;try dsimp only at cl0 cl1
                go_simp;exact hJ.q hK (by kernel_rfl) rfl
              · intro L fx w' hJ hL hp hcl;have e3 := hJ.pt 3 180 (.agg #[.bool pp.1, .slice pp.2.1 pp.2.2.1 pp.2.2.2]) rfl rfl rfl (hp 3 (by decide));rw [e3] at hJ ⊢; clear e3;have e7 := hJ.pt 7 184 (.agg #[.bool pz.1, .slice pz.2.1 pz.2.2.1 pz.2.2.2]) rfl rfl rfl (hp 7 (by decide));rw [e7] at hJ ⊢; clear e7;refine wps rfl fun K hK => ?_;go_simp;go_at_call 33;refine (RAdd_c _ _ yp yz _ _ (show IntAt w' _ _ _ from hJ.base _ mm0) (show IntAt w' _ _ _ from hJ.base _ mm1) (by decide)).mono ?_;rintro e w4 ⟨⟨v5, rfl, h5⟩, hb4⟩;try dsimp only
                exact hK _ _ ⟨_, by kernel_rfl, hJ.gC 8 rfl (by kernel_rfl) hb4 (OwnI.mono h5 (Nat.zero_le _)) (by omega)⟩
              · intro L fx w' hJ hL hp hcl;have hg0 : wr.heap.size <= w'.heap.size := Nat.le_trans (by omega : wr.heap.size <= wr.heap.size) hJ.size;refine wps rfl fun K hK => ?_;go_simp;exact hK _ _ ⟨_, by kernel_rfl, hJ.grow 9 (by show 9 < 11; decide) _ (by kernel_rfl) (by kernel_rfl) (by intro t ht; rcases mc ht with rfl | ht; exact ⟨by show 10 ≠ 9; decide, fun _ => by cases hh : L 10 with | false => rfl | true => have := hcl 10 (by show 10 < 11; decide) hh 9 (by decide); rw [hL] at this; cases this⟩; cases ht) (by intro p hp; rcases mc hp with rfl | hp; exact ⟨⟨fun _ => rfl, fun _ => rfl⟩, fun _ q hq hne hLq => (by rcases mc hq with rfl | hq; exact absurd rfl hne; cases hq)⟩; cases hp) ((Below.refl _ _).alloc (Nat.le_refl _) _) ⟨w'.heap.size, _, rfl, hJ.size, RowAt.new _ _ _, NoW.two _ _ _ _, rfl⟩ hg0⟩
              · intro L fx w' hJ hL hp hcl;have e9 := hJ.slot 9 (by show 9 < 11; decide) (hp 9 (by decide));have e8 := hJ.slot 8 (by show 8 < 11; decide) (hp 8 (by decide));have e8' := e8;obtain ⟨b7, o7, l7, k7, hv0⟩ := OwnI.parts e8;rw [hv0] at e8';rw [patchX (x := fx) (d := 185) (v := (.agg #[.bool b7, .slice o7 l7 k7])) hv0] at hJ ⊢;obtain ⟨g, cs, hx, hgB, hr0, hn0, hl0⟩ := e9;obtain ⟨z0, z1, rfl⟩ : ∃ z0 z1, cs = [z0, z1] := list2 hl0;have hf0 := RowAt.free hr0 0;have hc0 := RowAt.cell hr0 0;have hf1 := RowAt.free hr0 1;have hc1 := RowAt.cell hr0 1;try dsimp only at hf0 hc0 hf1 hc1
                have hx1 := hx;rw [patchX (x := (updX fx 185 (.agg #[.bool b7, .slice o7 l7 k7]))) (d := 21) hx] at hJ ⊢;refine wps rfl fun K hK => ?_;go_simp;exact hK _ _ ⟨_, by kernel_rfl, hJ.storeNew (us := [.bool b7, .slice o7 l7 k7]) 10 21 _ _ (by show 10 < 11; decide) rfl mm0 (by intro t ht h; rcases mc ht with rfl | ht; rfl; cases ht) (by intro t ht hne hLt; rcases mc ht with rfl | ht; exact absurd rfl hne; cases ht) (by kernel_rfl) (by kernel_rfl) (by decide) (by rfl) hgB hr0 hn0 rfl (NoW.two _ _ _ _) ⟨_, _, _, _, rfl, e8'⟩ (by omega)⟩
            · intro L x' w9 hL hJ;have hfr : Below wr.drew.heap.size wr.drew w9 := hJ.fr;obtain ⟨g9, cs9, hx9, hg9, hr9, b9, o9, l9, k9, hcs9, hI9⟩ := hJ.new _ mm0 (hL 10 (by show 10 < 11; decide));subst hcs9;have hx9 : x' 21 = _ := hx9;rw [patchX (x := x') (d := 21) hx9];have hg9 : wr.heap.size <= g9 := hg9;have I9 : OwnI w9 0 (.agg #[.bool b9, .slice o9 l9 k9]) (yp + yz) := hI9;rw [HSUM.out.1] at I9;have NS := Lib.hid (I9.num.int HSUM.out.2.1);have hgl9 : g9 < w9.heap.size := hr9.lt;have B9 := Lib.hid (hB.out.trans (((Below.refl w12.heap.size wr).drew).trans (hfr.mono hB.out.size)));have cq0 : w9.cell? ⟨g9, 0, none⟩ = some (.bool b9) := hr9.cell 0;have cq1 : w9.cell? ⟨g9, 1, none⟩ = some (.slice o9 l9 k9) := hr9.cell 1;have hbd9 : Below wr.heap.size wr w9 := ((Below.refl wr.heap.size wr).drew).trans hfr;have u0 := (hbd9.cell (p := ⟨bv, ov + i * 2, none⟩) hbv).trans v0;have u1 := (hbd9.cell (p := ⟨bv, ov + i * 2 + 1, none⟩) hbv).trans v1;have NV9 := Lib.hid (NV.out.below hbd9);have hbv9 : bv < w9.heap.size := Nat.lt_of_lt_of_le hbv hbd9.size;clear hJ hL hx9 hr9 hI9 I9 p0 p1 z0 z1 v0 v1 hB hfr hbd9 NP NZ NV;simp only [pN, Nat.reduceEqDiff, ↓reduceIte];go_wp2;refine wp_region_J ⟨7, fun q_ => [186, 187, 188, 189, 190, 191, 192].getD q_ 0,
               fun q_ => [.val (.agg #[.bool b9, .slice o9 l9 k9]), .val (.slice (some ⟨bv, ov, none⟩) c kv), .val (.int .i64 (i : Int)), .val (.pointer (some ⟨bv, ov + i * 2, none⟩)), .val (.agg #[.bool pv.1, .slice pv.2.1 pv.2.2.1 pv.2.2.2]), .val (.int .i64 0), .val (.bool false)].getD q_ .any,
               [],
               [(.agg #[.bool b9, .slice o9 l9 k9], .at_ 549755813888 yv), (.agg #[.bool pv.1, .slice pv.2.1 pv.2.2.1 pv.2.2.2], .at_ 549755813888 yv)],
               [],
               [], [(⟨g9, 0, none⟩, .bool b9), (⟨g9, 1, none⟩, .slice o9 l9 k9), (⟨bv, ov + i * 2, none⟩, .bool pv.1), (⟨bv, ov + i * 2 + 1, none⟩, .slice pv.2.1 pv.2.2.1 pv.2.2.2)], []⟩ [186, 187, 188, 189, 190, 191, 192] (w9.heap.size) (by kernel_rfl) (by kernel_rfl) (by kernel_rfl) (by kernel_rfl) ?_ ?_ ?_ ?_ ?_ ?_
              · intro p hp;rcases mc hp with rfl | hp
                · exact NS.out
                rcases mc hp with rfl | hp
                · exact NV9.out
                cases hp
              · intro p hp;cases hp
              · intro p hp;rcases mc hp with rfl | hp
                · refine ⟨cq0, by show g9 < w9.heap.size; omega, ?_⟩;intro t ht;cases ht
                rcases mc hp with rfl | hp
                · refine ⟨cq1, by show g9 < w9.heap.size; omega, ?_⟩;intro t ht;cases ht
                rcases mc hp with rfl | hp
                · refine ⟨u0, by show bv < w9.heap.size; omega, ?_⟩;intro t ht;cases ht
                rcases mc hp with rfl | hp
                · refine ⟨u1, by show bv < w9.heap.size; omega, ?_⟩;intro t ht;cases ht
                cases hp
              · intro t ht;cases ht
              · refine allc ?_ (allc ?_ (allc ?_ (allc ?_ (allc ?_ (allc ?_ (allc ?_ alln))))));any_goals (first | (intro L fx w' hJ hL hp hcl; have _ := hp0 hp (by decide +kernel); refine wps rfl fun K hK => ?_; go_simp; exact hJ.q hK (by kernel_rfl) rfl) | fail)
                · intro L fx w' hJ hL hp hcl;refine wps rfl fun K hK => ?_;have cl0 := (hJ.cells _ mm0).1;have cl1 := (hJ.cells _ mm1).1;try dsimp only at cl0 cl1
                  go_simp;exact hJ.q hK (by kernel_rfl) rfl
                · intro L fx w' hJ hL hp hcl;have e1 := hJ.pt 1 187 (.slice (some ⟨bv, ov, none⟩) c kv) rfl rfl rfl (hp 1 (by decide));rw [e1] at hJ ⊢; clear e1;have e2 := hJ.pt 2 188 (.int .i64 (i : Int)) rfl rfl rfl (hp 2 (by decide));rw [e2] at hJ ⊢; clear e2;refine wps rfl fun K hK => ?_;go_simp;exact hJ.q hK (by kernel_rfl) rfl
                · intro L fx w' hJ hL hp hcl;have e3 := hJ.pt 3 189 (.pointer (some ⟨bv, ov + i * 2, none⟩)) rfl rfl rfl (hp 3 (by decide));rw [e3] at hJ ⊢; clear e3;refine wps rfl fun K hK => ?_;have cl0 := (hJ.cells _ mm2).1;have cl1 := (hJ.cells _ mm3).1;try dsimp only at cl0 cl1
                  go_simp;exact hJ.q hK (by kernel_rfl) rfl
                · intro L fx w' hJ hL hp hcl;have e0 := hJ.pt 0 186 (.agg #[.bool b9, .slice o9 l9 k9]) rfl rfl rfl (hp 0 (by decide));rw [e0] at hJ ⊢; clear e0;have e4 := hJ.pt 4 190 (.agg #[.bool pv.1, .slice pv.2.1 pv.2.2.1 pv.2.2.2]) rfl rfl rfl (hp 4 (by decide));rw [e4] at hJ ⊢; clear e4;refine wps rfl fun K hK => ?_;go_simp;go_at_call 34;refine (RCmp_c _ _ yv yv _ _ (show IntAt w' _ _ _ from hJ.base _ mm0) (show IntAt w' _ _ _ from hJ.base _ mm1) (by decide)).mono ?_;rw [HSUM.out.2.2];rintro e w4 ⟨rfl, hb4⟩;try dsimp only
                  exact hK _ _ ⟨_, by kernel_rfl, hJ.gC 5 rfl (by kernel_rfl) hb4 rfl (by omega)⟩
                · intro L fx w' hJ hL hp hcl;have e5 := hJ.pt 5 191 (.int .i64 0) rfl rfl rfl (hp 5 (by decide));rw [e5] at hJ ⊢; clear e5;refine wps rfl fun K hK => ?_;go_simp;exact hJ.q hK (by kernel_rfl) rfl
              · intro L x' w13 hL hJ;have hfr : Below w9.drew.heap.size w9.drew w13 := hJ.fr;have e6 : x' 192 = .bool false := hJ.slot 6 (by show 6 < 7; decide) (hL 6 (by show 6 < 7; decide));rw [patchX (x := x') (d := 192) e6];have B13 := Lib.hid (B9.out.trans (((Below.refl w12.heap.size w9).drew).trans (hfr.mono B9.out.size)));clear hJ hL cq0 cq1 u0 u1 e6;simp only [pN, Nat.reduceEqDiff, ↓reduceIte];go_wp2;go_roundw
                case rel => exact ⟨i + 1, by omega, by go_num, B13⟩
                case measure => simp [intOf]; omega
          · skip;have hirb : decide ((i : Int) < (c : Int)) = false := decide_eq_false (by omega);have hirb2 : decide (i < c) = false := decide_eq_false (by omega);clear ca1;obtain ⟨wD, rfl⟩ : ∃ wo : World, wo = wr := ⟨_, rfl⟩;have hb_ := hB.out;clear hB;have HX_14 := Lib.hid (LsAt.below (w := w12) HX_13.out (hb_));have HV_14 := Lib.hid (LsAt.below (w := w12) HV_13.out (hb_));have HU_14 := Lib.hid (LsAt.below (w := w12) HU_13.out (hb_));have A_14 := Lib.hid (RowAt.below (w := w12) A_13.out (hb_) A_13.out.lt);have R1_14 := Lib.hid (RowN.below (w := w12) R1_13.out (hb_));have X_14 := Lib.hid (RowAt.below (w := w12) X_13.out (hb_) X_13.out.lt);have N1_14 := Lib.hid (NsAt.below (w := w12) N1_13.out (hb_));have N2_14 := Lib.hid (NsAt.below (w := w12) N2_13.out (hb_));have RZ_14 := Lib.hid (RowN.below (w := w12) RZ_13.out (hb_));have RC_14 := Lib.hid (RowN.below (w := w12) RC_13.out (hb_));have RP_14 := Lib.hid (RowN.below (w := w12) RP_13.out (hb_));have b_14 := Lib.hid (b_13.out.trans (Below.mono hb_ b_13.out.size));have sz_14 := (hb_).size;clear HX_13 HV_13 HU_13 A_13 R1_13 X_13 N1_13 N2_13 RZ_13 RC_13 RP_13 b_13;clear hb_;by_cases hlx : lx = r
            · skip;have hlx2 : r = lx := hlx.symm;subst hlx2;clear hlx;have l14_X : w4.heap.size < wD.heap.size := X_14.out.lt;have c14_X0 : wD.cell? ⟨w4.heap.size, 0, none⟩ = some (.int .i64 (r : Int)) := X_14.out.cell 0;have c14_X1 : wD.cell? ⟨w4.heap.size, 1, none⟩ = some (.int .i64 (c : Int)) := X_14.out.cell 1;have c14_X2 : wD.cell? ⟨w4.heap.size, 2, none⟩ = some (.slice (some ⟨b1, 0, none⟩) (r * c) (r * c)) := X_14.out.cell 2;have l14_A : w.heap.size < wD.heap.size := A_14.out.lt;have c14_A0 : wD.cell? ⟨w.heap.size, 0, none⟩ = some (.int .i64 (r : Int)) := A_14.out.cell 0;have c14_A1 : wD.cell? ⟨w.heap.size, 1, none⟩ = some (.int .i64 (c : Int)) := A_14.out.cell 1;have c14_A2 : wD.cell? ⟨w.heap.size, 2, none⟩ = some (.slice ao xs.length cap) := A_14.out.cell 2;go_wp2_with fail
              clear l14_X c14_X0 c14_X1 c14_X2 l14_A c14_A0 c14_A1 c14_A2;clear hirb hirb2;refine (VecMul_c r c m mx au kx us ao xs.length cap xs wD hr hc (HU_14.out.up (by omega)) HU0.out.1.symm HU0.out.2 (HX_14.out.up (by omega)) HM.out rfl HS.out (by omega)).mono ?_;rintro e wE ⟨⟨b6, qs0, rfl, hb6, hR6, hql, hqs⟩, hbE⟩;have HQ0 := Lib.hid (And.intro hql hqs);have R6 := Lib.hid hR6;have BE := Lib.hid hbE;have AE := RowAt.below A_14.out hbE A_14.out.lt;clear hR6 hql hqs hbE AE;go_wp2;go_loopw [24] (fun i_ wq => ∃ (i : Nat) (qs : List Int), i <= c /\ i_ = .int .i64 (i : Int) /\ Hid (qs.length = c) /\ Hid (∀ b, b < c -> qs.getD b 0 = if b < i then vm us (matE xs r c) b r + vs.getD b 0 else vm us (matE xs r c) b r) /\ Hid (RowN wq b6 qs) /\ Hid (Below wD.heap.size wD wq)) (fun i_ _ => c - (intOf i_).toNat)
              case atStart => exact ⟨0, qs0, Nat.zero_le _, rfl, Lib.hid HQ0.out.1, Lib.hid (fun b hb => by rw [if_neg (by omega)]; exact HQ0.out.2 b hb), R6, BE⟩
              case round =>
               obtain ⟨i, qs, hi, rfl, hql, hq, hX, hB⟩ := hrel;have A9 := RowAt.below A_14.out hB.out A_14.out.lt;have ca1 : wr.cell? ⟨w.heap.size, 1, none⟩ = some (.int .i64 (c : Int)) := A9.cell 1;clear A9;by_cases hin : i < c
               · have hin1 : (i : Int) < (c : Int) := by omega
                 have hqi : i < qs.length := by rw [hql.out]; exact hin
                 have hvl : i < vs.length := by rw [<- HV0.out.1]; exact hin
                 obtain ⟨pq, q0, q1_, hnq⟩ := hX.out.get hqi;obtain ⟨bv, ov, rfl, hbv, hvc⟩ := (HV_14.out.below hB.out) (by omega);obtain ⟨pv, v0, v1, hnv⟩ := hvc i hvl;have e1 : qs[i] = vm us (matE xs r c) i r := by have := hq.out i hin; rw [if_neg (by omega), List.getD_eq_getElem?_getD, List.getElem?_eq_getElem hqi] at this; exact this
                 have e3 : vs[i] = vs.getD i 0 := by rw [List.getD_eq_getElem?_getD, List.getElem?_eq_getElem hvl]; rfl
                 obtain ⟨yq, hyq⟩ : ∃ y, vm us (matE xs r c) i r = y := ⟨_, rfl⟩;obtain ⟨yv, hyv⟩ : ∃ y, vs.getD i 0 = y := ⟨_, rfl⟩;rw [e1, hyq] at hnq;rw [e3, hyv] at hnv;have hwq : wlen yq.natAbs <= 549755813888 := by rw [<- hyq]; exact Nat.le_trans (wlen_le_of_lt (vm_bd HU0.out.2 HM.out r (by omega))) (by omega)
                 have HY := Lib.hid (And.intro hyq hyv);have NQ := Lib.hid (hnq.int hwq);have NV := Lib.hid (hnv.mono (L' := 549755813888) (by omega));have lq : b6 < wr.heap.size := hX.out.lt;have hsD := hB.out.size;clear e1 e3 hyq hyv hnq hnv hvc hwq;go_wp2;clear ca1

                 refine wp_region_K ⟨12, fun q_ => [210, 211, 212, 213, 214, 215, 216, 217, 218, 219, 220, 221].getD q_ 0,
                  fun q_ => [.val (.slice (some ⟨b6, 0, none⟩) c c), .val (.int .i64 (i : Int)), .val (.slice (some ⟨b6, 0, none⟩) c c), .val (.int .i64 (i : Int)), .val (.pointer (some ⟨b6, i * 2, none⟩)), .val (.agg #[.bool pq.1, .slice pq.2.1 pq.2.2.1 pq.2.2.2]), .val (.slice (some ⟨bv, ov, none⟩) c kv), .val (.int .i64 (i : Int)), .val (.pointer (some ⟨bv, ov + i * 2, none⟩)), .val (.agg #[.bool pv.1, .slice pv.2.1 pv.2.2.1 pv.2.2.2]), .int 0 (yq + yv), .val (.pointer (some ⟨b6, i * 2, none⟩))].getD q_ .any,
                  [],
                  [(.agg #[.bool pq.1, .slice pq.2.1 pq.2.2.1 pq.2.2.2], .at_ 549755813888 yq), (.agg #[.bool pv.1, .slice pv.2.1 pv.2.2.1 pv.2.2.2], .at_ 549755813888 yv)],
                  [],
                  [], [(⟨b6, i * 2, none⟩, .bool pq.1), (⟨b6, i * 2 + 1, none⟩, .slice pq.2.1 pq.2.2.1 pq.2.2.2), (⟨bv, ov + i * 2, none⟩, .bool pv.1), (⟨bv, ov + i * 2 + 1, none⟩, .slice pv.2.1 pv.2.2.1 pv.2.2.2)], []⟩ [210, 211, 212, 213, 214, 215, 216, 217, 218, 219, 220, 221] (wr.heap.size) (by kernel_rfl) (by kernel_rfl) (by kernel_rfl) (by kernel_rfl) (by kernel_rfl) ?_ ?_ ?_ ?_ ?_ ?_
                 · intro p hp;rcases mc hp with rfl | hp
                   · exact NQ.out
                   rcases mc hp with rfl | hp
                   · exact NV.out
                   cases hp
                 · intro p hp;cases hp
                 · intro p hp;rcases mc hp with rfl | hp
                   · refine ⟨q0, by show b6 < wr.heap.size; omega, ?_⟩;intro t ht;cases ht
                   rcases mc hp with rfl | hp
                   · refine ⟨q1_, by show b6 < wr.heap.size; omega, ?_⟩;intro t ht;cases ht
                   rcases mc hp with rfl | hp
                   · refine ⟨v0, by show bv < wr.heap.size; omega, ?_⟩;intro t ht;cases ht
                   rcases mc hp with rfl | hp
                   · refine ⟨v1, by show bv < wr.heap.size; omega, ?_⟩;intro t ht;cases ht
                   cases hp
                 · intro t ht;cases ht
                 · refine allc ?_ (allc ?_ (allc ?_ (allc ?_ (allc ?_ (allc ?_ (allc ?_ (allc ?_ (allc ?_ (allc ?_ (allc ?_ (allc ?_ alln)))))))))));any_goals (first | (intro L fx w' hJ hL hp hcl; have _ := hp0 hp (by decide +kernel); refine wps rfl fun K hK => ?_; go_simp; exact hJ.q hK (by kernel_rfl) rfl) | fail)
                   · intro L fx w' hJ hL hp hcl;have e2 := hJ.pt 2 212 (.slice (some ⟨b6, 0, none⟩) c c) rfl rfl rfl (hp 2 (by decide));rw [e2] at hJ ⊢; clear e2;have e3 := hJ.pt 3 213 (.int .i64 (i : Int)) rfl rfl rfl (hp 3 (by decide));rw [e3] at hJ ⊢; clear e3;refine wps rfl fun K hK => ?_;go_simp;exact hJ.q hK (by kernel_rfl) rfl
                   · intro L fx w' hJ hL hp hcl;have e4 := hJ.pt 4 214 (.pointer (some ⟨b6, i * 2, none⟩)) rfl rfl rfl (hp 4 (by decide));rw [e4] at hJ ⊢; clear e4;refine wps rfl fun K hK => ?_;have cl0 := (hJ.cells _ mm0).1;have cl1 := (hJ.cells _ mm1).1;try dsimp only at cl0 cl1
                     go_simp;exact hJ.q hK (by kernel_rfl) rfl
                   · intro L fx w' hJ hL hp hcl;have e6 := hJ.pt 6 216 (.slice (some ⟨bv, ov, none⟩) c kv) rfl rfl rfl (hp 6 (by decide));rw [e6] at hJ ⊢; clear e6;have e7 := hJ.pt 7 217 (.int .i64 (i : Int)) rfl rfl rfl (hp 7 (by decide));rw [e7] at hJ ⊢; clear e7;refine wps rfl fun K hK => ?_;go_simp;exact hJ.q hK (by kernel_rfl) rfl
                   · intro L fx w' hJ hL hp hcl;have e8 := hJ.pt 8 218 (.pointer (some ⟨bv, ov + i * 2, none⟩)) rfl rfl rfl (hp 8 (by decide));rw [e8] at hJ ⊢; clear e8;refine wps rfl fun K hK => ?_;have cl0 := (hJ.cells _ mm2).1;have cl1 := (hJ.cells _ mm3).1;try dsimp only at cl0 cl1
                     go_simp;exact hJ.q hK (by kernel_rfl) rfl
                   · intro L fx w' hJ hL hp hcl;have e5 := hJ.pt 5 215 (.agg #[.bool pq.1, .slice pq.2.1 pq.2.2.1 pq.2.2.2]) rfl rfl rfl (hp 5 (by decide));rw [e5] at hJ ⊢; clear e5;have e9 := hJ.pt 9 219 (.agg #[.bool pv.1, .slice pv.2.1 pv.2.2.1 pv.2.2.2]) rfl rfl rfl (hp 9 (by decide));rw [e9] at hJ ⊢; clear e9;refine wps rfl fun K hK => ?_;go_simp;go_at_call 33;refine (RAdd_c _ _ yq yv _ _ (show IntAt w' _ _ _ from hJ.base _ mm0) (show IntAt w' _ _ _ from hJ.base _ mm1) (by decide)).mono ?_;rintro e w4 ⟨⟨v5, rfl, h5⟩, hb4⟩;try dsimp only
                     exact hK _ _ ⟨_, by kernel_rfl, hJ.gC 10 rfl (by kernel_rfl) hb4 (OwnI.mono h5 (Nat.zero_le _)) (by omega)⟩
                   · intro L fx w' hJ hL hp hcl;have e0 := hJ.pt 0 210 (.slice (some ⟨b6, 0, none⟩) c c) rfl rfl rfl (hp 0 (by decide));rw [e0] at hJ ⊢; clear e0;have e1 := hJ.pt 1 211 (.int .i64 (i : Int)) rfl rfl rfl (hp 1 (by decide));rw [e1] at hJ ⊢; clear e1;refine wps rfl fun K hK => ?_;go_simp;exact hJ.q hK (by kernel_rfl) rfl
                 · intro L x' w13 hL hJ;have hfr : Below wr.drew.heap.size wr.drew w13 := hJ.fr;have e18 : OwnI w13 0 (x' 220) (yq + yv) := hJ.slot 10 (by show 10 < 12; decide) (hL 10 (by show 10 < 12; decide));have e19 : x' 221 = .pointer (some ⟨b6, i * 2, none⟩) := hJ.slot 11 (by show 11 < 12; decide) (hL 11 (by show 11 < 12; decide));obtain ⟨pw, hpw⟩ := NumAt.parts e18.num;rw [hpw] at e18;unfold av at hpw;rw [patchX (x := x') (d := 220) hpw];rw [patchX (x := updX x' 220 (.agg #[.bool pw.1, .slice pw.2.1 pw.2.2.1 pw.2.2.2])) (d := 221) (v := .pointer (some ⟨b6, i * 2, none⟩)) e19];clear hJ hL q0 q1_ v0 v1;have X7 := Lib.hid (RowN.below (w := wr.drew) hX.out hfr);have B7 := hB.out.trans (((Below.refl wD.heap.size wr).drew).trans (hfr.mono hB.out.size));have B8 := Lib.hid ((B7.setCell (p := ⟨b6, i * 2, none⟩) hb6 (.bool pw.1)).setCell (p := ⟨b6, i * 2 + 1, none⟩) hb6 (.slice pw.2.1 pw.2.2.1 pw.2.2.2));have X8 := Lib.hid (X7.out.set i e18.num);have HQ8 := Lib.hid (show ∀ b, b < c -> (qs.set i (yq + yv)).getD b 0 = if b < i + 1 then vm us (matE xs r c) b r + vs.getD b 0 else vm us (matE xs r c) b r from fun b hb => by
                    rw [getD_set hqi];by_cases e : b = i
                    · subst e;rw [if_pos rfl, if_pos (by omega), HY.out.1, HY.out.2]
                    · rw [if_neg e, hq.out b hb];by_cases e2 : b < i
                      · rw [if_pos e2, if_pos (by omega)]
                      · rw [if_neg e2, if_neg (by omega)])
                   clear B7 e18;obtain ⟨pq9, s0, s1, _⟩ := X7.out.get (i := i) (by omega);have s2 := X7.out.free (i * 2);have s3 := X7.out.free (i * 2 + 1);refine wpOp_step rfl (fun KK hKK => ?_);go_simp;refine hKK _ _ ⟨⟨updX (updX x' 220 (.agg #[.bool pw.1, .slice pw.2.1 pw.2.2.1 pw.2.2.2])) 221 (.pointer (some ⟨b6, i * 2, none⟩)), by kernel_rfl⟩, ?_⟩;clear hKK s0 s1 s2 s3;go_wp2;go_roundw
                   case rel => exact ⟨i + 1, qs.set i (yq + yv), by omega, by go_num, Lib.hid (by simpa using hql.out), HQ8, X8, B8⟩
                   case measure => simp [intOf]; omega
               · skip;have hirb : decide ((i : Int) < (c : Int)) = false := decide_eq_false (by omega);have hirb2 : decide (i < c) = false := decide_eq_false (by omega);clear ca1;obtain ⟨wF, rfl⟩ : ∃ wo : World, wo = wr := ⟨_, rfl⟩;have hb_ := hB.out;clear hB BE;have HX_15 := Lib.hid (LsAt.below (w := wD) HX_14.out (hb_));have HV_15 := Lib.hid (LsAt.below (w := wD) HV_14.out (hb_));have HU_15 := Lib.hid (LsAt.below (w := wD) HU_14.out (hb_));have A_15 := Lib.hid (RowAt.below (w := wD) A_14.out (hb_) A_14.out.lt);have R1_15 := Lib.hid (RowN.below (w := wD) R1_14.out (hb_));have X_15 := Lib.hid (RowAt.below (w := wD) X_14.out (hb_) X_14.out.lt);have N1_15 := Lib.hid (NsAt.below (w := wD) N1_14.out (hb_));have N2_15 := Lib.hid (NsAt.below (w := wD) N2_14.out (hb_));have RZ_15 := Lib.hid (RowN.below (w := wD) RZ_14.out (hb_));have RC_15 := Lib.hid (RowN.below (w := wD) RC_14.out (hb_));have RP_15 := Lib.hid (RowN.below (w := wD) RP_14.out (hb_));have b_15 := Lib.hid (b_14.out.trans (Below.mono hb_ b_14.out.size));have sz_15 := (hb_).size;clear HX_14 HV_14 HU_14 A_14 R1_14 X_14 N1_14 N2_14 RZ_14 RC_14 RP_14 b_14;clear hb_;have RQ_15 : Hid (RowN wF b6 qs) := Lib.hid (hX.out);have hqv := Lib.hid (show ∀ b, b < c -> qs.getD b 0 = vm us (matE xs r c) b r + vs.getD b 0 from fun b hb => by rw [hq.out b hb, if_pos (by omega)]);have hqb := Lib.hid (show ∀ x ∈ qs, x.natAbs < W ^ (mx + m + mv + 2) from fun x hx => by
                  obtain ⟨b, hb, rfl⟩ := List.getElem_of_mem hx;have hbc : b < c := by rw [<- hql.out]; exact hb
                  have e := hqv.out b hbc;rw [List.getD_eq_getElem?_getD, List.getElem?_eq_getElem hb] at e;have e : qs[b] = _ := e;have h1 := vm_bd (r := r) (c := c) (j := b) HU0.out.2 HM.out r (by omega);have h2 : (vs.getD b 0).natAbs < W ^ mv := by
                   have hbv : b < vs.length := by rw [<- HV0.out.1]; exact hbc
                   rw [List.getD_eq_getElem?_getD, List.getElem?_eq_getElem hbv]; exact HV0.out.2 _ (List.getElem_mem hbv)
                  rw [e];have h3 := Int.natAbs_add_le (vm us (matE xs r c) b r) (vs.getD b 0);have h4 : W ^ (mx + m + 1) <= W ^ (mx + m + mv + 1) := Nat.pow_le_pow_right (by decide) (by omega);have h5 : W ^ mv <= W ^ (mx + m + mv + 1) := Nat.pow_le_pow_right (by decide) (by omega);have h6 : W ^ (mx + m + mv + 2) = W ^ (mx + m + mv + 1) * W := Nat.pow_succ ..;have h7 : W ^ (mx + m + mv + 1) * 2 <= W ^ (mx + m + mv + 1) * W := Nat.mul_le_mul_left _ (by decide);omega)
                 have hcd := Lib.hid (show Sp r (matE xs r c) (fun b => qs.getD b 0 - vs.getD b 0) from ⟨fun a => us.getD a 0, fun b => by
                  show qs.getD b 0 - vs.getD b 0 = vm us (matE xs r c) b r;by_cases hb : b < c
                  · rw [hqv.out b hb]; omega
                  · rw [List.getD_eq_getElem?_getD, List.getD_eq_getElem?_getD, List.getElem?_eq_none (by rw [hql.out]; omega), List.getElem?_eq_none (by rw [<- HV0.out.1]; omega)];exact (sm_zero (fun k _ => by unfold matE; rw [if_neg (by omega), Int.mul_zero])).symm⟩)
                 have hql2 := hql.out;have HQL := Lib.hid hql2;clear hql hq hX hql2;have l15_X : w4.heap.size < wF.heap.size := X_15.out.lt;have c15_X0 : wF.cell? ⟨w4.heap.size, 0, none⟩ = some (.int .i64 (r : Int)) := X_15.out.cell 0;have c15_X1 : wF.cell? ⟨w4.heap.size, 1, none⟩ = some (.int .i64 (c : Int)) := X_15.out.cell 1;have c15_X2 : wF.cell? ⟨w4.heap.size, 2, none⟩ = some (.slice (some ⟨b1, 0, none⟩) (r * c) (r * c)) := X_15.out.cell 2;have l15_A : w.heap.size < wF.heap.size := A_15.out.lt;have c15_A0 : wF.cell? ⟨w.heap.size, 0, none⟩ = some (.int .i64 (r : Int)) := A_15.out.cell 0;have c15_A1 : wF.cell? ⟨w.heap.size, 1, none⟩ = some (.int .i64 (c : Int)) := A_15.out.cell 1;have c15_A2 : wF.cell? ⟨w.heap.size, 2, none⟩ = some (.slice ao xs.length cap) := A_15.out.cell 2;go_wp2_with fail
                 clear l15_X c15_X0 c15_X1 c15_X2 l15_A c15_A0 c15_A1 c15_A2;clear hirb hirb2;refine (HReduce_c r c M (mx + m + mv + 2) (some ⟨b1, 0, none⟩) (r * c) (r * c) hs (some ⟨b6, 0, none⟩) c qs wF hr hc (R1_15.out.lsAt HXW.out) H1.out.2 HL1.out.symm HL1.out H1.out.1.hf (RQ_15.out.lsAt (fun y hy => Nat.le_trans (wlen_le_of_lt (hqb.out y hy)) (by omega))) HQL.out hqb.out (by omega)).mono ?_;rintro e w14 ⟨⟨b7, b8, ls4, zs2, cs2, rfl, hb7, hb8, hR7, hR8, hP4, hRI2⟩, hb_⟩;have HX_16 := Lib.hid (LsAt.below (w := wF) HX_15.out (hb_));have HV_16 := Lib.hid (LsAt.below (w := wF) HV_15.out (hb_));have HU_16 := Lib.hid (LsAt.below (w := wF) HU_15.out (hb_));have A_16 := Lib.hid (RowAt.below (w := wF) A_15.out (hb_) A_15.out.lt);have R1_16 := Lib.hid (RowN.below (w := wF) R1_15.out (hb_));have X_16 := Lib.hid (RowAt.below (w := wF) X_15.out (hb_) X_15.out.lt);have N1_16 := Lib.hid (NsAt.below (w := wF) N1_15.out (hb_));have N2_16 := Lib.hid (NsAt.below (w := wF) N2_15.out (hb_));have RZ_16 := Lib.hid (RowN.below (w := wF) RZ_15.out (hb_));have RC_16 := Lib.hid (RowN.below (w := wF) RC_15.out (hb_));have RP_16 := Lib.hid (RowN.below (w := wF) RP_15.out (hb_));have RQ_16 := Lib.hid (RowN.below (w := wF) RQ_15.out (hb_));have b_16 := Lib.hid (b_15.out.trans (Below.mono hb_ b_15.out.size));have sz_16 := (hb_).size;clear HX_15 HV_15 HU_15 A_15 R1_15 X_15 N1_15 N2_15 RZ_15 RC_15 RP_15 RQ_15 b_15;clear hb_;obtain rfl : ls = ls4 := HP.out.unique hP4;obtain rfl : zs = zs2 := (hRI2.same H1.out.1 HP.out HRI.out.1 hcd.out).symm;have R7_16 : Hid (RowN w14 b7 zs) := Lib.hid (hR7);clear hR7 hR8 hP4 hRI2;have l16_X : w4.heap.size < w14.heap.size := X_16.out.lt;have c16_X0 : w14.cell? ⟨w4.heap.size, 0, none⟩ = some (.int .i64 (r : Int)) := X_16.out.cell 0;have c16_X1 : w14.cell? ⟨w4.heap.size, 1, none⟩ = some (.int .i64 (c : Int)) := X_16.out.cell 1;have c16_X2 : w14.cell? ⟨w4.heap.size, 2, none⟩ = some (.slice (some ⟨b1, 0, none⟩) (r * c) (r * c)) := X_16.out.cell 2;have l16_A : w.heap.size < w14.heap.size := A_16.out.lt;have c16_A0 : w14.cell? ⟨w.heap.size, 0, none⟩ = some (.int .i64 (r : Int)) := A_16.out.cell 0;have c16_A1 : w14.cell? ⟨w.heap.size, 1, none⟩ = some (.int .i64 (c : Int)) := A_16.out.cell 1;have c16_A2 : w14.cell? ⟨w.heap.size, 2, none⟩ = some (.slice ao xs.length cap) := A_16.out.cell 2;go_wp2_with fail
                 clear l16_X c16_X0 c16_X1 c16_X2 l16_A c16_A0 c16_A1 c16_A2;refine (AlikeRows_c (some ⟨b7, 0, none⟩) (some ⟨b3, 0, none⟩) c c c c zs zs w14 R7_16.out.lsN RZ_16.out.lsN HRI.out.1.zlen.symm HRI.out.1.zlen.symm (by omega) (by omega) (fun y hy => Nat.le_trans (HZW.out y hy) (by omega)) (fun y hy => Nat.le_trans (HZW.out y hy) (by omega))).mono ?_;rintro e w15 ⟨rfl, hb_⟩;have HX_17 := Lib.hid (LsAt.below (w := w14) HX_16.out (hb_));have HV_17 := Lib.hid (LsAt.below (w := w14) HV_16.out (hb_));have HU_17 := Lib.hid (LsAt.below (w := w14) HU_16.out (hb_));have A_17 := Lib.hid (RowAt.below (w := w14) A_16.out (hb_) A_16.out.lt);have R1_17 := Lib.hid (RowN.below (w := w14) R1_16.out (hb_));have X_17 := Lib.hid (RowAt.below (w := w14) X_16.out (hb_) X_16.out.lt);have N1_17 := Lib.hid (NsAt.below (w := w14) N1_16.out (hb_));have N2_17 := Lib.hid (NsAt.below (w := w14) N2_16.out (hb_));have RZ_17 := Lib.hid (RowN.below (w := w14) RZ_16.out (hb_));have RC_17 := Lib.hid (RowN.below (w := w14) RC_16.out (hb_));have RP_17 := Lib.hid (RowN.below (w := w14) RP_16.out (hb_));have RQ_17 := Lib.hid (RowN.below (w := w14) RQ_16.out (hb_));have R7_17 := Lib.hid (RowN.below (w := w14) R7_16.out (hb_));have b_17 := Lib.hid (b_16.out.trans (Below.mono hb_ b_16.out.size));have sz_17 := (hb_).size;clear HX_16 HV_16 HU_16 A_16 R1_16 X_16 N1_16 N2_16 RZ_16 RC_16 RP_16 RQ_16 R7_16 b_16;clear hb_;have hdz : decide (zs = zs) = true := by simp
                 rw [hdz];clear hdz;go_wp2;go_ret;exact ⟨rfl, b_17.out⟩
            · skip;have hlx1 : ((lx : Int) != (r : Int)) = true := by simp; omega
              have l14_A : w.heap.size < wD.heap.size := A_14.out.lt;have c14_A0 : wD.cell? ⟨w.heap.size, 0, none⟩ = some (.int .i64 (r : Int)) := A_14.out.cell 0;have c14_A1 : wD.cell? ⟨w.heap.size, 1, none⟩ = some (.int .i64 (c : Int)) := A_14.out.cell 1;have c14_A2 : wD.cell? ⟨w.heap.size, 2, none⟩ = some (.slice ao xs.length cap) := A_14.out.cell 2;have l14_X : w4.heap.size < wD.heap.size := X_14.out.lt;have c14_X0 : wD.cell? ⟨w4.heap.size, 0, none⟩ = some (.int .i64 (r : Int)) := X_14.out.cell 0;have c14_X1 : wD.cell? ⟨w4.heap.size, 1, none⟩ = some (.int .i64 (c : Int)) := X_14.out.cell 1;have c14_X2 : wD.cell? ⟨w4.heap.size, 2, none⟩ = some (.slice (some ⟨b1, 0, none⟩) (r * c) (r * c)) := X_14.out.cell 2;go_wp2;go_ret;exact ⟨rfl, b_14.out⟩
    · skip;have hlv1 : ((lv : Int) != (c : Int)) = true := by simp; omega
      have l9_X : w4.heap.size < wA.heap.size := X_9.out.lt;have c9_X0 : wA.cell? ⟨w4.heap.size, 0, none⟩ = some (.int .i64 (r : Int)) := X_9.out.cell 0;have c9_X1 : wA.cell? ⟨w4.heap.size, 1, none⟩ = some (.int .i64 (c : Int)) := X_9.out.cell 1;have c9_X2 : wA.cell? ⟨w4.heap.size, 2, none⟩ = some (.slice (some ⟨b1, 0, none⟩) (r * c) (r * c)) := X_9.out.cell 2;have l9_A : w.heap.size < wA.heap.size := A_9.out.lt;have c9_A0 : wA.cell? ⟨w.heap.size, 0, none⟩ = some (.int .i64 (r : Int)) := A_9.out.cell 0;have c9_A1 : wA.cell? ⟨w.heap.size, 1, none⟩ = some (.int .i64 (c : Int)) := A_9.out.cell 1;have c9_A2 : wA.cell? ⟨w.heap.size, 2, none⟩ = some (.slice ao xs.length cap) := A_9.out.cell 2;go_wp2_with fail
      clear l9_X c9_X0 c9_X1 c9_X2 l9_A c9_A0 c9_A1 c9_A2;refine (HRedBad_c r c (some ⟨b1, 0, none⟩) (r * c) (r * c) hs av_ lv kv wA hr hc HL1.out.symm HL1.out hlv).mono ?_;rintro e w10 ⟨rfl, hb_⟩;have HX_10 := Lib.hid (LsAt.below (w := wA) HX_9.out (hb_));have HV_10 := Lib.hid (LsAt.below (w := wA) HV_9.out (hb_));have HU_10 := Lib.hid (LsAt.below (w := wA) HU_9.out (hb_));have A_10 := Lib.hid (RowAt.below (w := wA) A_9.out (hb_) A_9.out.lt);have R1_10 := Lib.hid (RowN.below (w := wA) R1_9.out (hb_));have X_10 := Lib.hid (RowAt.below (w := wA) X_9.out (hb_) X_9.out.lt);have N1_10 := Lib.hid (NsAt.below (w := wA) N1_9.out (hb_));have N2_10 := Lib.hid (NsAt.below (w := wA) N2_9.out (hb_));have b_10 := Lib.hid (b_9.out.trans (Below.mono hb_ b_9.out.size));have sz_10 := (hb_).size;clear HX_9 HV_9 HU_9 A_9 R1_9 X_9 N1_9 N2_9 b_9;clear hb_;have l10_A : w.heap.size < w10.heap.size := A_10.out.lt;have c10_A0 : w10.cell? ⟨w.heap.size, 0, none⟩ = some (.int .i64 (r : Int)) := A_10.out.cell 0;have c10_A1 : w10.cell? ⟨w.heap.size, 1, none⟩ = some (.int .i64 (c : Int)) := A_10.out.cell 1;have c10_A2 : w10.cell? ⟨w.heap.size, 2, none⟩ = some (.slice ao xs.length cap) := A_10.out.cell 2;have l10_X : w4.heap.size < w10.heap.size := X_10.out.lt;have c10_X0 : w10.cell? ⟨w4.heap.size, 0, none⟩ = some (.int .i64 (r : Int)) := X_10.out.cell 0;have c10_X1 : w10.cell? ⟨w4.heap.size, 1, none⟩ = some (.int .i64 (c : Int)) := X_10.out.cell 1;have c10_X2 : w10.cell? ⟨w4.heap.size, 2, none⟩ = some (.slice (some ⟨b1, 0, none⟩) (r * c) (r * c)) := X_10.out.cell 2;go_wp2;go_ret;exact ⟨rfl, b_10.out⟩
end Go.Proofs.YtknkkceioockjaaGreat
namespace Go.Proofs.YtknkkceioockjaaGreat
open Go.ChangeShapes Go.WideShapes Go.ChangeAt Go.RowKit Go.Deep
namespace lawRest
theorem own : ownKnob Tryz.prog.godebug = none := by kernel_rfl
theorem lt_of {w : World} {ao : Option Addr} {xs : List Int} {B : Nat} (h : LsAt w B ao xs) : ∀ x ∈ xs, x.natAbs < W ^ B := fun x hx => by
 obtain ⟨i, hi, rfl⟩ := List.getElem_of_mem hx;obtain ⟨b, o, _, _, hc⟩ := h (by omega);obtain ⟨q, _, _, hI⟩ := hc i hi;exact Nat.lt_of_lt_of_le (lt_pow_wlen _) (Nat.pow_le_pow_right (by decide) hI.wlen)
set_option maxRecDepth 100000 in
theorem contract (H : Type) (enc : TypeId × Value -> H) (Wd : World) (base : Nat) (args : Array Value) (ds gs : List (DataW H)) (before : List MemPlace)
 (hval : ∀ (j : Nat) t v, Tryz.f6.params[j]? = some t -> args[j]? = some v -> Value.okWide Tryz.prog Wd .any base t v)
 (hW : DataW.Whole enc Tryz.prog Tryz.f6.params.toList Rows.hnfRestSpec.vars false Wd args.toList ds gs before) (hk : Rows.uptoSmall H (ds ++ gs) = true) :
 Calls Tryz.prog 6 args Wd fun e W' => ∃ v, e = .returned v /\ Rows.hnfRestSpec.post enc Tryz.prog Tryz.f6 false true false false Wd args v W' := by
 have hW' := hW;obtain ⟨p, q, hA0, hV, rfl, hfz, hnd⟩ := hW;have hA : DataW.TrodAll enc Tryz.prog Wd 0 (fun _ => true) true Tryz.f6.params.toList args.toList ds p := hA0;rw [Tryz.params6] at hA hval;obtain ⟨v0, vs0, d0, ds0, p0, q0, hargs, rfl, rfl, h0, r0⟩ := trodAll_cons hA;obtain ⟨v1, vs1, d1, ds1, p1, q1, rfl, rfl, rfl, h1, r1⟩ := trodAll_cons r0;obtain ⟨v2, vs2, d2, ds2, p2, q2, rfl, rfl, rfl, h2, r2⟩ := trodAll_cons r1;obtain ⟨rfl, rfl, rfl⟩ := trodAll_nil r2;obtain rfl : args = #[v0, v1, v2] := by cases args; simp_all
 obtain ⟨rfl, rfl⟩ := trodVars_none hV;have hbk := bulk_bound hk;simp only [List.append_nil, Rows.uptoBulkAll] at hbk;obtain ⟨m, n, ao, len, cap, xs, rfl, hlen, hcap, hL, hb⟩ := open_mat (hval 0 _ v0 rfl rfl) h0;obtain ⟨a1, l1, k1, rfl⟩ := okWide_slice Tryz.underlying22 (hval 1 _ v1 rfl rfl);obtain ⟨a2, l2, k2, rfl⟩ := okWide_slice Tryz.underlying22 (hval 2 _ v2 rfl rfl);obtain ⟨f1, h1⟩ := h1;obtain ⟨f2, h2⟩ := h2;obtain ⟨b1, c1, e1, vs, hcs1, hl1, hc1, hL1, hn1⟩ := open_nums h1;obtain ⟨b2, c2, e2, us, hcs2, hl2, hc2, hL2, hn2⟩ := open_nums h2;simp [Value.cells] at hcs1 hcs2;obtain ⟨rfl, rfl, rfl⟩ := hcs1;obtain ⟨rfl, rfl, rfl⟩ := hcs2;have hL1 : LsAt Wd (Rows.uptoBulk d1) a1 vs := hL1;have hL2 : LsAt Wd (Rows.uptoBulk d2) a2 us := hL2;have walk : Calls Tryz.prog 6 #[.agg #[.int .i64 m, .int .i64 n, .slice ao len cap], .slice a1 l1 k1, .slice a2 l2 k2] Wd fun e w' => e = .returned (.bool true) /\ Below Wd.heap.size Wd w' := by
  cases hs : soundM m n len with
  | false => exact Rest_u m n ao len cap a1 l1 k1 a2 l2 k2 Wd hs
  | true =>
   obtain ⟨r, c, rfl, rfl, hr, hc, hrc⟩ := soundM_nat hs;exact Rest_c r c (Rows.uptoBulk d0) (Rows.uptoBulk d1) (Rows.uptoBulk d2) ao len cap xs a1 l1 k1 vs a2 l2 k2 us Wd hr hc hL (lt_of hL) hlen (hlen.symm.trans hrc) hL1 hl1 (lt_of hL1) hL2 hl2 (lt_of hL2) (by omega) (by omega) (by omega)
 refine walk.mono fun e W' ⟨he, hg⟩ => ?_;subst he;exact ⟨_, rfl, law_post (by kernel_rfl) rfl (by kernel_rfl) hW' rfl rfl rfl hg⟩
set_option maxRecDepth 100000 in
theorem lifted (os : Os) (started : os.Started) (H : Type) (enc : TypeId × Value -> H) (F : Stop.Interp) :
 ReturnsInHanded {} Tryz.checked os 6 .any ((Rows.OpenSpec.upto Rows.hnfRestSpec).pre6 enc Tryz.prog Tryz.f6 Rows.hnfRestUptoRow.domain false) (((Rows.OpenSpec.upto Rows.hnfRestSpec).at F).post enc Tryz.prog Tryz.f6 false true false false) := by
 refine returnsInHanded_of_cond (C := Tryz.checked) (s := Rows.OpenSpec.upto Rows.hnfRestSpec) (k := Rows.uptoSmall) rfl own started (by kernel_rfl) Tryz.func6
  (OpenSpec.witness (enc := enc) (C := Tryz.checked) (s := Rows.OpenSpec.upto Rows.hnfRestSpec) (k := Rows.uptoSmall) rfl false ⟨#[], #[.agg #[.int .i64 0, .int .i64 0, .slice none 0 0], .slice none 0 0, .slice none 0 0], []⟩ 8 (by kernel_rfl) (by kernel_rfl) (by kernel_rfl)
   (x := ([.agg [.lit (.int .i64 0), .lit (.int .i64 0), .nil], .nil, .nil], [], [])) (by kernel_rfl) rfl (by kernel_rfl)) ?_
 intro W base args ds gs before hval hW _ hk _;exact contract H enc W base args ds gs before hval hW hk
theorem over : Rows.hnfRestUptoRow.holds Tryz.pinned (Rows.OpenSpec.upto Rows.hnfRestSpec) :=
 OpenClaim.holds_of_cond 6 Tryz.f6 rfl rfl rfl rfl rfl rfl rfl ⟨rfl, rfl, rfl, rfl, rfl⟩ rfl rfl rfl rfl rfl (by kernel_rfl) Tryz.func6 (by kernel_rfl)
  (of_decide_eq_true (by kernel_rfl)) (by unfold Func.isWrapper; first | (rw [if_pos (by decide +kernel)]; kernel_rfl) | (rw [if_neg (by decide +kernel)]; exact ⟨rfl, rfl⟩))
  (fun os started H enc _ F => lifted os started H enc F)
theorem proved : Rows.HnfRestUptoSaid := over
end lawRest
end Go.Proofs.YtknkkceioockjaaGreat
