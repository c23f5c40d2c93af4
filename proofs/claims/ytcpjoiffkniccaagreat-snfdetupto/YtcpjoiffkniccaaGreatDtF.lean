/- Part 6 of 8 of the proof that the law SnfDet returns true for every input of bulk at most 1048576 and leaves its arguments as they were: here the contracts of the functions that it calls, and plain lemmas. -/
import Derived.Test.YtcpjoiffkniccaaGreatDtE
set_option linter.all false
namespace Go.Proofs.YtcpjoiffkniccaaGreat
open Go.RowKit
def lead : List Int -> Nat
 | [] => 0
 | x :: xs => if x = 0 then lead xs + 1 else 0
theorem lead_le : ∀ xs : List Int, lead xs <= xs.length
 | [] => Nat.le_refl _
 | x :: xs => by
  unfold lead; split
  · have := lead_le xs; simp; omega
  · simp
theorem lead_of : ∀ (xs : List Int) (k : Nat) (h : k < xs.length), (∀ i (h' : i < k), xs[i]'(by omega) = 0) -> xs[k] ≠ 0 -> lead xs = k
 | x :: xs, 0, _, _, hn => by unfold lead; rw [if_neg]; simpa using hn
 | x :: xs, k + 1, h, hz, hn => by
  have h0 : x = 0 := hz 0 (by omega);unfold lead; rw [if_pos h0, lead_of xs k (by simpa using h) (fun i hi => by have := hz (i + 1) (by omega); simpa using this) (by simpa using hn)]
theorem lead_all : ∀ (xs : List Int), (∀ i (h : i < xs.length), xs[i] = 0) -> lead xs = xs.length
 | [], _ => rfl
 | x :: xs, hz => by
  have h0 : x = 0 := hz 0 (by simp);unfold lead; rw [if_pos h0, lead_all xs (fun i hi => by have := hz (i + 1) (by simpa using hi); simpa using this)]; rfl
set_option maxRecDepth 100000 in
set_option maxHeartbeats 4000000 in
theorem Lead_c (b cap : Nat) (xs : List Int) (w : World) (hR : RowN w b xs) (hL : ∀ x ∈ xs, wlen x.natAbs <= 17592186044415) (hlen : xs.length <= 9223372036854775807) :
 Calls Tryz.prog 93 #[.slice (some ⟨b, 0, none⟩) xs.length cap] w fun e w' => e = .returned (.int .i64 (lead xs : Nat)) /\ Below w.heap.size w w' := by
 have HL := Lib.hid hL; clear hL;have HR := Lib.hid hR; clear hR;go_enter Tryz.func93, Tryz.ntmps93;go_wp2;go_loopw [7] (fun i wr => ∃ k : Nat, k <= xs.length /\ i = .int .i64 (k : Int) /\ Hid (∀ j (h : j < k) (h' : j < xs.length), xs[j] = 0) /\ Below w.heap.size w wr) (fun i _ => xs.length - (intOf i).toNat)
 case atStart => exact ⟨0, Nat.zero_le _, rfl, fun j h => by omega, Below.refl _ _⟩
 case round =>
  obtain ⟨k, hk, rfl, hz, hb⟩ := hrel;by_cases hkl : k < xs.length
  · have hR2 := HR.out.below hb;obtain ⟨p, hc0, hc1, hn⟩ := hR2.get hkl;have hkl' : (k : Int) < (xs.length : Int) := by omega
    have HN := Lib.hid hn;clear hn;go_wp2_with fail
    have hb1 : Below wr.heap.size wr (wr.alloc (.cells #[.bool p.fst, .slice p.snd.fst p.snd.snd.fst p.snd.snd.snd] 33)) := (Below.refl _ _).alloc (Nat.le_refl _) _;refine (ISign_c (av p) xs[k] _ ((HN.out.int (HL.out _ (List.getElem_mem hkl))).below hb1)).mono ?_;rintro e w2 ⟨rfl, hb2⟩;have hb3 : Below w.heap.size w w2 := hb.trans ((hb1.trans (hb2.mono hb1.size)).mono hb.size);have HB3 := Lib.hid hb3;clear hb1 hb2 hb3 hc0 hc1;by_cases h0 : xs[k] = 0
    · have hz0 : zsign xs[k] = 0 := zsign_beq.2 h0;rw [hz0];have H0 := Lib.hid h0;clear h0 hz0;go_wp2;go_roundw
      case rel => exact ⟨k + 1, by omega, by go_num, Lib.hid (fun j hj hj' => (Nat.lt_succ_iff_lt_or_eq.1 hj).elim (fun h => hz.out j h hj') (fun h => by subst h; exact H0.out)), HB3.out⟩
      case measure => simp [intOf]; omega
    · have hn0 : ¬ zsign xs[k] = 0 := fun h => h0 (zsign_beq.1 h);have hle := lead_of xs k hkl (fun i h' => hz.out i h' (by omega)) h0;have HLE := Lib.hid hle;obtain ⟨s, hs⟩ : ∃ s, zsign xs[k] = s := ⟨_, rfl⟩;rw [hs] at hn0 ⊢;have hb0 : (s != 0) = true := by simpa using hn0
      clear h0 hle hs;go_wp2;go_ret;rw [HLE.out];exact ⟨rfl, HB3.out⟩
  · obtain rfl : k = xs.length := by omega
    have hle := lead_all xs (fun i h => hz.out i h h);have HLE := Lib.hid hle;clear hle;go_wp2;go_ret;rw [HLE.out];exact ⟨rfl, hb⟩
def addRow (k : Int) (xs ys : List Int) : List Int := List.zipWith (fun x y => k * y + x) xs ys
def AddTo (k : Int) (xs ys cu : List Int) (m : Nat) : Prop := cu.length = xs.length /\ (∀ j (h : j < cu.length) (h1 : j < xs.length) (h2 : j < ys.length), j < m -> cu[j] = k * ys[j] + xs[j]) /\ (∀ j (h : j < cu.length) (h1 : j < xs.length), m <= j -> cu[j] = xs[j])
theorem AddTo.start (k : Int) (xs ys : List Int) : AddTo k xs ys xs 0 := ⟨rfl, fun _ _ _ _ h => by omega, fun _ _ _ _ => rfl⟩
theorem AddTo.next {k : Int} {xs ys cu : List Int} {m : Nat} (h : AddTo k xs ys cu m) (hm : m < xs.length) (hl : xs.length = ys.length) : AddTo k xs ys (cu.set m (k * ys[m] + xs[m])) (m + 1) := by
 obtain ⟨h1, h2, h3⟩ := h;refine ⟨by simpa using h1, fun j hj hx hy hjm => ?_, fun j hj hx hjm => ?_⟩
 · rw [List.getElem_set];split
   · rename_i e; subst e; rfl
   · exact h2 j (by simpa using hj) hx hy (by omega)
 · rw [List.getElem_set, if_neg (by omega)];exact h3 j (by simpa using hj) hx (by omega)
theorem AddTo.skip {k : Int} {xs ys cu : List Int} {m : Nat} (h : AddTo k xs ys cu m) (hm : m < xs.length) (hl : xs.length = ys.length) (h0 : ys[m] = 0) : AddTo k xs ys cu (m + 1) := by
 obtain ⟨h1, h2, h3⟩ := h;refine ⟨h1, fun j hj hx hy hjm => ?_, fun j hj hx hjm => h3 j hj hx (by omega)⟩;by_cases e : j = m
 · subst e; rw [h3 j hj hx (Nat.le_refl _), h0]; simp
 · exact h2 j hj hx hy (by omega)
theorem AddTo.all {k : Int} {xs ys cu : List Int} (h : AddTo k xs ys cu xs.length) (hl : xs.length = ys.length) : cu = addRow k xs ys := by
 obtain ⟨h1, h2, h3⟩ := h;refine List.ext_getElem (by simp [addRow, h1, <- hl]) fun j hj hj' => ?_;rw [h2 j hj (by omega) (by omega) (by omega)];simp [addRow]
set_option maxRecDepth 100000 in
set_option maxHeartbeats 4000000 in
theorem LAdd_c (bx by_ cx cy LA LB : Nat) (xs ys : List Int) (kv : Value) (k : Int) (w : World) (hX : RowN w bx xs) (hY : RowN w by_ ys) (hK : IntAt w LA kv k) (hne : bx ≠ by_) (hl : xs.length = ys.length)
 (hxL : ∀ x ∈ xs, wlen x.natAbs <= 17592186044415) (hyL : ∀ y ∈ ys, wlen y.natAbs <= LB) (hLab : LA + LB <= 17592186044415) (hlen : xs.length <= 4611686018427387903) :
 Calls Tryz.prog 90 #[.slice (some ⟨bx, 0, none⟩) xs.length cx, .slice (some ⟨by_, 0, none⟩) ys.length cy, kv] w fun e w' => e = .returned (.tuple #[]) /\ RowN w' bx (addRow k xs ys) /\ Chg (· = bx) w w' := by
 obtain ⟨kp, rfl⟩ := hK.parts;have HX := Lib.hid hX; clear hX;have HY := Lib.hid hY; clear hY;have HK := Lib.hid hK; clear hK;have HXL := Lib.hid hxL; clear hxL;have HYL := Lib.hid hyL; clear hyL;have Hl := Lib.hid hl; clear hl;go_enter Tryz.func90, Tryz.ntmps90;unfold av at *;go_wp2;have hb1 : Below w.heap.size w (w.alloc (.cells #[.bool kp.1, .slice kp.2.1 kp.2.2.1 kp.2.2.2] 33)) := (Below.refl _ _).alloc (Nat.le_refl _) _;have hr1 := RowAt.new w #[.bool kp.1, .slice kp.2.1 kp.2.2.1 kp.2.2.2] 33;generalize w.alloc (.cells #[.bool kp.1, .slice kp.2.1 kp.2.2.1 kp.2.2.2] 33) = w1 at *;have HB1 := Lib.hid (Chg.of_below (S := (· = bx)) hb1);have HX1 := Lib.hid (HX.out.below hb1);have HY1 := Lib.hid (HY.out.below hb1);have HK1 := Lib.hid (HK.out.below hb1);have HR1 := Lib.hid hr1;have hs1 : w.heap.size < w1.heap.size := hr1.lt;have hbx := HX.out.lt;have hby := HY.out.lt;clear hr1 hb1;go_loopw [9] (fun i wr => ∃ (m : Nat) (cu : List Int), m <= xs.length /\ i = .int .i64 (m : Int) /\ Hid (AddTo k xs ys cu m) /\ Hid (RowN wr bx cu) /\ Hid (RowN wr by_ ys) /\ Hid (RowAt wr w.heap.size 33 [.bool kp.1, .slice kp.2.1 kp.2.2.1 kp.2.2.2]) /\ Hid (IntAt wr LA (av kp) k) /\ Hid (Chg (· = bx) w wr)) (fun i _ => xs.length - (intOf i).toNat)
 case atStart => exact ⟨0, xs, Nat.zero_le _, rfl, AddTo.start .., HX1, HY1, HR1, HK1, HB1⟩
 case round =>
  obtain ⟨m, cu, hm, rfl, HA, hX, hY, hR, hK, hC⟩ := hrel;by_cases hml : m < xs.length
  · have hmy : m < ys.length := by have := Hl.out; omega
    have hmx : m < cu.length := by rw [HA.out.1]; exact hml
    have hm1 : (m : Int) < (ys.length : Int) := by omega
    have hm2 : (m : Int) < (xs.length : Int) := by omega
    obtain ⟨py, cy0, cy1, hny⟩ := hY.out.get hmy;have Hny := Lib.hid hny; clear hny;go_wp2_with fail
    refine (ISign_c (av py) ys[m] _ (Hny.out.int (by have := HYL.out _ (List.getElem_mem hmy); omega))).mono ?_;rintro e w2 ⟨rfl, hb2⟩;clear cy0 cy1;have X2 := Lib.hid (hX.out.below hb2);have Y2 := Lib.hid (hY.out.below hb2);have R2 := Lib.hid (hR.out.below hb2 hR.out.lt);have K2 := Lib.hid (hK.out.below hb2);have C2 := Lib.hid (hC.out.below hb2);have N2 := Lib.hid (Hny.out.below hb2);have hsw := hC.out.size;have hsw2 := hb2.size;have hswr := hR.out.lt;clear hX hY hR hK hC Hny hb2;by_cases h0 : ys[m] = 0
    · have hz0 : zsign ys[m] = 0 := zsign_beq.2 h0;rw [hz0];have H0 := Lib.hid h0;clear h0 hz0;go_wp2;go_roundw
      case rel => exact ⟨m + 1, cu, by omega, by go_num, HA.out.skip hml Hl.out H0.out, X2, Y2, R2, K2, C2⟩
      case measure => simp [intOf]; omega
    · have hn0 : ¬ zsign ys[m] = 0 := fun h => h0 (zsign_beq.1 h);obtain ⟨s, hs⟩ : ∃ s, zsign ys[m] = s := ⟨_, rfl⟩;rw [hs] at hn0 ⊢;have hb0 : (s != 0) = true := by simpa using hn0
      clear h0 hs;go_wp2;clear hb0 hn0;obtain ⟨px, cx0, cx1, hnx⟩ := X2.out.get hmx;obtain ⟨py, cy0, cy1, hny⟩ := Y2.out.get hmy;have ck0 : w2.cell? ⟨w.heap.size, 0, none⟩ = some (.bool kp.1) := R2.out.cell 0;have ck1 : w2.cell? ⟨w.heap.size, 1, none⟩ = some (.slice kp.2.1 kp.2.2.1 kp.2.2.2) := R2.out.cell 1;have hbx2 := X2.out.lt;have hby2 := Y2.out.lt;have hsk2 := R2.out.lt;have hxe : cu[m] = xs[m] := HA.out.2.2 m hmx hml (Nat.le_refl _);have hxw : wlen (cu[m]).natAbs <= 17592186044415 := by rw [hxe]; exact HXL.out _ (List.getElem_mem hml)
      have hyw : wlen (ys[m]).natAbs <= LB := HYL.out _ (List.getElem_mem hmy);have HXE := Lib.hid hxe; clear hxe;have Hnx := Lib.hid (hnx.int hxw); clear hnx;have Hny := Lib.hid (hny.int hyw); clear hny;clear N2;refine wp_region_K ⟨13, fun q_ => [18, 19, 20, 21, 22, 23, 24, 25, 26, 27, 28, 29, 30].getD q_ 0,
       fun q_ => [.val (.slice (some ⟨bx, 0, none⟩) xs.length cx), .val (.int .i64 (m : Int)), .val (.agg #[.bool kp.1, .slice kp.2.1 kp.2.2.1 kp.2.2.2]), .val (.slice (some ⟨by_, 0, none⟩) ys.length cy), .val (.int .i64 (m : Int)), .val (.pointer (some ⟨by_, m * 2, none⟩)), .val (.agg #[.bool py.1, .slice py.2.1 py.2.2.1 py.2.2.2]), .val (.slice (some ⟨bx, 0, none⟩) xs.length cx), .val (.int .i64 (m : Int)), .val (.pointer (some ⟨bx, m * 2, none⟩)), .val (.agg #[.bool px.1, .slice px.2.1 px.2.2.1 px.2.2.2]), .int 0 (k * ys[m] + cu[m]), .val (.pointer (some ⟨bx, m * 2, none⟩))].getD q_ .any,
       [],
       [(.agg #[.bool kp.1, .slice kp.2.1 kp.2.2.1 kp.2.2.2], .at_ LA k), (.agg #[.bool py.1, .slice py.2.1 py.2.2.1 py.2.2.2], .at_ LB ys[m]), (.agg #[.bool px.1, .slice px.2.1 px.2.2.1 px.2.2.2], .at_ 17592186044415 cu[m])],
       [],
       [], [(⟨w.heap.size, 0, none⟩, .bool kp.1), (⟨w.heap.size, 1, none⟩, .slice kp.2.1 kp.2.2.1 kp.2.2.2), (⟨by_, m * 2, none⟩, .bool py.1), (⟨by_, m * 2 + 1, none⟩, .slice py.2.1 py.2.2.1 py.2.2.2), (⟨bx, m * 2, none⟩, .bool px.1), (⟨bx, m * 2 + 1, none⟩, .slice px.2.1 px.2.2.1 px.2.2.2)], []⟩ [18, 19, 20, 21, 22, 23, 24, 25, 26, 27, 28, 29, 30] (w2.heap.size) (by kernel_rfl) (by kernel_rfl) (by kernel_rfl) (by kernel_rfl) (by kernel_rfl) ?_ ?_ ?_ ?_ ?_ ?_
      · exact allq (K2.out) (allq (Hny.out) (allq (Hnx.out) allz))
      · exact allz
      · exact allq (⟨ck0, by dsimp only; omega, allz⟩) (allq (⟨ck1, by dsimp only; omega, allz⟩) (allq (⟨cy0, by dsimp only; omega, allz⟩) (allq (⟨cy1, by dsimp only; omega, allz⟩) (allq (⟨cx0, by dsimp only; omega, allz⟩) (allq (⟨cx1, by dsimp only; omega, allz⟩) allz)))))
      · exact allz
      · refine allc ?_ (allc ?_ (allc ?_ (allc ?_ (allc ?_ (allc ?_ (allc ?_ (allc ?_ (allc ?_ (allc ?_ (allc ?_ (allc ?_ (allc ?_ alln))))))))))));any_goals (first | (intro L fx w' hJ hL hp hcl; have _ := hp0 hp (by decide +kernel); refine wps rfl fun K hK => ?_; go_simp; exact hJ.q hK (by kernel_rfl) rfl) | fail)
        · intro L fx w' hJ hL hp hcl;refine wps rfl fun K hK => ?_;have cl0 := (hJ.cells _ mm0).1;have cl1 := (hJ.cells _ mm1).1;try dsimp only at cl0 cl1
          go_simp;exact hJ.q hK (by kernel_rfl) rfl
        · intro L fx w' hJ hL hp hcl;have e3 := hJ.pt 3 21 (.slice (some ⟨by_, 0, none⟩) ys.length cy) rfl rfl rfl (hp 3 (by decide));rw [e3] at hJ ⊢; clear e3;have e4 := hJ.pt 4 22 (.int .i64 (m : Int)) rfl rfl rfl (hp 4 (by decide));rw [e4] at hJ ⊢; clear e4;refine wps rfl fun K hK => ?_;go_simp;exact hJ.q hK (by kernel_rfl) rfl
        · intro L fx w' hJ hL hp hcl;have e5 := hJ.pt 5 23 (.pointer (some ⟨by_, m * 2, none⟩)) rfl rfl rfl (hp 5 (by decide));rw [e5] at hJ ⊢; clear e5;refine wps rfl fun K hK => ?_;have cl0 := (hJ.cells _ mm2).1;have cl1 := (hJ.cells _ mm3).1;try dsimp only at cl0 cl1
          go_simp;exact hJ.q hK (by kernel_rfl) rfl
        · intro L fx w' hJ hL hp hcl;have e7 := hJ.pt 7 25 (.slice (some ⟨bx, 0, none⟩) xs.length cx) rfl rfl rfl (hp 7 (by decide));rw [e7] at hJ ⊢; clear e7;have e8 := hJ.pt 8 26 (.int .i64 (m : Int)) rfl rfl rfl (hp 8 (by decide));rw [e8] at hJ ⊢; clear e8;refine wps rfl fun K hK => ?_;go_simp;exact hJ.q hK (by kernel_rfl) rfl
        · intro L fx w' hJ hL hp hcl;have e9 := hJ.pt 9 27 (.pointer (some ⟨bx, m * 2, none⟩)) rfl rfl rfl (hp 9 (by decide));rw [e9] at hJ ⊢; clear e9;refine wps rfl fun K hK => ?_;have cl0 := (hJ.cells _ mm4).1;have cl1 := (hJ.cells _ mm5).1;try dsimp only at cl0 cl1
          go_simp;exact hJ.q hK (by kernel_rfl) rfl
        · intro L fx w' hJ hL hp hcl;have e2 := hJ.pt 2 20 (.agg #[.bool kp.1, .slice kp.2.1 kp.2.2.1 kp.2.2.2]) rfl rfl rfl (hp 2 (by decide));rw [e2] at hJ ⊢; clear e2;have e6 := hJ.pt 6 24 (.agg #[.bool py.1, .slice py.2.1 py.2.2.1 py.2.2.2]) rfl rfl rfl (hp 6 (by decide));rw [e6] at hJ ⊢; clear e6;have e10 := hJ.pt 10 28 (.agg #[.bool px.1, .slice px.2.1 px.2.2.1 px.2.2.2]) rfl rfl rfl (hp 10 (by decide));rw [e10] at hJ ⊢; clear e10;refine wps rfl fun K hK => ?_;go_simp;go_at_call 97;refine (IMulAdd_c _ _ _ k ys[m] cu[m] LA LB _ (show IntAt w' (LA) (.agg #[.bool kp.1, .slice kp.2.1 kp.2.2.1 kp.2.2.2]) (k) from hJ.base _ mm0) (show IntAt w' (LB) (.agg #[.bool py.1, .slice py.2.1 py.2.2.1 py.2.2.2]) (ys[m]) from hJ.base _ mm1) (show IntAt w' (17592186044415) (.agg #[.bool px.1, .slice px.2.1 px.2.2.1 px.2.2.2]) (cu[m]) from hJ.base _ mm2) hLab).mono ?_;rintro e w4 ⟨⟨v5, rfl, h5⟩, hb4⟩;try dsimp only
          exact hK _ _ ⟨_, by kernel_rfl, hJ.gC 11 rfl (by kernel_rfl) hb4 (OwnI.mono h5 (Nat.zero_le _)) (by omega)⟩
        · intro L fx w' hJ hL hp hcl;have e0 := hJ.pt 0 18 (.slice (some ⟨bx, 0, none⟩) xs.length cx) rfl rfl rfl (hp 0 (by decide));rw [e0] at hJ ⊢; clear e0;have e1 := hJ.pt 1 19 (.int .i64 (m : Int)) rfl rfl rfl (hp 1 (by decide));rw [e1] at hJ ⊢; clear e1;refine wps rfl fun K hK => ?_;go_simp;exact hJ.q hK (by kernel_rfl) rfl
      · intro L x' w3 hL hJ;have hfr : Below w2.drew.heap.size w2.drew w3 := hJ.fr;have e11 : OwnI w3 0 (x' 29) (k * ys[m] + cu[m]) := hJ.slot 11 (by show 11 < 13; decide) (hL 11 (by show 11 < 13; decide));have e12 : x' 30 = .pointer (some ⟨bx, m * 2, none⟩) := hJ.slot 12 (by show 12 < 13; decide) (hL 12 (by show 12 < 13; decide));obtain ⟨pz, hpz⟩ := NumAt.parts e11.num;rw [hpz] at e11;unfold av at hpz;rw [patchX (x := x') (d := 29) hpz];rw [patchX (x := updX x' 29 (.agg #[.bool pz.1, .slice pz.2.1 pz.2.2.1 pz.2.2.2])) (d := 30) (v := .pointer (some ⟨bx, m * 2, none⟩)) e12];clear hJ hL;have X3 := Lib.hid (RowN.below (w := w2.drew) X2.out hfr);have Y3 := Lib.hid (RowN.below (w := w2.drew) Y2.out hfr);have R3 := Lib.hid (RowAt.below (w := w2.drew) R2.out hfr R2.out.lt);have K3 := Lib.hid (IntAt.below (w := w2.drew) K2.out hfr);have C3 := Lib.hid (C2.out.drew.below hfr);obtain ⟨pq, q0, q1, _⟩ := X3.out.get hmx;have q2 := X3.out.free (m * 2);have q3 := X3.out.free (m * 2 + 1);refine wps rfl fun K hK => ?_;go_simp;refine hK _ _ ⟨⟨updX (updX x' 29 (.agg #[.bool pz.1, .slice pz.2.1 pz.2.2.1 pz.2.2.2])) 30 (.pointer (some ⟨bx, m * 2, none⟩)), by kernel_rfl⟩, ?_⟩;clear hK q0 q1 q2 q3;go_wp2;go_roundw
        case rel =>
         refine ⟨m + 1, _, by omega, by go_num, ?_, Lib.hid (X3.out.set m e11.num), Lib.hid (X3.out.keepRow Y3.out (fun e => hne e.symm) m pz), Lib.hid ((R3.out.other (by show w.heap.size ≠ bx; omega) _).other (by show w.heap.size ≠ bx; omega) _), Lib.hid (X3.out.keepInt K3.out m pz), Lib.hid ((C3.out.set rfl _).set rfl _)⟩;rw [HXE.out];exact HA.out.next hml Hl.out
        case measure => simp [intOf]; omega
  · obtain rfl : m = xs.length := by omega
    have he := HA.out.all Hl.out;have HE := Lib.hid he;clear he;go_wp2;refine bodyPost_end (results_none (by kernel_rfl) _ _ _) rfl ?_;rw [<- HE.out];exact ⟨rfl, hX.out, hC.out⟩
def CV.cells (cs : List Value) : CV := CV.free (fun _ v => v = cs) (fun h _ => h) (fun h _ _ _ _ _ _ => h)
def mixRow (a b : Int) (xs ys : List Int) : List Int := List.zipWith (fun u v => a * u + b * v) xs ys
def MixTo (a b : Int) (xs ys zs cu : List Int) (m : Nat) : Prop := cu.length = zs.length /\ (∀ j (h : j < cu.length) (h1 : j < xs.length) (h2 : j < ys.length), j < m -> cu[j] = a * xs[j] + b * ys[j]) /\ (∀ j (h : j < cu.length) (h1 : j < zs.length), m <= j -> cu[j] = zs[j])
theorem MixTo.start (a b : Int) (xs ys zs : List Int) : MixTo a b xs ys zs zs 0 := ⟨rfl, fun _ _ _ _ h => by omega, fun _ _ _ _ => rfl⟩
theorem MixTo.next {a b : Int} {xs ys zs cu : List Int} {m : Nat} (h : MixTo a b xs ys zs cu m) (hx : m < xs.length) (hy : m < ys.length) : MixTo a b xs ys zs (cu.set m (a * xs[m] + b * ys[m])) (m + 1) := by
 obtain ⟨h1, h2, h3⟩ := h;refine ⟨by simpa using h1, fun j hj hx hy hjm => ?_, fun j hj hx hjm => ?_⟩
 · rw [List.getElem_set];split
   · rename_i e; subst e; rfl
   · exact h2 j (by simpa using hj) hx hy (by omega)
 · rw [List.getElem_set, if_neg (by omega)];exact h3 j (by simpa using hj) hx (by omega)
theorem MixTo.all {a b : Int} {xs ys zs cu : List Int} (h : MixTo a b xs ys zs cu xs.length) (hl : xs.length = ys.length) (hz : xs.length = zs.length) : cu = mixRow a b xs ys := by
 obtain ⟨h1, h2, h3⟩ := h;refine List.ext_getElem (by simp [mixRow, h1, <- hl, hz]) fun j hj hj' => ?_;rw [h2 j hj (by omega) (by omega) (by omega)];simp [mixRow]
set_option maxRecDepth 100000 in
set_option maxHeartbeats 4000000 in
theorem LMix_c (bx by_ cx cy LA LB : Nat) (xs ys : List Int) (p q r s : P4) (a b c d : Int) (w : World) (hX : RowN w bx xs) (hY : RowN w by_ ys) (hA : IntAt w LA (av p) a) (hB : IntAt w LA (av q) b) (hC : IntAt w LA (av r) c) (hD : IntAt w LA (av s) d) (hne : bx ≠ by_) (hl : xs.length = ys.length)
 (hxL : ∀ x ∈ xs, wlen x.natAbs <= LB) (hyL : ∀ y ∈ ys, wlen y.natAbs <= LB) (hLab : LA + LB <= 17592186044415) (hlen : xs.length <= 4611686018427387903) :
 Calls Tryz.prog 92 #[.slice (some ⟨bx, 0, none⟩) xs.length cx, .slice (some ⟨by_, 0, none⟩) ys.length cy, .agg #[.bool p.1, .slice p.2.1 p.2.2.1 p.2.2.2, .bool q.1, .slice q.2.1 q.2.2.1 q.2.2.2, .bool r.1, .slice r.2.1 r.2.2.1 r.2.2.2, .bool s.1, .slice s.2.1 s.2.2.1 s.2.2.2]] w
  fun e w' => e = .returned (.tuple #[]) /\ RowN w' bx (mixRow a b xs ys) /\ RowN w' by_ (mixRow c d xs ys) /\ Chg (fun k => k = bx ∨ k = by_) w w' := by
 have HX := Lib.hid hX; clear hX;have HY := Lib.hid hY; clear hY;have HA := Lib.hid hA; clear hA;have HB := Lib.hid hB; clear hB;have HC := Lib.hid hC; clear hC;have HD := Lib.hid hD; clear hD;have HXL := Lib.hid hxL; clear hxL;have HYL := Lib.hid hyL; clear hyL;have Hl := Lib.hid hl; clear hl;go_enter Tryz.func92, Tryz.ntmps92;unfold av at *;go_wp2;have hb1 : Below w.heap.size w (w.alloc (.cells #[.bool p.1, .slice p.2.1 p.2.2.1 p.2.2.2, .bool q.1, .slice q.2.1 q.2.2.1 q.2.2.2, .bool r.1, .slice r.2.1 r.2.2.1 r.2.2.2, .bool s.1, .slice s.2.1 s.2.2.1 s.2.2.2] 116)) := (Below.refl _ _).alloc (Nat.le_refl _) _;have hr1 := RowAt.new w #[.bool p.1, .slice p.2.1 p.2.2.1 p.2.2.2, .bool q.1, .slice q.2.1 q.2.2.1 q.2.2.2, .bool r.1, .slice r.2.1 r.2.2.1 r.2.2.2, .bool s.1, .slice s.2.1 s.2.2.1 s.2.2.2] 116;generalize w.alloc (.cells #[.bool p.1, .slice p.2.1 p.2.2.1 p.2.2.2, .bool q.1, .slice q.2.1 q.2.2.1 q.2.2.2, .bool r.1, .slice r.2.1 r.2.2.1 r.2.2.2, .bool s.1, .slice s.2.1 s.2.2.1 s.2.2.2] 116) = w1 at *;have HB1 := Lib.hid (Chg.of_below (S := (fun k => k = bx ∨ k = by_)) hb1);have HX1 := Lib.hid (HX.out.below hb1);have HY1 := Lib.hid (HY.out.below hb1);have HI1 : Hid (IntAt w1 LA (av p) a /\ IntAt w1 LA (av q) b /\ IntAt w1 LA (av r) c /\ IntAt w1 LA (av s) d) := Lib.hid ⟨HA.out.below hb1, HB.out.below hb1, HC.out.below hb1, HD.out.below hb1⟩;have HR1 := Lib.hid hr1;have hs1 : w.heap.size < w1.heap.size := hr1.lt;have hbx := HX.out.lt;have hby := HY.out.lt;clear hr1 hb1;go_loopw [11] (fun i wr => ∃ (m : Nat) (cu cv : List Int), m <= xs.length /\ i = .int .i64 (m : Int) /\ Hid (MixTo a b xs ys xs cu m) /\ Hid (MixTo c d xs ys ys cv m) /\ Hid (RowN wr bx cu) /\ Hid (RowN wr by_ cv) /\ Hid (RowAt wr w.heap.size 116 [.bool p.1, .slice p.2.1 p.2.2.1 p.2.2.2, .bool q.1, .slice q.2.1 q.2.2.1 q.2.2.2, .bool r.1, .slice r.2.1 r.2.2.1 r.2.2.2, .bool s.1, .slice s.2.1 s.2.2.1 s.2.2.2]) /\ Hid (IntAt wr LA (av p) a /\ IntAt wr LA (av q) b /\ IntAt wr LA (av r) c /\ IntAt wr LA (av s) d) /\ Hid (Chg (fun k => k = bx ∨ k = by_) w wr)) (fun i _ => xs.length - (intOf i).toNat)
 case atStart => exact ⟨0, xs, ys, Nat.zero_le _, rfl, MixTo.start .., MixTo.start .., HX1, HY1, HR1, HI1, HB1⟩
 case round =>
  obtain ⟨m, cu, cv, hm, rfl, HU, HV, hX, hY, hR, hI, hC⟩ := hrel;by_cases hml : m < xs.length
  · have hmy : m < ys.length := by have := Hl.out; omega
    have hmx : m < cu.length := by rw [HU.out.1]; exact hml
    have hmv : m < cv.length := by rw [HV.out.1]; exact hmy
    have hm1 : (m : Int) < (ys.length : Int) := by omega
    have hm2 : (m : Int) < (xs.length : Int) := by omega
    go_wp2;obtain ⟨pu, cu0, cu1, hnu⟩ := hX.out.get hmx;obtain ⟨pv, cv0, cv1, hnv⟩ := hY.out.get hmv;have hxe : cu[m] = xs[m] := HU.out.2.2 m hmx hml (Nat.le_refl _);have hye : cv[m] = ys[m] := HV.out.2.2 m hmv hmy (Nat.le_refl _);rw [hxe] at hnu;rw [hye] at hnv;have hxw : wlen (xs[m]).natAbs <= LB := HXL.out _ (List.getElem_mem hml);have hyw : wlen (ys[m]).natAbs <= LB := HYL.out _ (List.getElem_mem hmy);have Hnu := Lib.hid (hnu.int hxw);have Hnv := Lib.hid (hnv.int hyw);clear hxe hye hnu hnv;have hbx2 := hX.out.lt;have hby2 := hY.out.lt;have hsk2 := hR.out.lt;have hswr := hC.out.size;refine wp_region_J ⟨12, fun q_ => [14, 15, 16, 17, 18, 19, 20, 21, 7, 8, 1010, 1011].getD q_ 0,
     fun q_ => [.val (.slice (some ⟨bx, 0, none⟩) xs.length cx), .val (.int .i64 (m : Int)), .val (.pointer (some ⟨bx, m * 2, none⟩)), .val (.agg #[.bool pu.1, .slice pu.2.1 pu.2.2.1 pu.2.2.2]), .val (.slice (some ⟨by_, 0, none⟩) ys.length cy), .val (.int .i64 (m : Int)), .val (.pointer (some ⟨by_, m * 2, none⟩)), .val (.agg #[.bool pv.1, .slice pv.2.1 pv.2.2.1 pv.2.2.2]), .ptr wr.heap.size 33 2, .ptr wr.heap.size 33 2, .any, .any].getD q_ .any,
     [],
     [],
     [],
     [(10, 7, 33, .cells [.bool pu.1, .slice pu.2.1 pu.2.2.1 pu.2.2.2]), (11, 8, 33, .cells [.bool pv.1, .slice pv.2.1 pv.2.2.1 pv.2.2.2])], [(⟨bx, m * 2, none⟩, .bool pu.1), (⟨bx, m * 2 + 1, none⟩, .slice pu.2.1 pu.2.2.1 pu.2.2.2), (⟨by_, m * 2, none⟩, .bool pv.1), (⟨by_, m * 2 + 1, none⟩, .slice pv.2.1 pv.2.2.1 pv.2.2.2)], [(8, 7), (9, 8)]⟩ [14, 15, 16, 17, 18, 19, 20, 21, 7, 8] (wr.heap.size) (by kernel_rfl) (by kernel_rfl) (by kernel_rfl) (by kernel_rfl) ?_ ?_ ?_ ?_ ?_ ?_
    · exact allz
    · exact allz
    · exact allq (⟨cu0, by dsimp only; omega, allz⟩) (allq (⟨cu1, by dsimp only; omega, allz⟩) (allq (⟨cv0, by dsimp only; omega, allz⟩) (allq (⟨cv1, by dsimp only; omega, allz⟩) allz)))
    · exact allz
    · refine allc ?_ (allc ?_ (allc ?_ (allc ?_ (allc ?_ (allc ?_ (allc ?_ (allc ?_ (allc ?_ (allc ?_ (allc ?_ (allc ?_ alln)))))))))));any_goals (first | (intro L fx w' hJ hL hp hcl; have _ := hp0 hp (by decide +kernel); refine wps rfl fun K hK => ?_; go_simp; exact hJ.q hK (by kernel_rfl) rfl) | fail)
      · intro L fx w' hJ hL hp hcl;have e0 := hJ.pt 0 14 (.slice (some ⟨bx, 0, none⟩) xs.length cx) rfl rfl rfl (hp 0 (by decide));rw [e0] at hJ ⊢; clear e0;have e1 := hJ.pt 1 15 (.int .i64 (m : Int)) rfl rfl rfl (hp 1 (by decide));rw [e1] at hJ ⊢; clear e1;refine wps rfl fun K hK => ?_;go_simp;exact hJ.q hK (by kernel_rfl) rfl
      · intro L fx w' hJ hL hp hcl;have e2 := hJ.pt 2 16 (.pointer (some ⟨bx, m * 2, none⟩)) rfl rfl rfl (hp 2 (by decide));rw [e2] at hJ ⊢; clear e2;refine wps rfl fun K hK => ?_;have cl0 := (hJ.cells _ mm0).1;have cl1 := (hJ.cells _ mm1).1;try dsimp only at cl0 cl1
        go_simp;exact hJ.q hK (by kernel_rfl) rfl
      · intro L fx w' hJ hL hp hcl;have e4 := hJ.pt 4 18 (.slice (some ⟨by_, 0, none⟩) ys.length cy) rfl rfl rfl (hp 4 (by decide));rw [e4] at hJ ⊢; clear e4;have e5 := hJ.pt 5 19 (.int .i64 (m : Int)) rfl rfl rfl (hp 5 (by decide));rw [e5] at hJ ⊢; clear e5;refine wps rfl fun K hK => ?_;go_simp;exact hJ.q hK (by kernel_rfl) rfl
      · intro L fx w' hJ hL hp hcl;have e6 := hJ.pt 6 20 (.pointer (some ⟨by_, m * 2, none⟩)) rfl rfl rfl (hp 6 (by decide));rw [e6] at hJ ⊢; clear e6;refine wps rfl fun K hK => ?_;have cl0 := (hJ.cells _ mm2).1;have cl1 := (hJ.cells _ mm3).1;try dsimp only at cl0 cl1
        go_simp;exact hJ.q hK (by kernel_rfl) rfl
      · intro L fx w' hJ hL hp hcl;have hg0 : wr.heap.size <= w'.heap.size := Nat.le_trans (by omega : wr.heap.size <= wr.heap.size) hJ.size;refine wps rfl fun K hK => ?_;go_simp;exact hK _ _ ⟨_, by kernel_rfl, hJ.grow 8 (by show 8 < 12; decide) _ (by kernel_rfl) (by kernel_rfl) (by intro t ht; rcases mc ht with rfl | ht; exact ⟨by show 10 ≠ 8; decide, fun _ => by cases hh : L 10 with | false => rfl | true => have := hcl 10 (by show 10 < 12; decide) hh 8 (by decide); rw [hL] at this; cases this⟩; rcases mc ht with rfl | ht; exact ⟨by show 11 ≠ 8; decide, fun h => absurd (show 8 = 7 from h) (by decide)⟩; cases ht) (by intro p hp; rcases mc hp with rfl | hp; exact ⟨⟨fun _ => rfl, fun _ => rfl⟩, fun _ q hq hne hLq => (by rcases mc hq with rfl | hq; exact absurd rfl hne; rcases mc hq with rfl | hq; (obtain ⟨g9, cs9, hx9, _, hr9, _⟩ := hJ.slot 9 (by show 9 < 12; decide) hLq; have hx9 : fx 8 = _ := hx9; show _ ≠ fx 8; rw [hx9]; intro e9; injection e9 with e9; injection e9 with e9; injection e9 with e9; exact absurd e9 (Nat.ne_of_gt hr9.lt)); cases hq)⟩; rcases mc hp with rfl | hp; exact ⟨⟨fun h => absurd (show 9 = 8 from h) (by decide), fun h => absurd (show 8 = 7 from h) (by decide)⟩, fun h => absurd (show 9 = 8 from h) (by decide)⟩; cases hp) ((Below.refl _ _).alloc (Nat.le_refl _) _) ⟨w'.heap.size, _, rfl, hJ.size, RowAt.new _ _ _, NoW.two _ _ _ _, rfl⟩ hg0⟩
      · intro L fx w' hJ hL hp hcl;have hg0 : wr.heap.size <= w'.heap.size := Nat.le_trans (by omega : wr.heap.size <= wr.heap.size) hJ.size;refine wps rfl fun K hK => ?_;go_simp;exact hK _ _ ⟨_, by kernel_rfl, hJ.grow 9 (by show 9 < 12; decide) _ (by kernel_rfl) (by kernel_rfl) (by intro t ht; rcases mc ht with rfl | ht; exact ⟨by show 10 ≠ 9; decide, fun h => absurd (show 7 = 8 from h) (by decide)⟩; rcases mc ht with rfl | ht; exact ⟨by show 11 ≠ 9; decide, fun _ => by cases hh : L 11 with | false => rfl | true => have := hcl 11 (by show 11 < 12; decide) hh 9 (by decide); rw [hL] at this; cases this⟩; cases ht) (by intro p hp; rcases mc hp with rfl | hp; exact ⟨⟨fun h => absurd (show 8 = 9 from h) (by decide), fun h => absurd (show 7 = 8 from h) (by decide)⟩, fun h => absurd (show 8 = 9 from h) (by decide)⟩; rcases mc hp with rfl | hp; exact ⟨⟨fun _ => rfl, fun _ => rfl⟩, fun _ q hq hne hLq => (by rcases mc hq with rfl | hq; (obtain ⟨g9, cs9, hx9, _, hr9, _⟩ := hJ.slot 8 (by show 8 < 12; decide) hLq; have hx9 : fx 7 = _ := hx9; show _ ≠ fx 7; rw [hx9]; intro e9; injection e9 with e9; injection e9 with e9; injection e9 with e9; exact absurd e9 (Nat.ne_of_gt hr9.lt)); rcases mc hq with rfl | hq; exact absurd rfl hne; cases hq)⟩; cases hp) ((Below.refl _ _).alloc (Nat.le_refl _) _) ⟨w'.heap.size, _, rfl, hJ.size, RowAt.new _ _ _, NoW.two _ _ _ _, rfl⟩ hg0⟩
      · intro L fx w' hJ hL hp hcl;have e8 := hJ.slot 8 (by show 8 < 12; decide) (hp 8 (by decide));have e3 := hJ.pt 3 17 (.agg #[.bool pu.1, .slice pu.2.1 pu.2.2.1 pu.2.2.2]) rfl rfl rfl (hp 3 (by decide));rw [e3] at hJ ⊢; clear e3;obtain ⟨g, cs, hx, hgB, hr0, hn0, hl0⟩ := e8;obtain ⟨z0, z1, rfl⟩ : ∃ z0 z1, cs = [z0, z1] := list2 hl0;have hf0 := RowAt.free hr0 0;have hc0 := RowAt.cell hr0 0;have hf1 := RowAt.free hr0 1;have hc1 := RowAt.cell hr0 1;try dsimp only at hf0 hc0 hf1 hc1
        have hx1 := hx;rw [patchX (x := (updX fx 17 (.agg #[.bool pu.1, .slice pu.2.1 pu.2.2.1 pu.2.2.2]))) (d := 7) hx] at hJ ⊢;refine wps rfl fun K hK => ?_;go_simp;exact hK _ _ ⟨_, by kernel_rfl, hJ.storeNew (us := [.bool pu.1, .slice pu.2.1 pu.2.2.1 pu.2.2.2]) 10 7 _ _ (by show 10 < 12; decide) rfl mm0 (by intro t ht h; rcases mc ht with rfl | ht; rfl; rcases mc ht with rfl | ht; exact absurd (show 11 = 10 from h) (by decide); cases ht) (by intro t ht hne hLt; rcases mc ht with rfl | ht; exact absurd rfl hne; rcases mc ht with rfl | ht; exact hJ.apart (9, 8) mm1 (8, 7) mm0 (by show 9 ≠ 8; decide) (hcl 11 (by show 11 < 12; decide) hLt 9 (by decide)) (hp 8 (by decide)); cases ht) (by kernel_rfl) (by kernel_rfl) (by decide) (by rfl) hgB hr0 hn0 rfl (NoW.two _ _ _ _) rfl (by omega)⟩
      · intro L fx w' hJ hL hp hcl;have e9 := hJ.slot 9 (by show 9 < 12; decide) (hp 9 (by decide));have e7 := hJ.pt 7 21 (.agg #[.bool pv.1, .slice pv.2.1 pv.2.2.1 pv.2.2.2]) rfl rfl rfl (hp 7 (by decide));rw [e7] at hJ ⊢; clear e7;obtain ⟨g, cs, hx, hgB, hr0, hn0, hl0⟩ := e9;obtain ⟨z0, z1, rfl⟩ : ∃ z0 z1, cs = [z0, z1] := list2 hl0;have hf0 := RowAt.free hr0 0;have hc0 := RowAt.cell hr0 0;have hf1 := RowAt.free hr0 1;have hc1 := RowAt.cell hr0 1;try dsimp only at hf0 hc0 hf1 hc1
        have hx1 := hx;rw [patchX (x := (updX fx 21 (.agg #[.bool pv.1, .slice pv.2.1 pv.2.2.1 pv.2.2.2]))) (d := 8) hx] at hJ ⊢;refine wps rfl fun K hK => ?_;go_simp;exact hK _ _ ⟨_, by kernel_rfl, hJ.storeNew (us := [.bool pv.1, .slice pv.2.1 pv.2.2.1 pv.2.2.2]) 11 8 _ _ (by show 11 < 12; decide) rfl mm1 (by intro t ht h; rcases mc ht with rfl | ht; exact absurd (show 10 = 11 from h) (by decide); rcases mc ht with rfl | ht; rfl; cases ht) (by intro t ht hne hLt; rcases mc ht with rfl | ht; exact hJ.apart (8, 7) mm0 (9, 8) mm1 (by show 8 ≠ 9; decide) (hcl 10 (by show 10 < 12; decide) hLt 8 (by decide)) (hp 9 (by decide)); rcases mc ht with rfl | ht; exact absurd rfl hne; cases ht) (by kernel_rfl) (by kernel_rfl) (by decide) (by rfl) hgB hr0 hn0 rfl (NoW.two _ _ _ _) rfl (by omega)⟩
    · intro L x' w3 hL hJ;have hfr : Below wr.drew.heap.size wr.drew w3 := hJ.fr;obtain ⟨g7, cs7, hx7, hg7, hr7, hcs7⟩ := hJ.new _ mm0 (hL 10 (by show 10 < 12; decide));obtain ⟨g8, cs8, hx8, hg8, hr8, hcs8⟩ := hJ.new _ mm1 (hL 11 (by show 11 < 12; decide));obtain rfl : cs7 = _ := hcs7;obtain rfl : cs8 = _ := hcs8;have hx7 : x' 7 = _ := hx7;have hx8 : x' 8 = _ := hx8;rw [patchX (x := x') (d := 7) hx7];rw [patchX (x := updX x' 7 (.pointer (some ⟨g7, 0, none⟩))) (d := 8) (v := .pointer (some ⟨g8, 0, none⟩)) hx8];have hg7 : wr.heap.size <= g7 := hg7;have hg8 : wr.heap.size <= g8 := hg8;have RG : Hid (RowAt w3 g7 33 [.bool pu.1, .slice pu.2.1 pu.2.2.1 pu.2.2.2]) := Lib.hid hr7;have RH : Hid (RowAt w3 g8 33 [.bool pv.1, .slice pv.2.1 pv.2.2.1 pv.2.2.2]) := Lib.hid hr8;clear hJ hL hx7 hx8 hr7 hr8 cu0 cu1 cv0 cv1;simp only [pN, Nat.reduceEqDiff, ↓reduceIte];go_wp2;have X3 := Lib.hid (RowN.below (w := wr.drew) hX.out hfr);have Y3 := Lib.hid (RowN.below (w := wr.drew) hY.out hfr);have R3 := Lib.hid (RowAt.below (w := wr.drew) hR.out hfr hR.out.lt);have A3 := Lib.hid (IntAt.below (w := wr.drew) hI.out.1 hfr);have B3 := Lib.hid (IntAt.below (w := wr.drew) hI.out.2.1 hfr);have D3 := Lib.hid (IntAt.below (w := wr.drew) hI.out.2.2.1 hfr);have E3 := Lib.hid (IntAt.below (w := wr.drew) hI.out.2.2.2 hfr);have U3 := Lib.hid (IntAt.below (w := wr.drew) Hnu.out hfr);have V3 := Lib.hid (IntAt.below (w := wr.drew) Hnv.out hfr);have C3 := Lib.hid (hC.out.drew.below hfr);have hs3 := hfr.size;have hs3' : wr.drew.heap.size = wr.heap.size := rfl;have hg7' := RG.out.lt;have hg8' := RH.out.lt;clear hX hY hR hI hC Hnu Hnv hfr;have hwb : wlen b.natAbs <= LA := HB.out.wlen;have hwd : wlen d.natAbs <= LA := HD.out.wlen;refine wp_region_K ⟨13, fun q_ => [22, 23, 24, 25, 26, 27, 28, 29, 30, 31, 32, 33, 34].getD q_ 0,
       fun q_ => [.val (.slice (some ⟨bx, 0, none⟩) xs.length cx), .val (.int .i64 (m : Int)), .val (.pointer (some ⟨w.heap.size, 0, none⟩)), .val (.pointer (some ⟨w.heap.size, 0, none⟩)), .val (.agg #[.bool p.1, .slice p.2.1 p.2.2.1 p.2.2.2]), .val (.agg #[.bool pu.1, .slice pu.2.1 pu.2.2.1 pu.2.2.2]), .val (.pointer (some ⟨w.heap.size, 0, none⟩)), .val (.pointer (some ⟨w.heap.size, 2, none⟩)), .val (.agg #[.bool q.1, .slice q.2.1 q.2.2.1 q.2.2.2]), .val (.agg #[.bool pv.1, .slice pv.2.1 pv.2.2.1 pv.2.2.2]), .int 0 (b * ys[m]), .int 0 (a * xs[m] + b * ys[m]), .val (.pointer (some ⟨bx, m * 2, none⟩))].getD q_ .any,
       [],
       [(.agg #[.bool p.1, .slice p.2.1 p.2.2.1 p.2.2.2], .at_ LA a), (.agg #[.bool q.1, .slice q.2.1 q.2.2.1 q.2.2.2], .at_ LA b), (.agg #[.bool pu.1, .slice pu.2.1 pu.2.2.1 pu.2.2.2], .at_ LB xs[m]), (.agg #[.bool pv.1, .slice pv.2.1 pv.2.2.1 pv.2.2.2], .at_ LB ys[m])],
       [(w.heap.size, 116, [.bool p.1, .slice p.2.1 p.2.2.1 p.2.2.2, .bool q.1, .slice q.2.1 q.2.2.1 q.2.2.2, .bool r.1, .slice r.2.1 r.2.2.1 r.2.2.2, .bool s.1, .slice s.2.1 s.2.2.1 s.2.2.2]), (g7, 33, [.bool pu.1, .slice pu.2.1 pu.2.2.1 pu.2.2.2]), (g8, 33, [.bool pv.1, .slice pv.2.1 pv.2.2.1 pv.2.2.2])],
       [], [], []⟩ [22, 23, 24, 25, 26, 27, 28, 29, 30, 31, 32, 33, 34] (w3.heap.size) (by kernel_rfl) (by kernel_rfl) (by kernel_rfl) (by kernel_rfl) (by kernel_rfl) ?_ ?_ ?_ ?_ ?_ ?_
      · exact allq (A3.out) (allq (B3.out) (allq (U3.out) (allq (V3.out) allz)))
      · exact allq (⟨R3.out, (R3.out).lt, allz⟩) (allq (⟨RG.out, (RG.out).lt, allz⟩) (allq (⟨RH.out, (RH.out).lt, allz⟩) allz))
      · exact allz
      · exact allz
      · refine allc ?_ (allc ?_ (allc ?_ (allc ?_ (allc ?_ (allc ?_ (allc ?_ (allc ?_ (allc ?_ (allc ?_ (allc ?_ (allc ?_ (allc ?_ alln))))))))))));any_goals (first | (intro L fx w' hJ hL hp hcl; have _ := hp0 hp (by decide +kernel); refine wps rfl fun K hK => ?_; go_simp; exact hJ.q hK (by kernel_rfl) rfl) | fail)
        · intro L fx w' hJ hL hp hcl;have e2 := hJ.pt 2 24 (.pointer (some ⟨w.heap.size, 0, none⟩)) rfl rfl rfl (hp 2 (by decide));rw [e2] at hJ ⊢; clear e2;refine wps rfl fun K hK => ?_;go_simp;exact hJ.q hK (by kernel_rfl) rfl
        · intro L fx w' hJ hL hp hcl;have e3 := hJ.pt 3 25 (.pointer (some ⟨w.heap.size, 0, none⟩)) rfl rfl rfl (hp 3 (by decide));rw [e3] at hJ ⊢; clear e3;refine wps rfl fun K hK => ?_;have rw0 := (hJ.rows _ mm0).1;have cl0 : w'.cell? ⟨w.heap.size, 0, none⟩ = some (.bool p.1) := rw0.cell 0;have cl1 : w'.cell? ⟨w.heap.size, 1, none⟩ = some (.slice p.2.1 p.2.2.1 p.2.2.2) := rw0.cell 1;go_simp;exact hJ.q hK (by kernel_rfl) rfl
        · intro L fx w' hJ hL hp hcl;refine wps rfl fun K hK => ?_;have rw0 := (hJ.rows _ mm1).1;have cl0 : w'.cell? ⟨g7, 0, none⟩ = some (.bool pu.1) := rw0.cell 0;have cl1 : w'.cell? ⟨g7, 1, none⟩ = some (.slice pu.2.1 pu.2.2.1 pu.2.2.2) := rw0.cell 1;go_simp;exact hJ.q hK (by kernel_rfl) rfl
        · intro L fx w' hJ hL hp hcl;have e6 := hJ.pt 6 28 (.pointer (some ⟨w.heap.size, 0, none⟩)) rfl rfl rfl (hp 6 (by decide));rw [e6] at hJ ⊢; clear e6;refine wps rfl fun K hK => ?_;go_simp;exact hJ.q hK (by kernel_rfl) rfl
        · intro L fx w' hJ hL hp hcl;have e7 := hJ.pt 7 29 (.pointer (some ⟨w.heap.size, 2, none⟩)) rfl rfl rfl (hp 7 (by decide));rw [e7] at hJ ⊢; clear e7;refine wps rfl fun K hK => ?_;have rw0 := (hJ.rows _ mm0).1;have cl0 : w'.cell? ⟨w.heap.size, 2, none⟩ = some (.bool q.1) := rw0.cell 2;have cl1 : w'.cell? ⟨w.heap.size, 3, none⟩ = some (.slice q.2.1 q.2.2.1 q.2.2.2) := rw0.cell 3;go_simp;exact hJ.q hK (by kernel_rfl) rfl
        · intro L fx w' hJ hL hp hcl;refine wps rfl fun K hK => ?_;have rw0 := (hJ.rows _ mm2).1;have cl0 : w'.cell? ⟨g8, 0, none⟩ = some (.bool pv.1) := rw0.cell 0;have cl1 : w'.cell? ⟨g8, 1, none⟩ = some (.slice pv.2.1 pv.2.2.1 pv.2.2.2) := rw0.cell 1;go_simp;exact hJ.q hK (by kernel_rfl) rfl
        · intro L fx w' hJ hL hp hcl;have e8 := hJ.pt 8 30 (.agg #[.bool q.1, .slice q.2.1 q.2.2.1 q.2.2.2]) rfl rfl rfl (hp 8 (by decide));rw [e8] at hJ ⊢; clear e8;have e9 := hJ.pt 9 31 (.agg #[.bool pv.1, .slice pv.2.1 pv.2.2.1 pv.2.2.2]) rfl rfl rfl (hp 9 (by decide));rw [e9] at hJ ⊢; clear e9;refine wps rfl fun K hK => ?_;go_simp;go_at_call 9;refine (IMul_c _ _ b ys[m] LA LB _ (show IntAt w' (LA) (.agg #[.bool q.1, .slice q.2.1 q.2.2.1 q.2.2.2]) (b) from hJ.base _ mm1) (show IntAt w' (LB) (.agg #[.bool pv.1, .slice pv.2.1 pv.2.2.1 pv.2.2.2]) (ys[m]) from hJ.base _ mm3) hLab).mono ?_;rintro e w4 ⟨⟨v5, rfl, h5⟩, hb4⟩;try dsimp only
          exact hK _ _ ⟨_, by kernel_rfl, hJ.gC 10 rfl (by kernel_rfl) hb4 (OwnI.mono h5 (Nat.zero_le _)) (by omega)⟩
        · intro L fx w' hJ hL hp hcl;have e10 := hJ.slot 10 (by show 10 < 13; decide) (hp 10 (by decide));have e4 := hJ.pt 4 26 (.agg #[.bool p.1, .slice p.2.1 p.2.2.1 p.2.2.2]) rfl rfl rfl (hp 4 (by decide));rw [e4] at hJ ⊢; clear e4;have e5 := hJ.pt 5 27 (.agg #[.bool pu.1, .slice pu.2.1 pu.2.2.1 pu.2.2.2]) rfl rfl rfl (hp 5 (by decide));rw [e5] at hJ ⊢; clear e5;refine wps rfl fun K hK => ?_;go_simp;go_at_call 97;refine (IMulAdd_c _ _ _ a xs[m] (b * ys[m]) LA LB _ (show IntAt w' (LA) (.agg #[.bool p.1, .slice p.2.1 p.2.2.1 p.2.2.2]) (a) from hJ.base _ mm0) (show IntAt w' (LB) (.agg #[.bool pu.1, .slice pu.2.1 pu.2.2.1 pu.2.2.2]) (xs[m]) from hJ.base _ mm2) (OwnI.int (show OwnI w' _ (fx 32) _ from e10) (by rw [Int.natAbs_mul]; exact Nat.le_trans (wlen_mul _ _) (Nat.le_trans (Nat.add_le_add hwb hyw) hLab))) hLab).mono ?_;rintro e w4 ⟨⟨v5, rfl, h5⟩, hb4⟩;try dsimp only
          exact hK _ _ ⟨_, by kernel_rfl, hJ.gC 11 rfl (by kernel_rfl) hb4 (OwnI.mono h5 (Nat.zero_le _)) (by omega)⟩
        · intro L fx w' hJ hL hp hcl;have e0 := hJ.pt 0 22 (.slice (some ⟨bx, 0, none⟩) xs.length cx) rfl rfl rfl (hp 0 (by decide));rw [e0] at hJ ⊢; clear e0;have e1 := hJ.pt 1 23 (.int .i64 (m : Int)) rfl rfl rfl (hp 1 (by decide));rw [e1] at hJ ⊢; clear e1;refine wps rfl fun K hK => ?_;go_simp;exact hJ.q hK (by kernel_rfl) rfl
      · intro L x' w3b hL hJ;have hfr : Below w3.drew.heap.size w3.drew w3b := hJ.fr;have e11 : OwnI w3b 0 (x' 33) (a * xs[m] + b * ys[m]) := hJ.slot 11 (by show 11 < 13; decide) (hL 11 (by show 11 < 13; decide));have e12 : x' 34 = .pointer (some ⟨bx, m * 2, none⟩) := hJ.slot 12 (by show 12 < 13; decide) (hL 12 (by show 12 < 13; decide));obtain ⟨pz3, hpz⟩ := NumAt.parts e11.num;rw [hpz] at e11;unfold av at hpz;rw [patchX (x := x') (d := 33) hpz];rw [patchX (x := updX x' 33 (.agg #[.bool pz3.1, .slice pz3.2.1 pz3.2.2.1 pz3.2.2.2])) (d := 34) (v := .pointer (some ⟨bx, m * 2, none⟩)) e12];clear hJ hL;have X4 := Lib.hid (RowN.below (w := w3.drew) X3.out hfr);have Y4 := Lib.hid (RowN.below (w := w3.drew) Y3.out hfr);have R4 := Lib.hid (RowAt.below (w := w3.drew) R3.out hfr R3.out.lt);have RG := Lib.hid (RowAt.below (w := w3.drew) RG.out hfr RG.out.lt);have RH := Lib.hid (RowAt.below (w := w3.drew) RH.out hfr RH.out.lt);have A4 := Lib.hid (IntAt.below (w := w3.drew) A3.out hfr);have B4 := Lib.hid (IntAt.below (w := w3.drew) B3.out hfr);have D4 := Lib.hid (IntAt.below (w := w3.drew) D3.out hfr);have E4 := Lib.hid (IntAt.below (w := w3.drew) E3.out hfr);have U4 := Lib.hid (IntAt.below (w := w3.drew) U3.out hfr);have V4 := Lib.hid (IntAt.below (w := w3.drew) V3.out hfr);have C4 := Lib.hid (C3.out.drew.below hfr);have hsz4 := hfr.size;have hsz4' : w3.drew.heap.size = w3.heap.size := rfl;clear X3 Y3 R3 A3 B3 D3 E3 U3 V3 C3;obtain ⟨pq, q0, q1, _⟩ := X4.out.get hmx;have q2 := X4.out.free (m * 2);have q3 := X4.out.free (m * 2 + 1);refine wps rfl fun K hK => ?_;go_simp;refine hK _ _ ⟨⟨updX (updX x' 33 (.agg #[.bool pz3.1, .slice pz3.2.1 pz3.2.2.1 pz3.2.2.2])) 34 (.pointer (some ⟨bx, m * 2, none⟩)), by kernel_rfl⟩, ?_⟩;clear hK q0 q1 q2 q3;have ZX := Lib.hid (X4.out.set m e11.num);have ZY := Lib.hid (X4.out.keepRow Y4.out (fun e => hne e.symm) m pz3);have ZR := Lib.hid ((R4.out.other (p := ⟨bx, m * 2, none⟩) (by show w.heap.size ≠ bx; omega) (.bool pz3.1)).other (p := ⟨bx, m * 2 + 1, none⟩) (by show w.heap.size ≠ bx; omega) (.slice pz3.2.1 pz3.2.2.1 pz3.2.2.2));have Z7 := Lib.hid ((RG.out.other (p := ⟨bx, m * 2, none⟩) (by show g7 ≠ bx; omega) (.bool pz3.1)).other (p := ⟨bx, m * 2 + 1, none⟩) (by show g7 ≠ bx; omega) (.slice pz3.2.1 pz3.2.2.1 pz3.2.2.2));have Z8 := Lib.hid ((RH.out.other (p := ⟨bx, m * 2, none⟩) (by show g8 ≠ bx; omega) (.bool pz3.1)).other (p := ⟨bx, m * 2 + 1, none⟩) (by show g8 ≠ bx; omega) (.slice pz3.2.1 pz3.2.2.1 pz3.2.2.2));have ZA := Lib.hid (X4.out.keepInt A4.out m pz3);have ZB := Lib.hid (X4.out.keepInt B4.out m pz3);have ZD := Lib.hid (X4.out.keepInt D4.out m pz3);have ZE := Lib.hid (X4.out.keepInt E4.out m pz3);have ZU := Lib.hid (X4.out.keepInt U4.out m pz3);have ZV := Lib.hid (X4.out.keepInt V4.out m pz3);have ZC := Lib.hid ((C4.out.set (p := ⟨bx, m * 2, none⟩) (Or.inl rfl) (.bool pz3.1)).set (p := ⟨bx, m * 2 + 1, none⟩) (Or.inl rfl) (.slice pz3.2.1 pz3.2.2.1 pz3.2.2.2));clear X4 Y4 R4 RG RH A4 B4 D4 E4 U4 V4 C4 e11 e12;have hszg : ((w3b.setCell ⟨bx, m * 2, none⟩ (.bool pz3.1)).setCell ⟨bx, m * 2 + 1, none⟩ (.slice pz3.2.1 pz3.2.2.1 pz3.2.2.2)).heap.size = w3b.heap.size := by simp
        generalize ((w3b.setCell ⟨bx, m * 2, none⟩ (.bool pz3.1)).setCell ⟨bx, m * 2 + 1, none⟩ (.slice pz3.2.1 pz3.2.2.1 pz3.2.2.2)) = w5 at *;have X6 := ZX;have Y6 := ZY;have R6 := ZR;have RG := Z7;have RH := Z8;have A6 := ZA;have B6 := ZB;have D6 := ZD;have E6 := ZE;have U6 := ZU;have V6 := ZV;have C6 := ZC;clear ZX ZY ZR Z7 Z8 ZA ZB ZD ZE ZU ZV ZC;go_wp2;refine wp_region_K ⟨13, fun q_ => [35, 36, 37, 38, 39, 40, 41, 42, 43, 44, 45, 46, 47].getD q_ 0,
         fun q_ => [.val (.slice (some ⟨by_, 0, none⟩) ys.length cy), .val (.int .i64 (m : Int)), .val (.pointer (some ⟨w.heap.size, 4, none⟩)), .val (.pointer (some ⟨w.heap.size, 4, none⟩)), .val (.agg #[.bool r.1, .slice r.2.1 r.2.2.1 r.2.2.2]), .val (.agg #[.bool pu.1, .slice pu.2.1 pu.2.2.1 pu.2.2.2]), .val (.pointer (some ⟨w.heap.size, 4, none⟩)), .val (.pointer (some ⟨w.heap.size, 6, none⟩)), .val (.agg #[.bool s.1, .slice s.2.1 s.2.2.1 s.2.2.2]), .val (.agg #[.bool pv.1, .slice pv.2.1 pv.2.2.1 pv.2.2.2]), .int 0 (d * ys[m]), .int 0 (c * xs[m] + d * ys[m]), .val (.pointer (some ⟨by_, m * 2, none⟩))].getD q_ .any,
         [],
         [(.agg #[.bool r.1, .slice r.2.1 r.2.2.1 r.2.2.2], .at_ LA c), (.agg #[.bool s.1, .slice s.2.1 s.2.2.1 s.2.2.2], .at_ LA d), (.agg #[.bool pu.1, .slice pu.2.1 pu.2.2.1 pu.2.2.2], .at_ LB xs[m]), (.agg #[.bool pv.1, .slice pv.2.1 pv.2.2.1 pv.2.2.2], .at_ LB ys[m])],
         [(w.heap.size, 116, [.bool p.1, .slice p.2.1 p.2.2.1 p.2.2.2, .bool q.1, .slice q.2.1 q.2.2.1 q.2.2.2, .bool r.1, .slice r.2.1 r.2.2.1 r.2.2.2, .bool s.1, .slice s.2.1 s.2.2.1 s.2.2.2]), (g7, 33, [.bool pu.1, .slice pu.2.1 pu.2.2.1 pu.2.2.2]), (g8, 33, [.bool pv.1, .slice pv.2.1 pv.2.2.1 pv.2.2.2])],
         [], [], []⟩ [35, 36, 37, 38, 39, 40, 41, 42, 43, 44, 45, 46, 47] (w5.heap.size) (by kernel_rfl) (by kernel_rfl) (by kernel_rfl) (by kernel_rfl) (by kernel_rfl) ?_ ?_ ?_ ?_ ?_ ?_
        · exact allq (D6.out) (allq (E6.out) (allq (U6.out) (allq (V6.out) allz)))
        · exact allq (⟨R6.out, (R6.out).lt, allz⟩) (allq (⟨RG.out, (RG.out).lt, allz⟩) (allq (⟨RH.out, (RH.out).lt, allz⟩) allz))
        · exact allz
        · exact allz
        · refine allc ?_ (allc ?_ (allc ?_ (allc ?_ (allc ?_ (allc ?_ (allc ?_ (allc ?_ (allc ?_ (allc ?_ (allc ?_ (allc ?_ (allc ?_ alln))))))))))));any_goals (first | (intro L fx w' hJ hL hp hcl; have _ := hp0 hp (by decide +kernel); refine wps rfl fun K hK => ?_; go_simp; exact hJ.q hK (by kernel_rfl) rfl) | fail)
          · intro L fx w' hJ hL hp hcl;have e2 := hJ.pt 2 37 (.pointer (some ⟨w.heap.size, 4, none⟩)) rfl rfl rfl (hp 2 (by decide));rw [e2] at hJ ⊢; clear e2;refine wps rfl fun K hK => ?_;go_simp;exact hJ.q hK (by kernel_rfl) rfl
          · intro L fx w' hJ hL hp hcl;have e3 := hJ.pt 3 38 (.pointer (some ⟨w.heap.size, 4, none⟩)) rfl rfl rfl (hp 3 (by decide));rw [e3] at hJ ⊢; clear e3;refine wps rfl fun K hK => ?_;have rw0 := (hJ.rows _ mm0).1;have cl0 : w'.cell? ⟨w.heap.size, 4, none⟩ = some (.bool r.1) := rw0.cell 4;have cl1 : w'.cell? ⟨w.heap.size, 5, none⟩ = some (.slice r.2.1 r.2.2.1 r.2.2.2) := rw0.cell 5;go_simp;exact hJ.q hK (by kernel_rfl) rfl
          · intro L fx w' hJ hL hp hcl;refine wps rfl fun K hK => ?_;have rw0 := (hJ.rows _ mm1).1;have cl0 : w'.cell? ⟨g7, 0, none⟩ = some (.bool pu.1) := rw0.cell 0;have cl1 : w'.cell? ⟨g7, 1, none⟩ = some (.slice pu.2.1 pu.2.2.1 pu.2.2.2) := rw0.cell 1;go_simp;exact hJ.q hK (by kernel_rfl) rfl
          · intro L fx w' hJ hL hp hcl;have e6 := hJ.pt 6 41 (.pointer (some ⟨w.heap.size, 4, none⟩)) rfl rfl rfl (hp 6 (by decide));rw [e6] at hJ ⊢; clear e6;refine wps rfl fun K hK => ?_;go_simp;exact hJ.q hK (by kernel_rfl) rfl
          · intro L fx w' hJ hL hp hcl;have e7 := hJ.pt 7 42 (.pointer (some ⟨w.heap.size, 6, none⟩)) rfl rfl rfl (hp 7 (by decide));rw [e7] at hJ ⊢; clear e7;refine wps rfl fun K hK => ?_;have rw0 := (hJ.rows _ mm0).1;have cl0 : w'.cell? ⟨w.heap.size, 6, none⟩ = some (.bool s.1) := rw0.cell 6;have cl1 : w'.cell? ⟨w.heap.size, 7, none⟩ = some (.slice s.2.1 s.2.2.1 s.2.2.2) := rw0.cell 7;go_simp;exact hJ.q hK (by kernel_rfl) rfl
          · intro L fx w' hJ hL hp hcl;refine wps rfl fun K hK => ?_;have rw0 := (hJ.rows _ mm2).1;have cl0 : w'.cell? ⟨g8, 0, none⟩ = some (.bool pv.1) := rw0.cell 0;have cl1 : w'.cell? ⟨g8, 1, none⟩ = some (.slice pv.2.1 pv.2.2.1 pv.2.2.2) := rw0.cell 1;go_simp;exact hJ.q hK (by kernel_rfl) rfl
          · intro L fx w' hJ hL hp hcl;have e8 := hJ.pt 8 43 (.agg #[.bool s.1, .slice s.2.1 s.2.2.1 s.2.2.2]) rfl rfl rfl (hp 8 (by decide));rw [e8] at hJ ⊢; clear e8;have e9 := hJ.pt 9 44 (.agg #[.bool pv.1, .slice pv.2.1 pv.2.2.1 pv.2.2.2]) rfl rfl rfl (hp 9 (by decide));rw [e9] at hJ ⊢; clear e9;refine wps rfl fun K hK => ?_;go_simp;go_at_call 9;refine (IMul_c _ _ d ys[m] LA LB _ (show IntAt w' (LA) (.agg #[.bool s.1, .slice s.2.1 s.2.2.1 s.2.2.2]) (d) from hJ.base _ mm1) (show IntAt w' (LB) (.agg #[.bool pv.1, .slice pv.2.1 pv.2.2.1 pv.2.2.2]) (ys[m]) from hJ.base _ mm3) hLab).mono ?_;rintro e w4 ⟨⟨v5, rfl, h5⟩, hb4⟩;try dsimp only
            exact hK _ _ ⟨_, by kernel_rfl, hJ.gC 10 rfl (by kernel_rfl) hb4 (OwnI.mono h5 (Nat.zero_le _)) (by omega)⟩
          · intro L fx w' hJ hL hp hcl;have e10 := hJ.slot 10 (by show 10 < 13; decide) (hp 10 (by decide));have e4 := hJ.pt 4 39 (.agg #[.bool r.1, .slice r.2.1 r.2.2.1 r.2.2.2]) rfl rfl rfl (hp 4 (by decide));rw [e4] at hJ ⊢; clear e4;have e5 := hJ.pt 5 40 (.agg #[.bool pu.1, .slice pu.2.1 pu.2.2.1 pu.2.2.2]) rfl rfl rfl (hp 5 (by decide));rw [e5] at hJ ⊢; clear e5;refine wps rfl fun K hK => ?_;go_simp;go_at_call 97;refine (IMulAdd_c _ _ _ c xs[m] (d * ys[m]) LA LB _ (show IntAt w' (LA) (.agg #[.bool r.1, .slice r.2.1 r.2.2.1 r.2.2.2]) (c) from hJ.base _ mm0) (show IntAt w' (LB) (.agg #[.bool pu.1, .slice pu.2.1 pu.2.2.1 pu.2.2.2]) (xs[m]) from hJ.base _ mm2) (OwnI.int (show OwnI w' _ (fx 45) _ from e10) (by rw [Int.natAbs_mul]; exact Nat.le_trans (wlen_mul _ _) (Nat.le_trans (Nat.add_le_add hwd hyw) hLab))) hLab).mono ?_;rintro e w4 ⟨⟨v5, rfl, h5⟩, hb4⟩;try dsimp only
            exact hK _ _ ⟨_, by kernel_rfl, hJ.gC 11 rfl (by kernel_rfl) hb4 (OwnI.mono h5 (Nat.zero_le _)) (by omega)⟩
          · intro L fx w' hJ hL hp hcl;have e0 := hJ.pt 0 35 (.slice (some ⟨by_, 0, none⟩) ys.length cy) rfl rfl rfl (hp 0 (by decide));rw [e0] at hJ ⊢; clear e0;have e1 := hJ.pt 1 36 (.int .i64 (m : Int)) rfl rfl rfl (hp 1 (by decide));rw [e1] at hJ ⊢; clear e1;refine wps rfl fun K hK => ?_;go_simp;exact hJ.q hK (by kernel_rfl) rfl
        · intro L x' w5b hL hJ;have hfr : Below w5.drew.heap.size w5.drew w5b := hJ.fr;have e11 : OwnI w5b 0 (x' 46) (c * xs[m] + d * ys[m]) := hJ.slot 11 (by show 11 < 13; decide) (hL 11 (by show 11 < 13; decide));have e12 : x' 47 = .pointer (some ⟨by_, m * 2, none⟩) := hJ.slot 12 (by show 12 < 13; decide) (hL 12 (by show 12 < 13; decide));obtain ⟨pz6, hpz⟩ := NumAt.parts e11.num;rw [hpz] at e11;unfold av at hpz;rw [patchX (x := x') (d := 46) hpz];rw [patchX (x := updX x' 46 (.agg #[.bool pz6.1, .slice pz6.2.1 pz6.2.2.1 pz6.2.2.2])) (d := 47) (v := .pointer (some ⟨by_, m * 2, none⟩)) e12];clear hJ hL;have X7 := Lib.hid (RowN.below (w := w5.drew) X6.out hfr);have Y7 := Lib.hid (RowN.below (w := w5.drew) Y6.out hfr);have R7 := Lib.hid (RowAt.below (w := w5.drew) R6.out hfr R6.out.lt);have RG := Lib.hid (RowAt.below (w := w5.drew) RG.out hfr RG.out.lt);have RH := Lib.hid (RowAt.below (w := w5.drew) RH.out hfr RH.out.lt);have A7 := Lib.hid (IntAt.below (w := w5.drew) A6.out hfr);have B7 := Lib.hid (IntAt.below (w := w5.drew) B6.out hfr);have D7 := Lib.hid (IntAt.below (w := w5.drew) D6.out hfr);have E7 := Lib.hid (IntAt.below (w := w5.drew) E6.out hfr);have U7 := Lib.hid (IntAt.below (w := w5.drew) U6.out hfr);have V7 := Lib.hid (IntAt.below (w := w5.drew) V6.out hfr);have C7 := Lib.hid (C6.out.drew.below hfr);have hsz7 := hfr.size;have hsz7' : w5.drew.heap.size = w5.heap.size := rfl;clear X6 Y6 R6 A6 B6 D6 E6 U6 V6 C6;obtain ⟨pq, q0, q1, _⟩ := Y7.out.get hmv;have q2 := Y7.out.free (m * 2);have q3 := Y7.out.free (m * 2 + 1);refine wps rfl fun K hK => ?_;go_simp;refine hK _ _ ⟨⟨updX (updX x' 46 (.agg #[.bool pz6.1, .slice pz6.2.1 pz6.2.2.1 pz6.2.2.2])) 47 (.pointer (some ⟨by_, m * 2, none⟩)), by kernel_rfl⟩, ?_⟩;clear hK q0 q1 q2 q3;have ZY := Lib.hid (Y7.out.set m e11.num);have ZX := Lib.hid (Y7.out.keepRow X7.out (fun e => hne e) m pz6);have ZR := Lib.hid ((R7.out.other (p := ⟨by_, m * 2, none⟩) (by show w.heap.size ≠ by_; omega) (.bool pz6.1)).other (p := ⟨by_, m * 2 + 1, none⟩) (by show w.heap.size ≠ by_; omega) (.slice pz6.2.1 pz6.2.2.1 pz6.2.2.2));have Z7 := Lib.hid ((RG.out.other (p := ⟨by_, m * 2, none⟩) (by show g7 ≠ by_; omega) (.bool pz6.1)).other (p := ⟨by_, m * 2 + 1, none⟩) (by show g7 ≠ by_; omega) (.slice pz6.2.1 pz6.2.2.1 pz6.2.2.2));have Z8 := Lib.hid ((RH.out.other (p := ⟨by_, m * 2, none⟩) (by show g8 ≠ by_; omega) (.bool pz6.1)).other (p := ⟨by_, m * 2 + 1, none⟩) (by show g8 ≠ by_; omega) (.slice pz6.2.1 pz6.2.2.1 pz6.2.2.2));have ZA := Lib.hid (Y7.out.keepInt A7.out m pz6);have ZB := Lib.hid (Y7.out.keepInt B7.out m pz6);have ZD := Lib.hid (Y7.out.keepInt D7.out m pz6);have ZE := Lib.hid (Y7.out.keepInt E7.out m pz6);have ZU := Lib.hid (Y7.out.keepInt U7.out m pz6);have ZV := Lib.hid (Y7.out.keepInt V7.out m pz6);have ZC := Lib.hid ((C7.out.set (p := ⟨by_, m * 2, none⟩) (Or.inr rfl) (.bool pz6.1)).set (p := ⟨by_, m * 2 + 1, none⟩) (Or.inr rfl) (.slice pz6.2.1 pz6.2.2.1 pz6.2.2.2));clear X7 Y7 R7 RG RH A7 B7 D7 E7 U7 V7 C7 e11 e12;go_wp2;go_roundw
          case rel =>
           exact ⟨m + 1, _, _, by omega, by go_num, HU.out.next hml hmy, HV.out.next hml hmy, ZX, ZY, ZR, Lib.hid ⟨ZA.out, ZB.out, ZD.out, ZE.out⟩, ZC⟩
          case measure => simp [intOf]; omega
  · obtain rfl : m = xs.length := by omega
    have he := HU.out.all Hl.out rfl;have he2 := HV.out.all Hl.out Hl.out;have HE := Lib.hid he;have HE2 := Lib.hid he2;clear he he2;go_wp2;refine bodyPost_end (results_none (by kernel_rfl) _ _ _) rfl ?_;rw [<- HE.out, <- HE2.out];exact ⟨rfl, hX.out, hY.out, hC.out⟩
theorem NoW_hdrs : ∀ R : List Hd, NoW (R.map Hd.hdr)
 | [] => NoW.nil
 | h :: R => NoW.slice (NoW_hdrs R)
def RowP (w : World) (b : Nat) (t : TypeId) (cs : List Value) : Prop := ∃ tl, NoW tl /\ RowAt w b t (cs ++ tl)
theorem RowAt.pre {w : World} {b : Nat} {t : TypeId} {cs : List Value} (h : RowAt w b t cs) : RowP w b t cs := ⟨[], NoW.nil, by rw [List.append_nil]; exact h⟩
theorem RowP.lt {w : World} {b : Nat} {t : TypeId} {cs : List Value} (h : RowP w b t cs) : b < w.heap.size := by obtain ⟨_, _, h⟩ := h; exact h.lt
theorem RowP.free {w : World} {b : Nat} {t : TypeId} {cs : List Value} (h : RowP w b t cs) (i : Nat) : w.frozen? ⟨b, i, none⟩ = false := by obtain ⟨_, _, h⟩ := h; exact h.free i
theorem RowP.below {w w' : World} {b B : Nat} {t : TypeId} {cs : List Value} (h : RowP w b t cs) (hb : Below B w w') (hB : b < B) : RowP w' b t cs := by obtain ⟨tl, n, h⟩ := h; exact ⟨tl, n, h.below hb hB⟩
theorem RowP.other {w : World} {b : Nat} {t : TypeId} {cs : List Value} (h : RowP w b t cs) {p : Addr} (hp : b ≠ p.block) (v : Value) : RowP (w.setCell p v) b t cs := by obtain ⟨tl, n, h⟩ := h; exact ⟨tl, n, h.other hp v⟩
theorem RowP.set {w : World} {b : Nat} {t : TypeId} {cs : List Value} (h : RowP w b t cs) {i : Nat} (hi : i < cs.length) (v : Value) : RowP (w.setCell ⟨b, i, none⟩ v) b t (cs.set i v) := by
 obtain ⟨tl, n, h⟩ := h;have := h.set i v;rw [List.set_append_left _ _ hi] at this;exact ⟨tl, n, this⟩
theorem RowP.cell {w : World} {b : Nat} {t : TypeId} {cs : List Value} (h : RowP w b t cs) {i : Nat} (hi : i < cs.length) : w.cell? ⟨b, i, none⟩ = cs[i]? := by
 obtain ⟨tl, n, h⟩ := h; rw [h.cell, List.getElem?_append_left hi]
theorem RowP.chg {S : Nat -> Prop} {w w' : World} {b : Nat} {t : TypeId} {cs : List Value} (h : RowP w b t cs) (hc : Chg S w w') (hb : ¬ S b) : RowP w' b t cs := by obtain ⟨tl, n, h⟩ := h; exact ⟨tl, n, hc.row h hb⟩
structure MatN (w : World) (o : Nat) (R : List Hd) : Prop where
 out : RowP w o 22 (R.map Hd.hdr)
 row : ∀ h ∈ R, RowN w h.blk h.xs
 nd : (R.map Hd.blk).Nodup
theorem MatN.below {w w' : World} {o : Nat} {R : List Hd} (h : MatN w o R) (hb : Below w.heap.size w w') : MatN w' o R :=
 ⟨h.out.below hb h.out.lt, fun r hr => (h.row r hr).below hb, h.nd⟩
theorem MatN.ne {w : World} {o : Nat} {R : List Hd} (h : MatN w o R) {r : Hd} (hr : r ∈ R) : r.blk ≠ o := by
 intro e;obtain ⟨ps, tl, nt, hp, _⟩ := h.row r hr;obtain ⟨tl, _, ho⟩ := h.out;unfold RowAt at hp ho;rw [e, ho] at hp;simp only [Option.some.injEq, Obj.cells.injEq] at hp;exact absurd hp.2.1 (by decide)
theorem MatN.hdr {w : World} {o : Nat} {R : List Hd} (h : MatN w o R) {i : Nat} (hi : i < R.length) : w.cell? ⟨o, i, none⟩ = some (R[i]).hdr := by
 rw [h.out.cell (by simpa using hi)]; simp [hi]
theorem MatN.lt {w : World} {o : Nat} {R : List Hd} (h : MatN w o R) : o < w.heap.size := h.out.lt
theorem MatN.setOther {w : World} {o : Nat} {R : List Hd} (h : MatN w o R) {g : Nat} {t : TypeId} {cs : List Value} (hr : RowAt w g t cs) (hn : NoW cs) (ho : o ≠ g) (hb : ∀ r ∈ R, r.blk ≠ g) (i : Nat) (u : Value) : MatN (w.setCell ⟨g, i, none⟩ u) o R :=
 ⟨h.out.other ho u, fun r hr' => (h.row r hr').other (hb r hr') hr hn i u, h.nd⟩
structure TwoS where
 o : Nat
 g : Nat
 g3 : Nat
 cap : Nat
 cs : Nat
 own : Nat -> Prop
 fit : List Hd -> Prop
 rel : List Hd -> List Hd -> Prop
structure LSt where
 lb : Nat
 o : Nat
 sb : Nat
 g : Nat
 cap : Nat
 R : List Hd
 two : Option TwoS
def LSt.rws (S : LSt) (k : Nat) : Prop := k = S.o ∨ ∃ h ∈ S.R, h.blk = k
def LSt.own (S : LSt) (k : Nat) : Prop := S.rws k ∨ ∃ t, S.two = some t /\ t.own k
def LSt.withR (S : LSt) (R : List Hd) : LSt := ⟨S.lb, S.o, S.sb, S.g, S.cap, R, S.two⟩
def LSt.ns (S : LSt) : Nat := match S.two with | none => 1 | some _ => 2
def LSt.cs (S : LSt) : Nat := match S.two with | none => 1 | some t => t.cs
def TwoS.st (t : TwoS) (V : List Hd) : LSt := ⟨0, t.o, 0, t.g, t.cap, V, none⟩
def LSt.hdr (S : LSt) : Value := .slice (some ⟨S.o, 0, none⟩) S.R.length S.cap
def likeF (g : Nat) : List Value := [.func (.func 87) #[] #[.pointer (some ⟨g, 0, none⟩)], .func (.func 88) #[] #[.pointer (some ⟨g, 0, none⟩)], .func (.func 89) #[] #[.pointer (some ⟨g, 0, none⟩)], .func (.func 91) #[] #[.pointer (some ⟨g, 0, none⟩)]]
def agF (g g3 : Nat) : List Value := [.func (.func 87) #[] #[.pointer (some ⟨g, 0, none⟩)], .func (.func 88) #[] #[.pointer (some ⟨g, 0, none⟩)], .func (.func 89) #[] #[.pointer (some ⟨g3, 0, none⟩)], .func (.func 91) #[] #[.pointer (some ⟨g3, 0, none⟩)]]
def LSt.more (S : LSt) : List Value := match S.two with | none => [] | some t => agF t.g t.g3
theorem run_store_fn (P : Program) (w : World) (p : Addr) (f : Fn) (a b : Array Value) (m : Mode) : (store p (.func f a b) m).run P w = stored P w p (.func f a b) m := run_store P w p _ m rfl
attribute [local go_sem] run_store_fn
theorem results_side {fn : Func} {p : Tmp} (h : fn.results = #[.cell p 108]) (tmps : Array Value) (w : World) (g : Nat) (a b c d : Value) (hp : tmps.getD p undef = .pointer (some ⟨g, 0, none⟩)) (hr : RowAt w g 108 [a, b, c, d]) :
 (results fn tmps).run Tryz.prog w = .ok (.agg #[a, b, c, d]) w :=
 results_cell_row h tmps w g 108 #[a, b, c, d] (0, 0) _ hp hr Tryz.underlying108 rfl (by kernel_rfl)
set_option maxRecDepth 100000 in
set_option maxHeartbeats 4000000 in
theorem Like_c (ao : Option Addr) (n cap : Nat) (w : World) :
 Calls Tryz.prog 76 #[.slice ao n cap] w fun e w' => e = .returned (.agg (likeF w.heap.size).toArray) /\ RowAt w' w.heap.size 60 [.slice ao n cap] /\ Below w.heap.size w w' := by
 go_enter Tryz.func76, Tryz.ntmps76;go_wp2;obtain ⟨r1, r2, hb⟩ := two_new w #[.slice ao n cap] (likeF w.heap.size).toArray 60 108;simp only [likeF] at r1 r2 hb;refine bodyPost_ret (results_side (p := 2) (by kernel_rfl) _ _ (w.heap.size + 1) _ _ _ _ rfl r2) rfl ?_;exact ⟨rfl, r1, hb⟩
structure SdAt (w : World) (S : LSt) : Prop where
 box : RowAt w S.g 60 [S.hdr]
 mat : MatN w S.o S.R
theorem SdAt.below {w w' : World} {S : LSt} (h : SdAt w S) (hb : Below w.heap.size w w') : SdAt w' S := ⟨h.box.below hb h.box.lt, h.mat.below hb⟩
structure TwoAt (w : World) (S : LSt) (t : TwoS) (V : List Hd) : Prop where
 sd : SdAt w (t.st V)
 box3 : RowAt w t.g3 60 [(t.st V).hdr]
 rel : t.rel S.R V
 own : ∀ k, t.own k ↔ (t.st V).rws k
 apart : ∀ k, t.own k -> ¬ S.rws k
structure LadAt (w : World) (S : LSt) : Prop where
 lad : RowAt w S.lb 94 [S.hdr, .slice (some ⟨S.sb, 0, none⟩) S.ns S.cs]
 sides : RowP w S.sb 108 (likeF S.g ++ S.more)
 box : RowAt w S.g 60 [S.hdr]
 mat : MatN w S.o S.R
 ext : ∀ t, S.two = some t -> ∃ V, TwoAt w S t V
theorem LadAt.sd {w : World} {S : LSt} (h : LadAt w S) : SdAt w S := ⟨h.box, h.mat⟩
set_option maxRecDepth 100000 in
set_option maxHeartbeats 4000000 in
theorem New_c (o cap : Nat) (R : List Hd) (w : World) (hM : MatN w o R) :
 Calls Tryz.prog 64 #[.slice (some ⟨o, 0, none⟩) R.length cap] w fun e w' => (∃ lb sb g, e = .returned (.pointer (some ⟨lb, 0, none⟩)) /\ LadAt w' ⟨lb, o, sb, g, cap, R, none⟩ /\ w.heap.size <= lb /\ w.heap.size <= sb /\ w.heap.size <= g) /\ Below w.heap.size w w' := by
 have HM := Lib.hid hM;have HM0 := Lib.hid hM; clear hM;go_enter Tryz.func64, Tryz.ntmps64;go_wp2_with fail
 have hb1 : Below w.heap.size w (w.alloc (.cells #[.slice (some ⟨o, 0, none⟩) R.length cap, .slice none 0 0] 94)) := (Below.refl _ _).alloc (Nat.le_refl _) _;have hr1 := RowAt.new w #[.slice (some ⟨o, 0, none⟩) R.length cap, .slice none 0 0] 94;generalize w.alloc (.cells #[.slice (some ⟨o, 0, none⟩) R.length cap, .slice none 0 0] 94) = w1 at *;refine (Like_c _ _ _ _).mono ?_;rintro e w2 ⟨rfl, hbox, hb2⟩;simp only [likeF];have hr2 := hr1.below hb2 hr1.lt;have hM2 := (HM.out.below hb1).below hb2;have hbw : Below w.heap.size w w2 := hb1.trans (hb2.mono hb1.size);have hs1 : w.heap.size < w1.heap.size := hr1.lt;have hs2 : w1.heap.size < w2.heap.size := hbox.lt;have hb3 : Below w2.heap.size w2 (w2.alloc (.cells (likeF w1.heap.size).toArray 108)) := (Below.refl _ _).alloc (Nat.le_refl _) _;have hr3 := RowAt.new w2 (likeF w1.heap.size).toArray 108;have hr4 := hr2.below hb3 hr2.lt;have hbox3 := hbox.below hb3 hbox.lt;have hM3 := hM2.below hb3;have hbw3 := hbw.trans (hb3.mono hbw.size);have f1 := hr4.free 1;have c1 := hr4.cell 1;simp only [likeF] at hr3 f1 c1;have HR3 := Lib.hid hr3;have HR4 := Lib.hid hr4;have HM3 := Lib.hid hM3;have HB3 := Lib.hid hbw3;have HX3 := Lib.hid hbox3;clear hr1 hr2 hr3 hr4 hM2 hM3 hbw hbw3 hb1 hb2 hb3 hbox hbox3 HM;go_wp2;go_ret;have ho := HM0.out.lt;refine ⟨⟨w.heap.size, rfl, w2.heap.size, w1.heap.size, ⟨?_, ?_, ?_, ?_, fun t h => by cases h⟩, Nat.le_refl _, by omega, by omega⟩, ?_⟩
 · exact HR4.out.set 1 (.slice (some ⟨w2.heap.size, 0, none⟩) 1 1)
 · exact (RowAt.other (p := ⟨w.heap.size, 1, none⟩) HR3.out (by show w2.heap.size ≠ w.heap.size; omega) _).pre
 · exact RowAt.other (p := ⟨w.heap.size, 1, none⟩) HX3.out (by show w1.heap.size ≠ w.heap.size; omega) _
 · exact HM3.out.setOther HR4.out (NoW.slice (NoW.slice NoW.nil)) (by show o ≠ w.heap.size; omega) (fun r hr => by have := (HM0.out.row r hr).lt; omega) 1 _
 · exact HB3.out.setCell (p := ⟨w.heap.size, 1, none⟩) (Nat.le_refl _) _
theorem RowAt.neP {w : World} {a b : Nat} {t t' : TypeId} {cs cs' : List Value} (h : RowAt w a t cs) (h' : RowP w b t' cs') (ht : t ≠ t') : a ≠ b := by obtain ⟨_, _, h'⟩ := h'; exact h.ne h' ht
def setXs (R : List Hd) (i : Nat) (xs : List Int) : List Hd := R.modify i (fun h => ⟨h.blk, h.cap, xs⟩)
theorem setXs_length (R : List Hd) (i : Nat) (xs : List Int) : (setXs R i xs).length = R.length := by simp [setXs]
theorem setXs_get {R : List Hd} {i : Nat} {xs : List Int} {j : Nat} (hj : j < R.length) : (setXs R i xs)[j]'(by rw [setXs_length]; exact hj) = if i = j then ⟨R[j].blk, R[j].cap, xs⟩ else R[j] := by
 unfold setXs; rw [List.getElem_modify]
theorem setXs_blk (R : List Hd) (i : Nat) (xs : List Int) : (setXs R i xs).map Hd.blk = R.map Hd.blk := by
 refine List.ext_getElem (by simp [setXs_length]) fun j h1 h2 => ?_;simp only [List.getElem_map];rw [setXs_get (by simpa using h2)];split <;> rfl
theorem setXs_hdr {R : List Hd} {i : Nat} {xs : List Int} (hi : i < R.length) (hl : xs.length = R[i].xs.length) : (setXs R i xs).map Hd.hdr = R.map Hd.hdr := by
 refine List.ext_getElem (by simp [setXs_length]) fun j h1 h2 => ?_;simp only [List.getElem_map];rw [setXs_get (by simpa using h2)];split
 · rename_i e; subst e; unfold Hd.hdr; rw [hl]
 · rfl
theorem blk_ne {R : List Hd} (hn : (R.map Hd.blk).Nodup) {i j : Nat} (hi : i < R.length) (hj : j < R.length) (h : i ≠ j) : R[i].blk ≠ R[j].blk := by
 intro e;have h1 : (R.map Hd.blk)[i]'(by simpa using hi) = (R.map Hd.blk)[j]'(by simpa using hj) := by simpa using e
 have hp := List.pairwise_iff_getElem.1 hn;rcases Nat.lt_or_gt_of_ne h with hlt | hlt
 · exact hp i j (by simpa using hi) (by simpa using hj) hlt h1
 · exact hp j i (by simpa using hj) (by simpa using hi) hlt h1.symm
theorem MatN.setXs {w w' : World} {o : Nat} {R : List Hd} (h : MatN w o R) {i : Nat} (hi : i < R.length) {xs : List Int} (hl : xs.length = R[i].xs.length) (hc : Chg (· = R[i].blk) w w') (hr : RowN w' R[i].blk xs) : MatN w' o (setXs R i xs) := by
 have hw : Wordless (· = R[i].blk) w := (h.row _ (List.getElem_mem hi)).wordless;refine ⟨by rw [setXs_hdr hi hl]; exact h.out.chg hc (fun e => h.ne (List.getElem_mem hi) e.symm), fun r hr' => ?_, by rw [setXs_blk]; exact h.nd⟩;obtain ⟨j, hj, rfl⟩ := List.getElem_of_mem hr';rw [setXs_length] at hj;rw [setXs_get hj];split
 · rename_i e; subst e; exact hr
 · rename_i e; exact hc.rowN hw (h.row _ (List.getElem_mem hj)) (blk_ne h.nd hj hi (fun e' => e e'.symm))
theorem addRow_length {k : Int} {xs ys : List Int} (h : xs.length = ys.length) : (addRow k xs ys).length = xs.length := by simp [addRow, h]
theorem mixRow_length {a b : Int} {xs ys : List Int} (h : xs.length = ys.length) : (mixRow a b xs ys).length = xs.length := by simp [mixRow, h]
theorem SdAt.keep {w w' : World} {S : LSt} (h : SdAt w S) (hc : Chg S.rws w w') {b : Nat} {t : TypeId} {cs : List Value} (hb : RowAt w b t cs) (h1 : t ≠ 33) (h2 : t ≠ 22) : RowAt w' b t cs := by
 refine hc.row hb ?_;rintro (rfl | ⟨r, hr, rfl⟩)
 · exact hb.neP h.mat.out h2 rfl
 · obtain ⟨ps, tl, nt, hp, _⟩ := h.mat.row r hr;exact hb.ne hp h1 rfl
theorem SdAt.rows {w w' : World} {S : LSt} (h : SdAt w S) {R : List Hd} (hc : Chg S.rws w w') (hM : MatN w' S.o R) (hl : R.length = S.R.length) : SdAt w' (S.withR R) := by
 have e : LSt.hdr (S.withR R) = S.hdr := by unfold LSt.hdr LSt.withR; rw [hl]
 exact ⟨by rw [e]; exact h.keep hc h.box (by decide) (by decide), hM⟩
def addR (R : List Hd) (i j : Nat) (k : Int) (hi : i < R.length) (hj : j < R.length) : List Hd := setXs R i (addRow k R[i].xs R[j].xs)
set_option maxRecDepth 100000 in
set_option maxHeartbeats 4000000 in
theorem LikeAdd_c (S : LSt) (i j : Nat) (kv : Value) (k : Int) (LA LB : Nat) (w : World) (h : SdAt w S) (hi : i < S.R.length) (hj : j < S.R.length) (hij : i ≠ j) (hK : IntAt w LA kv k) (hl : S.R[i].xs.length = S.R[j].xs.length)
 (hxL : ∀ x ∈ S.R[i].xs, wlen x.natAbs <= 17592186044415) (hyL : ∀ y ∈ S.R[j].xs, wlen y.natAbs <= LB) (hLab : LA + LB <= 17592186044415) (hlen : S.R[i].xs.length <= 4611686018427387903) :
 Calls Tryz.prog 89 #[.int .i64 (i : Int), .int .i64 (j : Int), kv, .pointer (some ⟨S.g, 0, none⟩)] w fun e w' => e = .returned (.tuple #[]) /\ SdAt w' (S.withR (addR S.R i j k hi hj)) /\ Chg S.rws w w' := by
 obtain ⟨kp, rfl⟩ := hK.parts;have HL := Lib.hid h; clear h;have HK := Lib.hid hK; clear hK;have HXL := Lib.hid hxL; clear hxL;have HYL := Lib.hid hyL; clear hyL;have Hl := Lib.hid hl; clear hl;go_enter Tryz.func89, Tryz.ntmps89;unfold av at *;go_wp2;have hb1 : Below w.heap.size w (w.alloc (.cells #[.bool kp.1, .slice kp.2.1 kp.2.2.1 kp.2.2.2] 33)) := (Below.refl _ _).alloc (Nat.le_refl _) _;have hr1 := RowAt.new w #[.bool kp.1, .slice kp.2.1 kp.2.2.1 kp.2.2.2] 33;generalize w.alloc (.cells #[.bool kp.1, .slice kp.2.1 kp.2.2.1 kp.2.2.2] 33) = w1 at *;have hbox := HL.out.box.below hb1 HL.out.box.lt;have hM1 := HL.out.mat.below hb1;have hK1 := HK.out.below hb1;have HX1 := Lib.hid (hM1.row _ (List.getElem_mem hi));have HY1 := Lib.hid (hM1.row _ (List.getElem_mem hj));have hne := blk_ne hM1.nd hi hj hij;have cg : w1.cell? ⟨S.g, 0, none⟩ = some (.slice (some ⟨S.o, 0, none⟩) S.R.length S.cap) := hbox.cell 0;have ci : w1.cell? ⟨S.o, i, none⟩ = some (.slice (some ⟨S.R[i].blk, 0, none⟩) S.R[i].xs.length S.R[i].cap) := hM1.hdr hi;have cj : w1.cell? ⟨S.o, j, none⟩ = some (.slice (some ⟨S.R[j].blk, 0, none⟩) S.R[j].xs.length S.R[j].cap) := hM1.hdr hj;have ck0 : w1.cell? ⟨w.heap.size, 0, none⟩ = some (.bool kp.1) := hr1.cell 0;have ck1 : w1.cell? ⟨w.heap.size, 1, none⟩ = some (.slice kp.2.1 kp.2.2.1 kp.2.2.2) := hr1.cell 1;have hs0 : S.g < w1.heap.size := hbox.lt;have hs1 : S.o < w1.heap.size := hM1.out.lt;have hs2 : w.heap.size < w1.heap.size := hr1.lt;have hi' : (i : Int) < (S.R.length : Int) := by omega
 have hj' : (j : Int) < (S.R.length : Int) := by omega
 have HM1 := Lib.hid hM1; clear hM1;have HK1 := Lib.hid hK1; clear hK1;have HB1 := Lib.hid hb1; clear hb1;clear hr1 hbox;refine wp_region_K ⟨9, fun q_ => [7, 8, 9, 10, 11, 12, 13, 14, 15].getD q_ 0,
  fun q_ => [.val (.slice (some ⟨S.o, 0, none⟩) S.R.length S.cap), .val (.int .i64 (i : Int)), .val (.pointer (some ⟨S.o, i, none⟩)), .val (.slice (some ⟨S.R[i].blk, 0, none⟩) S.R[i].xs.length S.R[i].cap), .val (.slice (some ⟨S.o, 0, none⟩) S.R.length S.cap), .val (.int .i64 (j : Int)), .val (.pointer (some ⟨S.o, j, none⟩)), .val (.slice (some ⟨S.R[j].blk, 0, none⟩) S.R[j].xs.length S.R[j].cap), .val (.agg #[.bool kp.1, .slice kp.2.1 kp.2.2.1 kp.2.2.2])].getD q_ .any,
  [],
  [],
  [],
  [], [(⟨S.g, 0, none⟩, .slice (some ⟨S.o, 0, none⟩) S.R.length S.cap), (⟨S.o, i, none⟩, .slice (some ⟨S.R[i].blk, 0, none⟩) S.R[i].xs.length S.R[i].cap), (⟨S.o, j, none⟩, .slice (some ⟨S.R[j].blk, 0, none⟩) S.R[j].xs.length S.R[j].cap), (⟨w.heap.size, 0, none⟩, .bool kp.1), (⟨w.heap.size, 1, none⟩, .slice kp.2.1 kp.2.2.1 kp.2.2.2)], []⟩ [7, 8, 9, 10, 11, 12, 13, 14, 15, 16] (w1.heap.size) (by kernel_rfl) (by kernel_rfl) (by kernel_rfl) (by kernel_rfl) (by kernel_rfl) ?_ ?_ ?_ ?_ ?_ ?_
 · intro p hp;cases hp
 · intro p hp;cases hp
 · intro p hp;rcases mc hp with rfl | hp
   · refine ⟨cg, by show S.g < w1.heap.size; omega, ?_⟩;intro t ht;cases ht
   rcases mc hp with rfl | hp
   · refine ⟨ci, by show S.o < w1.heap.size; omega, ?_⟩;intro t ht;cases ht
   rcases mc hp with rfl | hp
   · refine ⟨cj, by show S.o < w1.heap.size; omega, ?_⟩;intro t ht;cases ht
   rcases mc hp with rfl | hp
   · refine ⟨ck0, by show w.heap.size < w1.heap.size; omega, ?_⟩;intro t ht;cases ht
   rcases mc hp with rfl | hp
   · refine ⟨ck1, by show w.heap.size < w1.heap.size; omega, ?_⟩;intro t ht;cases ht
   cases hp
 · intro t ht;cases ht
 · refine allc ?_ (allc ?_ (allc ?_ (allc ?_ (allc ?_ (allc ?_ (allc ?_ (allc ?_ (allc ?_ alln))))))));any_goals (first | (intro L fx w' hJ hL hp hcl; have _ := hp0 hp (by decide +kernel); refine wps rfl fun K hK => ?_; go_simp; exact hJ.q hK (by kernel_rfl) rfl) | fail)
   · intro L fx w' hJ hL hp hcl;refine wps rfl fun K hK => ?_;have cl0 := (hJ.cells _ mm0).1;try dsimp only at cl0
     go_simp;exact hJ.q hK (by kernel_rfl) rfl
   · intro L fx w' hJ hL hp hcl;have e0 := hJ.pt 0 7 (.slice (some ⟨S.o, 0, none⟩) S.R.length S.cap) rfl rfl rfl (hp 0 (by decide));rw [e0] at hJ ⊢; clear e0;have e1 := hJ.pt 1 8 (.int .i64 (i : Int)) rfl rfl rfl (hp 1 (by decide));rw [e1] at hJ ⊢; clear e1;refine wps rfl fun K hK => ?_;go_simp;exact hJ.q hK (by kernel_rfl) rfl
   · intro L fx w' hJ hL hp hcl;have e2 := hJ.pt 2 9 (.pointer (some ⟨S.o, i, none⟩)) rfl rfl rfl (hp 2 (by decide));rw [e2] at hJ ⊢; clear e2;refine wps rfl fun K hK => ?_;have cl0 := (hJ.cells _ mm1).1;try dsimp only at cl0
     go_simp;exact hJ.q hK (by kernel_rfl) rfl
   · intro L fx w' hJ hL hp hcl;refine wps rfl fun K hK => ?_;have cl0 := (hJ.cells _ mm0).1;try dsimp only at cl0
     go_simp;exact hJ.q hK (by kernel_rfl) rfl
   · intro L fx w' hJ hL hp hcl;have e4 := hJ.pt 4 11 (.slice (some ⟨S.o, 0, none⟩) S.R.length S.cap) rfl rfl rfl (hp 4 (by decide));rw [e4] at hJ ⊢; clear e4;have e5 := hJ.pt 5 12 (.int .i64 (j : Int)) rfl rfl rfl (hp 5 (by decide));rw [e5] at hJ ⊢; clear e5;refine wps rfl fun K hK => ?_;go_simp;exact hJ.q hK (by kernel_rfl) rfl
   · intro L fx w' hJ hL hp hcl;have e6 := hJ.pt 6 13 (.pointer (some ⟨S.o, j, none⟩)) rfl rfl rfl (hp 6 (by decide));rw [e6] at hJ ⊢; clear e6;refine wps rfl fun K hK => ?_;have cl0 := (hJ.cells _ mm2).1;try dsimp only at cl0
     go_simp;exact hJ.q hK (by kernel_rfl) rfl
   · intro L fx w' hJ hL hp hcl;refine wps rfl fun K hK => ?_;have cl0 := (hJ.cells _ mm3).1;have cl1 := (hJ.cells _ mm4).1;try dsimp only at cl0 cl1
     go_simp;exact hJ.q hK (by kernel_rfl) rfl
 · intro L x' w3 hL hJ;have hfr : Below w1.drew.heap.size w1.drew w3 := hJ.fr;have e3 : x' 10 = .slice (some ⟨S.R[i].blk, 0, none⟩) S.R[i].xs.length S.R[i].cap := hJ.slot 3 (by show 3 < 9; decide) (hL 3 (by show 3 < 9; decide));have e7 : x' 14 = .slice (some ⟨S.R[j].blk, 0, none⟩) S.R[j].xs.length S.R[j].cap := hJ.slot 7 (by show 7 < 9; decide) (hL 7 (by show 7 < 9; decide));have e8 : x' 15 = .agg #[.bool kp.1, .slice kp.2.1 kp.2.2.1 kp.2.2.2] := hJ.slot 8 (by show 8 < 9; decide) (hL 8 (by show 8 < 9; decide));rw [patchX (x := x') (d := 10) (v := .slice (some ⟨S.R[i].blk, 0, none⟩) S.R[i].xs.length S.R[i].cap) e3];rw [patchX (x := (updX x' 10 (.slice (some ⟨S.R[i].blk, 0, none⟩) S.R[i].xs.length S.R[i].cap))) (d := 14) (v := .slice (some ⟨S.R[j].blk, 0, none⟩) S.R[j].xs.length S.R[j].cap) e7];rw [patchX (x := (updX (updX x' 10 (.slice (some ⟨S.R[i].blk, 0, none⟩) S.R[i].xs.length S.R[i].cap)) 14 (.slice (some ⟨S.R[j].blk, 0, none⟩) S.R[j].xs.length S.R[j].cap))) (d := 15) (v := .agg #[.bool kp.1, .slice kp.2.1 kp.2.2.1 kp.2.2.2]) e8];clear hJ hL e3 e7 e8 cg ci cj ck0 ck1;refine wps rfl fun K hK => ?_;go_simp;go_at_call 90;refine (LAdd_c _ _ _ _ LA LB _ _ _ k _ (RowN.below (w := w1.drew) HX1.out hfr) (RowN.below (w := w1.drew) HY1.out hfr) (IntAt.below (w := w1.drew) HK1.out hfr) hne Hl.out HXL.out HYL.out hLab hlen).mono ?_;rintro e w4 ⟨rfl, hR4, hC4⟩;try dsimp only
   refine hK _ _ ⟨⟨updX (updX (updX (updX x' 10 (.slice (some ⟨S.R[i].blk, 0, none⟩) S.R[i].xs.length S.R[i].cap)) 14 (.slice (some ⟨S.R[j].blk, 0, none⟩) S.R[j].xs.length S.R[j].cap)) 15 (.agg #[.bool kp.1, .slice kp.2.1 kp.2.2.1 kp.2.2.2])) 16 (.tuple #[]), by kernel_rfl⟩, ?_⟩;clear hK;go_wp2;refine bodyPost_end (results_none (by kernel_rfl) _ _ _) rfl ?_;have hC0 : Chg S.rws w w3 := (Chg.of_below HB1.out).drew.below hfr;have hs3 := hfr.size;have hs4 : w1.drew.heap.size = w1.heap.size := rfl;have hCs : Chg (· = S.R[i].blk) w w4 := ((Chg.of_below HB1.out).drew.below hfr).trans (hC4.mono (fun k _ e => e));have hCo : Chg S.rws w w4 := hCs.mono (fun k _ e => .inr ⟨S.R[i], List.getElem_mem hi, e.symm⟩);have hM4 := HL.out.mat.setXs hi (addRow_length Hl.out) hCs hR4;exact ⟨rfl, HL.out.rows hCo hM4 (by unfold addR; rw [setXs_length]), hCo⟩
theorem matN_setXs2 {w w' : World} {o : Nat} {R : List Hd} (h : MatN w o R) {i j : Nat} (hi : i < R.length) (hj : j < R.length) (hij : i ≠ j) {xs ys : List Int} (hl : xs.length = R[i].xs.length) (hl2 : ys.length = R[j].xs.length) (hc : Chg (fun k => k = R[i].blk ∨ k = R[j].blk) w w') (hr : RowN w' R[i].blk xs) (hr2 : RowN w' R[j].blk ys) : MatN w' o (setXs (setXs R i xs) j ys) := by
 have hw : Wordless (fun k => k = R[i].blk ∨ k = R[j].blk) w := by
  rintro g (rfl | rfl)
  · exact (h.row _ (List.getElem_mem hi)).wordless _ rfl
  · exact (h.row _ (List.getElem_mem hj)).wordless _ rfl
 have hj' : j < (setXs R i xs).length := by rw [setXs_length]; exact hj
 have ej : (setXs R i xs)[j].xs = R[j].xs := by rw [setXs_get hj, if_neg hij]
 refine ⟨?_, fun r hr' => ?_, by rw [setXs_blk, setXs_blk]; exact h.nd⟩
 · rw [setXs_hdr hj' (by rw [ej]; exact hl2), setXs_hdr hi hl];exact h.out.chg hc (fun e => e.elim (fun e => h.ne (List.getElem_mem hi) e.symm) (fun e => h.ne (List.getElem_mem hj) e.symm))
 · obtain ⟨m, hm, rfl⟩ := List.getElem_of_mem hr';rw [setXs_length] at hm;have hm2 : m < R.length := by rw [setXs_length] at hm; exact hm
   rw [setXs_get hm];split
   · rename_i e;subst e;have : (setXs R i xs)[j].blk = R[j].blk := by rw [setXs_get hj, if_neg hij]
     simp only [this]; exact hr2
   · rename_i hjm;rw [setXs_get hm2];split
     · rename_i e; subst e; exact hr
     · rename_i him;exact hc.rowN hw (h.row _ (List.getElem_mem hm2)) (fun e => e.elim (blk_ne h.nd hm2 hi (fun e' => him e'.symm)) (blk_ne h.nd hm2 hj (fun e' => hjm e'.symm)))
def mixR (R : List Hd) (i j : Nat) (a b c d : Int) (hi : i < R.length) (hj : j < R.length) : List Hd := setXs (setXs R i (mixRow a b R[i].xs R[j].xs)) j (mixRow c d R[i].xs R[j].xs)
set_option maxRecDepth 100000 in
set_option maxHeartbeats 4000000 in
theorem LikeMix_c (S : LSt) (i j : Nat) (mp mq mr ms : P4) (a b c d : Int) (LA LB : Nat) (w : World) (h : SdAt w S) (hi : i < S.R.length) (hj : j < S.R.length) (hij : i ≠ j) (hA : IntAt w LA (av mp) a) (hB : IntAt w LA (av mq) b) (hC : IntAt w LA (av mr) c) (hD : IntAt w LA (av ms) d) (hl : S.R[i].xs.length = S.R[j].xs.length)
 (hxL : ∀ x ∈ S.R[i].xs, wlen x.natAbs <= LB) (hyL : ∀ y ∈ S.R[j].xs, wlen y.natAbs <= LB) (hLab : LA + LB <= 17592186044415) (hlen : S.R[i].xs.length <= 4611686018427387903) :
 Calls Tryz.prog 91 #[.int .i64 (i : Int), .int .i64 (j : Int), .agg #[.bool mp.1, .slice mp.2.1 mp.2.2.1 mp.2.2.2, .bool mq.1, .slice mq.2.1 mq.2.2.1 mq.2.2.2, .bool mr.1, .slice mr.2.1 mr.2.2.1 mr.2.2.2, .bool ms.1, .slice ms.2.1 ms.2.2.1 ms.2.2.2], .pointer (some ⟨S.g, 0, none⟩)] w fun e w' => e = .returned (.tuple #[]) /\ SdAt w' (S.withR (mixR S.R i j a b c d hi hj)) /\ Chg S.rws w w' := by
 have HL := Lib.hid h; clear h;have HA := Lib.hid hA; clear hA;have HB := Lib.hid hB; clear hB;have HC := Lib.hid hC; clear hC;have HD := Lib.hid hD; clear hD;have HXL := Lib.hid hxL; clear hxL;have HYL := Lib.hid hyL; clear hyL;have Hl := Lib.hid hl; clear hl;go_enter Tryz.func91, Tryz.ntmps91;unfold av at *;go_wp2;have hb1 : Below w.heap.size w (w.alloc (.cells #[.bool mp.1, .slice mp.2.1 mp.2.2.1 mp.2.2.2, .bool mq.1, .slice mq.2.1 mq.2.2.1 mq.2.2.2, .bool mr.1, .slice mr.2.1 mr.2.2.1 mr.2.2.2, .bool ms.1, .slice ms.2.1 ms.2.2.1 ms.2.2.2] 116)) := (Below.refl _ _).alloc (Nat.le_refl _) _;have hr1 := RowAt.new w #[.bool mp.1, .slice mp.2.1 mp.2.2.1 mp.2.2.2, .bool mq.1, .slice mq.2.1 mq.2.2.1 mq.2.2.2, .bool mr.1, .slice mr.2.1 mr.2.2.1 mr.2.2.2, .bool ms.1, .slice ms.2.1 ms.2.2.1 ms.2.2.2] 116;generalize w.alloc (.cells #[.bool mp.1, .slice mp.2.1 mp.2.2.1 mp.2.2.2, .bool mq.1, .slice mq.2.1 mq.2.2.1 mq.2.2.2, .bool mr.1, .slice mr.2.1 mr.2.2.1 mr.2.2.2, .bool ms.1, .slice ms.2.1 ms.2.2.1 ms.2.2.2] 116) = w1 at *;have hbox := HL.out.box.below hb1 HL.out.box.lt;have hM1 := HL.out.mat.below hb1;have HA1 := Lib.hid (HA.out.below hb1);have HB1' := Lib.hid (HB.out.below hb1);have HC1 := Lib.hid (HC.out.below hb1);have HD1 := Lib.hid (HD.out.below hb1);have HX1 := Lib.hid (hM1.row _ (List.getElem_mem hi));have HY1 := Lib.hid (hM1.row _ (List.getElem_mem hj));have hne := blk_ne hM1.nd hi hj hij;have cg : w1.cell? ⟨S.g, 0, none⟩ = some (.slice (some ⟨S.o, 0, none⟩) S.R.length S.cap) := hbox.cell 0;have ci : w1.cell? ⟨S.o, i, none⟩ = some (.slice (some ⟨S.R[i].blk, 0, none⟩) S.R[i].xs.length S.R[i].cap) := hM1.hdr hi;have cj : w1.cell? ⟨S.o, j, none⟩ = some (.slice (some ⟨S.R[j].blk, 0, none⟩) S.R[j].xs.length S.R[j].cap) := hM1.hdr hj;have HR1 := Lib.hid hr1;have hs0 : S.g < w1.heap.size := hbox.lt;have hs1 : S.o < w1.heap.size := hM1.out.lt;have hs2 : w.heap.size < w1.heap.size := hr1.lt;have hi' : (i : Int) < (S.R.length : Int) := by omega
 have hj' : (j : Int) < (S.R.length : Int) := by omega
 have HM1 := Lib.hid hM1; clear hM1;have HB1 := Lib.hid hb1; clear hb1;clear hr1 hbox;refine wp_region_K ⟨9, fun q_ => [7, 8, 9, 10, 11, 12, 13, 14, 15].getD q_ 0,
  fun q_ => [.val (.slice (some ⟨S.o, 0, none⟩) S.R.length S.cap), .val (.int .i64 (i : Int)), .val (.pointer (some ⟨S.o, i, none⟩)), .val (.slice (some ⟨S.R[i].blk, 0, none⟩) S.R[i].xs.length S.R[i].cap), .val (.slice (some ⟨S.o, 0, none⟩) S.R.length S.cap), .val (.int .i64 (j : Int)), .val (.pointer (some ⟨S.o, j, none⟩)), .val (.slice (some ⟨S.R[j].blk, 0, none⟩) S.R[j].xs.length S.R[j].cap), .val (.agg #[.bool mp.1, .slice mp.2.1 mp.2.2.1 mp.2.2.2, .bool mq.1, .slice mq.2.1 mq.2.2.1 mq.2.2.2, .bool mr.1, .slice mr.2.1 mr.2.2.1 mr.2.2.2, .bool ms.1, .slice ms.2.1 ms.2.2.1 ms.2.2.2])].getD q_ .any,
  [],
  [],
  [(w.heap.size, 116, [.bool mp.1, .slice mp.2.1 mp.2.2.1 mp.2.2.2, .bool mq.1, .slice mq.2.1 mq.2.2.1 mq.2.2.2, .bool mr.1, .slice mr.2.1 mr.2.2.1 mr.2.2.2, .bool ms.1, .slice ms.2.1 ms.2.2.1 ms.2.2.2])],
  [], [(⟨S.g, 0, none⟩, .slice (some ⟨S.o, 0, none⟩) S.R.length S.cap), (⟨S.o, i, none⟩, .slice (some ⟨S.R[i].blk, 0, none⟩) S.R[i].xs.length S.R[i].cap), (⟨S.o, j, none⟩, .slice (some ⟨S.R[j].blk, 0, none⟩) S.R[j].xs.length S.R[j].cap)], []⟩ [7, 8, 9, 10, 11, 12, 13, 14, 15, 16] (w1.heap.size) (by kernel_rfl) (by kernel_rfl) (by kernel_rfl) (by kernel_rfl) (by kernel_rfl) ?_ ?_ ?_ ?_ ?_ ?_
 · intro p hp;cases hp
 · intro p hp;rcases mc hp with rfl | hp
   · refine ⟨HR1.out, by show w.heap.size < w1.heap.size; omega, ?_⟩;intro t ht;cases ht
   cases hp
 · intro p hp;rcases mc hp with rfl | hp
   · refine ⟨cg, by show S.g < w1.heap.size; omega, ?_⟩;intro t ht;cases ht
   rcases mc hp with rfl | hp
   · refine ⟨ci, by show S.o < w1.heap.size; omega, ?_⟩;intro t ht;cases ht
   rcases mc hp with rfl | hp
   · refine ⟨cj, by show S.o < w1.heap.size; omega, ?_⟩;intro t ht;cases ht
   cases hp
 · intro t ht;cases ht
 · refine allc ?_ (allc ?_ (allc ?_ (allc ?_ (allc ?_ (allc ?_ (allc ?_ (allc ?_ (allc ?_ alln))))))));any_goals (first | (intro L fx w' hJ hL hp hcl; have _ := hp0 hp (by decide +kernel); refine wps rfl fun K hK => ?_; go_simp; exact hJ.q hK (by kernel_rfl) rfl) | fail)
   · intro L fx w' hJ hL hp hcl;refine wps rfl fun K hK => ?_;have cl0 := (hJ.cells _ mm0).1;try dsimp only at cl0
     go_simp;exact hJ.q hK (by kernel_rfl) rfl
   · intro L fx w' hJ hL hp hcl;have e0 := hJ.pt 0 7 (.slice (some ⟨S.o, 0, none⟩) S.R.length S.cap) rfl rfl rfl (hp 0 (by decide));rw [e0] at hJ ⊢; clear e0;have e1 := hJ.pt 1 8 (.int .i64 (i : Int)) rfl rfl rfl (hp 1 (by decide));rw [e1] at hJ ⊢; clear e1;refine wps rfl fun K hK => ?_;go_simp;exact hJ.q hK (by kernel_rfl) rfl
   · intro L fx w' hJ hL hp hcl;have e2 := hJ.pt 2 9 (.pointer (some ⟨S.o, i, none⟩)) rfl rfl rfl (hp 2 (by decide));rw [e2] at hJ ⊢; clear e2;refine wps rfl fun K hK => ?_;have cl0 := (hJ.cells _ mm1).1;try dsimp only at cl0
     go_simp;exact hJ.q hK (by kernel_rfl) rfl
   · intro L fx w' hJ hL hp hcl;refine wps rfl fun K hK => ?_;have cl0 := (hJ.cells _ mm0).1;try dsimp only at cl0
     go_simp;exact hJ.q hK (by kernel_rfl) rfl
   · intro L fx w' hJ hL hp hcl;have e4 := hJ.pt 4 11 (.slice (some ⟨S.o, 0, none⟩) S.R.length S.cap) rfl rfl rfl (hp 4 (by decide));rw [e4] at hJ ⊢; clear e4;have e5 := hJ.pt 5 12 (.int .i64 (j : Int)) rfl rfl rfl (hp 5 (by decide));rw [e5] at hJ ⊢; clear e5;refine wps rfl fun K hK => ?_;go_simp;exact hJ.q hK (by kernel_rfl) rfl
   · intro L fx w' hJ hL hp hcl;have e6 := hJ.pt 6 13 (.pointer (some ⟨S.o, j, none⟩)) rfl rfl rfl (hp 6 (by decide));rw [e6] at hJ ⊢; clear e6;refine wps rfl fun K hK => ?_;have cl0 := (hJ.cells _ mm2).1;try dsimp only at cl0
     go_simp;exact hJ.q hK (by kernel_rfl) rfl
   · intro L fx w' hJ hL hp hcl;refine wps rfl fun K hK => ?_;have rw0 := (hJ.rows _ mm0).1;have cl0 : w'.cell? ⟨w.heap.size, 0, none⟩ = some (.bool mp.1) := rw0.cell 0;have cl1 : w'.cell? ⟨w.heap.size, 1, none⟩ = some (.slice mp.2.1 mp.2.2.1 mp.2.2.2) := rw0.cell 1;have cl2 : w'.cell? ⟨w.heap.size, 2, none⟩ = some (.bool mq.1) := rw0.cell 2;have cl3 : w'.cell? ⟨w.heap.size, 3, none⟩ = some (.slice mq.2.1 mq.2.2.1 mq.2.2.2) := rw0.cell 3;have cl4 : w'.cell? ⟨w.heap.size, 4, none⟩ = some (.bool mr.1) := rw0.cell 4;have cl5 : w'.cell? ⟨w.heap.size, 5, none⟩ = some (.slice mr.2.1 mr.2.2.1 mr.2.2.2) := rw0.cell 5;have cl6 : w'.cell? ⟨w.heap.size, 6, none⟩ = some (.bool ms.1) := rw0.cell 6;have cl7 : w'.cell? ⟨w.heap.size, 7, none⟩ = some (.slice ms.2.1 ms.2.2.1 ms.2.2.2) := rw0.cell 7;go_simp;exact hJ.q hK (by kernel_rfl) rfl
 · intro L x' w3 hL hJ;have hfr : Below w1.drew.heap.size w1.drew w3 := hJ.fr;have e3 : x' 10 = .slice (some ⟨S.R[i].blk, 0, none⟩) S.R[i].xs.length S.R[i].cap := hJ.slot 3 (by show 3 < 9; decide) (hL 3 (by show 3 < 9; decide));have e7 : x' 14 = .slice (some ⟨S.R[j].blk, 0, none⟩) S.R[j].xs.length S.R[j].cap := hJ.slot 7 (by show 7 < 9; decide) (hL 7 (by show 7 < 9; decide));have e8 : x' 15 = .agg #[.bool mp.1, .slice mp.2.1 mp.2.2.1 mp.2.2.2, .bool mq.1, .slice mq.2.1 mq.2.2.1 mq.2.2.2, .bool mr.1, .slice mr.2.1 mr.2.2.1 mr.2.2.2, .bool ms.1, .slice ms.2.1 ms.2.2.1 ms.2.2.2] := hJ.slot 8 (by show 8 < 9; decide) (hL 8 (by show 8 < 9; decide));rw [patchX (x := x') (d := 10) (v := .slice (some ⟨S.R[i].blk, 0, none⟩) S.R[i].xs.length S.R[i].cap) e3];rw [patchX (x := (updX x' 10 (.slice (some ⟨S.R[i].blk, 0, none⟩) S.R[i].xs.length S.R[i].cap))) (d := 14) (v := .slice (some ⟨S.R[j].blk, 0, none⟩) S.R[j].xs.length S.R[j].cap) e7];rw [patchX (x := (updX (updX x' 10 (.slice (some ⟨S.R[i].blk, 0, none⟩) S.R[i].xs.length S.R[i].cap)) 14 (.slice (some ⟨S.R[j].blk, 0, none⟩) S.R[j].xs.length S.R[j].cap))) (d := 15) (v := .agg #[.bool mp.1, .slice mp.2.1 mp.2.2.1 mp.2.2.2, .bool mq.1, .slice mq.2.1 mq.2.2.1 mq.2.2.2, .bool mr.1, .slice mr.2.1 mr.2.2.1 mr.2.2.2, .bool ms.1, .slice ms.2.1 ms.2.2.1 ms.2.2.2]) e8];clear hJ hL e3 e7 e8 cg ci cj;refine wps rfl fun K hK => ?_;go_simp;go_at_call 92;refine (LMix_c _ _ _ _ LA LB _ _ mp mq mr ms a b c d _ (RowN.below (w := w1.drew) HX1.out hfr) (RowN.below (w := w1.drew) HY1.out hfr) (IntAt.below (w := w1.drew) HA1.out hfr) (IntAt.below (w := w1.drew) HB1'.out hfr) (IntAt.below (w := w1.drew) HC1.out hfr) (IntAt.below (w := w1.drew) HD1.out hfr) hne Hl.out HXL.out HYL.out hLab hlen).mono ?_;rintro e w4 ⟨rfl, hR4, hR4', hC4⟩;try dsimp only
   refine hK _ _ ⟨⟨updX (updX (updX (updX x' 10 (.slice (some ⟨S.R[i].blk, 0, none⟩) S.R[i].xs.length S.R[i].cap)) 14 (.slice (some ⟨S.R[j].blk, 0, none⟩) S.R[j].xs.length S.R[j].cap)) 15 (.agg #[.bool mp.1, .slice mp.2.1 mp.2.2.1 mp.2.2.2, .bool mq.1, .slice mq.2.1 mq.2.2.1 mq.2.2.2, .bool mr.1, .slice mr.2.1 mr.2.2.1 mr.2.2.2, .bool ms.1, .slice ms.2.1 ms.2.2.1 ms.2.2.2])) 16 (.tuple #[]), by kernel_rfl⟩, ?_⟩;clear hK;go_wp2;refine bodyPost_end (results_none (by kernel_rfl) _ _ _) rfl ?_;have hC0 : Chg S.rws w w3 := (Chg.of_below HB1.out).drew.below hfr;have hs3 := hfr.size;have hs4 : w1.drew.heap.size = w1.heap.size := rfl;have hCs : Chg (fun k => k = S.R[i].blk ∨ k = S.R[j].blk) w w4 := ((Chg.of_below HB1.out).drew.below hfr).trans (hC4.mono (fun k _ e => e));have hCo : Chg S.rws w w4 := hCs.mono (fun k _ e => .inr (e.elim (fun e => ⟨S.R[i], List.getElem_mem hi, e.symm⟩) (fun e => ⟨S.R[j], List.getElem_mem hj, e.symm⟩)));have hM4 := matN_setXs2 HL.out.mat hi hj hij (mixRow_length Hl.out) ((mixRow_length Hl.out).trans Hl.out) hCs hR4 hR4';exact ⟨rfl, HL.out.rows hCo hM4 (by unfold mixR; rw [setXs_length, setXs_length]), hCo⟩
theorem MatN.drew {w : World} {o : Nat} {R : List Hd} (h : MatN w o R) : MatN w.drew o R := ⟨h.out, h.row, h.nd⟩
theorem SdAt.drew {w : World} {S : LSt} (h : SdAt w S) : SdAt w.drew S := ⟨h.box, h.mat.drew⟩
theorem LadAt.drew {w : World} {S : LSt} (h : LadAt w S) : LadAt w.drew S := ⟨h.lad, h.sides, h.box, h.mat.drew, fun t ht => by obtain ⟨V, hV⟩ := h.ext t ht; exact ⟨V, hV.sd.drew, hV.box3, hV.rel, hV.own, hV.apart⟩⟩
def swapR (R : List Hd) (i j : Nat) (hi : i < R.length) (hj : j < R.length) : List Hd := (R.set i R[j]).set j R[i]
def swp (i j m : Nat) : Nat := if m = j then i else if m = i then j else m
theorem swp_lt {i j m n : Nat} (hi : i < n) (hj : j < n) (hm : m < n) : swp i j m < n := by unfold swp; (repeat' split) <;> assumption
theorem swp_inj {i j a b : Nat} (h : swp i j a = swp i j b) : a = b := by unfold swp at h; (repeat' split at h) <;> omega
theorem swapR_length {R : List Hd} {i j : Nat} (hi : i < R.length) (hj : j < R.length) : (swapR R i j hi hj).length = R.length := by simp [swapR]
theorem swapR_get {R : List Hd} {i j m : Nat} (hi : i < R.length) (hj : j < R.length) (hm : m < R.length) : (swapR R i j hi hj)[m]'(by rw [swapR_length]; exact hm) = R[swp i j m]'(swp_lt hi hj hm) := by
 unfold swapR;rw [List.getElem_set];split
 · rename_i e; subst e; congr 1; unfold swp; rw [if_pos rfl]
 · rename_i e;rw [List.getElem_set];split
   · rename_i e'; subst e'; congr 1; unfold swp; rw [if_neg (fun h => e h.symm), if_pos rfl]
   · rename_i e'; congr 1; unfold swp; rw [if_neg (fun h => e h.symm), if_neg (fun h => e' h.symm)]
theorem swapR_hdr {R : List Hd} {i j : Nat} (hi : i < R.length) (hj : j < R.length) : (swapR R i j hi hj).map Hd.hdr = ((R.map Hd.hdr).set i (R[j]).hdr).set j (R[i]).hdr := by
 unfold swapR; rw [List.map_set, List.map_set]
theorem matN_swap {w w' : World} {o : Nat} {R : List Hd} (h : MatN w o R) {i j : Nat} (hi : i < R.length) (hj : j < R.length) (hc : Chg (· = o) w w') (hr : RowP w' o 22 (((R.map Hd.hdr).set i (R[j]).hdr).set j (R[i]).hdr)) : MatN w' o (swapR R i j hi hj) := by
 have hw : Wordless (· = o) w := by rintro g rfl; obtain ⟨tl, n, ho⟩ := h.out; exact ⟨_, _, ho, NoW.append (NoW_hdrs _) n⟩
 refine ⟨by rw [swapR_hdr]; exact hr, fun r hr' => ?_, ?_⟩
 · obtain ⟨m, hm, rfl⟩ := List.getElem_of_mem hr';rw [swapR_length] at hm;rw [swapR_get hi hj hm];have hmem := List.getElem_mem (l := R) (swp_lt hi hj hm);exact hc.rowN hw (h.row _ hmem) (h.ne hmem)
 · refine List.pairwise_iff_getElem.2 fun a b ha hb hab => ?_;have ha' : a < R.length := by simpa [swapR_length] using ha
   have hb' : b < R.length := by simpa [swapR_length] using hb
   simp only [List.getElem_map];rw [swapR_get hi hj ha', swapR_get hi hj hb'];exact blk_ne h.nd (swp_lt hi hj ha') (swp_lt hi hj hb') (fun e => by have := swp_inj e; omega)
theorem wp_region_L (J : (Nat -> Bool) -> (Nat -> Value) -> World -> Prop) (ds : List Nat) {P : Program} {ops : Array Oper} {Q : Exit -> Act -> World -> Prop} {id n : Nat} {a : Act} {w : World} (hm : P.follows .mixedOrders = true) (hn : ops.size = n)
 (hb : ((List.range n).all fun i => ((ops[i]?).map (·.after.all fun e => !Region.binds .any e || decide (e.on < i))).getD false) = true)
 (hF : a = putAll a (fun k => a.tmps.getD k undef) ds) (h0 : ∀ x, J (fun _ => false) x w.drew)
 (hs : ∀ i ∈ List.range n, ∀ L x w', J L x w' -> (∀ k < n, L k = true -> ∀ j ∈ preOf ops k, L j = true) -> L i = false -> (∀ j ∈ preOf ops i, L j = true) -> wpOp P ops Q i (fun a' w'' => ∃ x', a' = putAll a x' ds /\ J (updL L i) x' w'') (putAll a x ds) w')
 (hend : ∀ L x w', (∀ i < n, L i = true) -> J L x w' -> Q .normal (putAll a x ds) w') : (Code.region id ops true).wp P Q a w :=
 wp_region_inv hm hn hb (fun x => putAll a x ds) J (fun k => a.tmps.getD k undef) hF (h0 _) (fun i hi L x w' hJ hG hL hp => hs i (List.mem_range.2 hi) L x w' hJ (fun k hk hLk => preOf_spec L k (hG k hk hLk)) hL (preOf_spec L i hp)) hend
def swD (k : Nat) : Nat := if k < 13 then k + 5 else 18
def swV (S : LSt) (i j : Nat) (hi : i < S.R.length) (hj : j < S.R.length) (k : Nat) : Value := [.slice (some ⟨S.o, 0, none⟩) S.R.length S.cap, .int .i64 (i : Int), .slice (some ⟨S.o, 0, none⟩) S.R.length S.cap, .int .i64 (j : Int), .slice (some ⟨S.o, 0, none⟩) S.R.length S.cap, .int .i64 (j : Int), .pointer (some ⟨S.o, j, none⟩), .slice (some ⟨(S.R[j]'hj).blk, 0, none⟩) (S.R[j]'hj).xs.length (S.R[j]'hj).cap, .slice (some ⟨S.o, 0, none⟩) S.R.length S.cap, .int .i64 (i : Int), .pointer (some ⟨S.o, i, none⟩), .slice (some ⟨(S.R[i]'hi).blk, 0, none⟩) (S.R[i]'hi).xs.length (S.R[i]'hi).cap, .pointer (some ⟨S.o, i, none⟩), undef, .pointer (some ⟨S.o, j, none⟩), undef].getD k undef
def swW (S : LSt) (i j : Nat) (hi : i < S.R.length) (hj : j < S.R.length) (w : World) : Bool -> Bool -> World
 | true, true => (w.setCell ⟨S.o, i, none⟩ (.slice (some ⟨(S.R[j]'hj).blk, 0, none⟩) (S.R[j]'hj).xs.length (S.R[j]'hj).cap)).setCell ⟨S.o, j, none⟩ (.slice (some ⟨(S.R[i]'hi).blk, 0, none⟩) (S.R[i]'hi).xs.length (S.R[i]'hi).cap)
 | true, false => w.setCell ⟨S.o, i, none⟩ (.slice (some ⟨(S.R[j]'hj).blk, 0, none⟩) (S.R[j]'hj).xs.length (S.R[j]'hj).cap)
 | false, _ => w
def swJ (S : LSt) (i j : Nat) (hi : i < S.R.length) (hj : j < S.R.length) (w : World) (L : Nat -> Bool) (x : Nat -> Value) (w' : World) : Prop :=
 (∀ k, k < 16 -> k ≠ 13 -> k ≠ 15 -> L k = true -> x (swD k) = swV S i j hi hj k) /\ w' = swW S i j hi hj w (L 13) (L 15)
theorem swJ.pure {S : LSt} {i j : Nat} {hi : i < S.R.length} {hj : j < S.R.length} {w w' : World} {L : Nat -> Bool} {x : Nat -> Value} (h : swJ S i j hi hj w L x w') (k : Nat) (hk : Nat.blt k 16 = true) (h1 : Nat.beq k 13 = false) (h2 : Nat.beq k 15 = false) :
 swJ S i j hi hj w (updL L k) (updX x (swD k) (swV S i j hi hj k)) w' := by
 have hk := Nat.le_of_ble_eq_true hk;have h1 : k ≠ 13 := fun e => by subst e; cases h1
 have h2 : k ≠ 15 := fun e => by subst e; cases h2
 refine ⟨fun m hm hm1 hm2 hL => ?_, ?_⟩
 · unfold updX;by_cases e : m = k
   · subst e; rw [if_pos rfl]
   · rw [if_neg (by unfold swD; split <;> split <;> omega)];unfold updL at hL;rw [if_neg e] at hL;exact h.1 m hm hm1 hm2 hL
 · show w' = swW S i j hi hj w (updL L k 13) (updL L k 15);unfold updL;rw [if_neg (Ne.symm h1), if_neg (Ne.symm h2)];exact h.2
set_option maxRecDepth 100000 in
set_option maxHeartbeats 4000000 in
theorem LikeSwap_c (S : LSt) (i j : Nat) (w : World) (h : SdAt w S) (hi : i < S.R.length) (hj : j < S.R.length) (hij : i ≠ j) :
 Calls Tryz.prog 87 #[.int .i64 (i : Int), .int .i64 (j : Int), .pointer (some ⟨S.g, 0, none⟩)] w fun e w' => e = .returned (.tuple #[]) /\ SdAt w' (S.withR (swapR S.R i j hi hj)) /\ Chg S.rws w w' := by
 have hgo : S.g ≠ S.o := h.box.neP h.mat.out (by decide);have hog : ¬ S.o = S.g := fun e => hgo e.symm;have cg : w.cell? ⟨S.g, 0, none⟩ = some (.slice (some ⟨S.o, 0, none⟩) S.R.length S.cap) := h.box.cell 0;have ci : w.cell? ⟨S.o, i, none⟩ = some (.slice (some ⟨S.R[i].blk, 0, none⟩) S.R[i].xs.length S.R[i].cap) := h.mat.hdr hi;have cj : w.cell? ⟨S.o, j, none⟩ = some (.slice (some ⟨S.R[j].blk, 0, none⟩) S.R[j].xs.length S.R[j].cap) := h.mat.hdr hj;have fi := h.mat.out.free i;have fj := h.mat.out.free j;have hi' : (i : Int) < (S.R.length : Int) := by omega
 have hj' : (j : Int) < (S.R.length : Int) := by omega
 have hji : ¬ j = i := fun e => hij e.symm;have HL := Lib.hid h; clear h;go_enter Tryz.func87, Tryz.ntmps87;go_wp2;have hcell : ∀ a b, (swW S i j hi hj w.drew a b).cell? ⟨S.g, 0, none⟩ = some (.slice (some ⟨S.o, 0, none⟩) S.R.length S.cap) := by
  intro a b;cases a
  · exact cg
  · cases b
    · exact (World.cell?_setCell_far _ _ _ _ hog).trans cg
    · exact (World.cell?_setCell_far _ _ _ _ hog).trans ((World.cell?_setCell_far _ _ _ _ hog).trans cg)
 have HC := Lib.hid hcell;clear hcell;refine wp_region_L (swJ S i j hi hj w.drew) [5, 6, 7, 8, 9, 10, 11, 12, 13, 14, 15, 16, 17, 18] (n := 16) (by kernel_rfl) (by kernel_rfl) (by kernel_rfl) (by kernel_rfl) ?_ ?_ ?_
 · exact fun _ => ⟨fun _ _ _ _ h => by simp at h, rfl⟩
 · refine allc ?_ (allc ?_ (allc ?_ (allc ?_ (allc ?_ (allc ?_ (allc ?_ (allc ?_ (allc ?_ (allc ?_ (allc ?_ (allc ?_ (allc ?_ (allc ?_ (allc ?_ (allc ?_ alln)))))))))))))))
   · intro L x w' hJ hG hL hp;have c0 : w'.cell? ⟨S.g, 0, none⟩ = some (.slice (some ⟨S.o, 0, none⟩) S.R.length S.cap) := by rw [hJ.2]; exact HC.out _ _
     refine wpOp_step rfl (fun K hK => ?_);simp only [pN, Nat.reduceEqDiff, ↓reduceIte];go_simp;exact hK _ _ ⟨_, by kernel_rfl, hJ.pure 0 rfl rfl rfl⟩
   · intro L x w' hJ hG hL hp;refine wpOp_step rfl (fun K hK => ?_);simp only [pN, Nat.reduceEqDiff, ↓reduceIte];go_simp;exact hK _ _ ⟨_, by kernel_rfl, hJ.pure 1 rfl rfl rfl⟩
   · intro L x w' hJ hG hL hp;have c0 : w'.cell? ⟨S.g, 0, none⟩ = some (.slice (some ⟨S.o, 0, none⟩) S.R.length S.cap) := by rw [hJ.2]; exact HC.out _ _
     refine wpOp_step rfl (fun K hK => ?_);simp only [pN, Nat.reduceEqDiff, ↓reduceIte];go_simp;exact hK _ _ ⟨_, by kernel_rfl, hJ.pure 2 rfl rfl rfl⟩
   · intro L x w' hJ hG hL hp;refine wpOp_step rfl (fun K hK => ?_);simp only [pN, Nat.reduceEqDiff, ↓reduceIte];go_simp;exact hK _ _ ⟨_, by kernel_rfl, hJ.pure 3 rfl rfl rfl⟩
   · intro L x w' hJ hG hL hp;have c0 : w'.cell? ⟨S.g, 0, none⟩ = some (.slice (some ⟨S.o, 0, none⟩) S.R.length S.cap) := by rw [hJ.2]; exact HC.out _ _
     refine wpOp_step rfl (fun K hK => ?_);simp only [pN, Nat.reduceEqDiff, ↓reduceIte];go_simp;exact hK _ _ ⟨_, by kernel_rfl, hJ.pure 4 rfl rfl rfl⟩
   · intro L x w' hJ hG hL hp;refine wpOp_step rfl (fun K hK => ?_);simp only [pN, Nat.reduceEqDiff, ↓reduceIte];go_simp;exact hK _ _ ⟨_, by kernel_rfl, hJ.pure 5 rfl rfl rfl⟩
   · intro L x w' hJ hG hL hp;have e4 : x 9 = (.slice (some ⟨S.o, 0, none⟩) S.R.length S.cap) := hJ.1 4 (by decide) (by decide) (by decide) (hp 4 (by decide));have e5 : x 10 = (.int .i64 (j : Int)) := hJ.1 5 (by decide) (by decide) (by decide) (hp 5 (by decide));rw [patchX (x := x) (d := 9) e4] at hJ ⊢;rw [patchX (x := (updX x 9 (.slice (some ⟨S.o, 0, none⟩) S.R.length S.cap))) (d := 10) e5] at hJ ⊢;refine wpOp_step rfl (fun K hK => ?_);simp only [pN, Nat.reduceEqDiff, ↓reduceIte];go_simp;exact hK _ _ ⟨_, by kernel_rfl, hJ.pure 6 rfl rfl rfl⟩
   · intro L x w' hJ hG hL hp;have e6 : x 11 = (.pointer (some ⟨S.o, j, none⟩)) := hJ.1 6 (by decide) (by decide) (by decide) (hp 6 (by decide));rw [patchX (x := x) (d := 11) e6] at hJ ⊢;have h13 : L 13 = false := by cases h : L 13 with | false => rfl | true => have := hG 13 (by decide) h 7 (by decide); rw [hL] at this; cases this
     have hw : w' = w.drew := by rw [hJ.2, h13]; rfl
     rw [hw] at hJ ⊢;have cj' : w.drew.cell? ⟨S.o, j, none⟩ = some (.slice (some ⟨(S.R[j]'hj).blk, 0, none⟩) (S.R[j]'hj).xs.length (S.R[j]'hj).cap) := cj;refine wpOp_step rfl (fun K hK => ?_);simp only [pN, Nat.reduceEqDiff, ↓reduceIte];go_simp;exact hK _ _ ⟨_, by kernel_rfl, hJ.pure 7 rfl rfl rfl⟩
   · intro L x w' hJ hG hL hp;have c0 : w'.cell? ⟨S.g, 0, none⟩ = some (.slice (some ⟨S.o, 0, none⟩) S.R.length S.cap) := by rw [hJ.2]; exact HC.out _ _
     refine wpOp_step rfl (fun K hK => ?_);simp only [pN, Nat.reduceEqDiff, ↓reduceIte];go_simp;exact hK _ _ ⟨_, by kernel_rfl, hJ.pure 8 rfl rfl rfl⟩
   · intro L x w' hJ hG hL hp;refine wpOp_step rfl (fun K hK => ?_);simp only [pN, Nat.reduceEqDiff, ↓reduceIte];go_simp;exact hK _ _ ⟨_, by kernel_rfl, hJ.pure 9 rfl rfl rfl⟩
   · intro L x w' hJ hG hL hp;have e8 : x 13 = (.slice (some ⟨S.o, 0, none⟩) S.R.length S.cap) := hJ.1 8 (by decide) (by decide) (by decide) (hp 8 (by decide));have e9 : x 14 = (.int .i64 (i : Int)) := hJ.1 9 (by decide) (by decide) (by decide) (hp 9 (by decide));rw [patchX (x := x) (d := 13) e8] at hJ ⊢;rw [patchX (x := (updX x 13 (.slice (some ⟨S.o, 0, none⟩) S.R.length S.cap))) (d := 14) e9] at hJ ⊢;refine wpOp_step rfl (fun K hK => ?_);simp only [pN, Nat.reduceEqDiff, ↓reduceIte];go_simp;exact hK _ _ ⟨_, by kernel_rfl, hJ.pure 10 rfl rfl rfl⟩
   · intro L x w' hJ hG hL hp;have e10 : x 15 = (.pointer (some ⟨S.o, i, none⟩)) := hJ.1 10 (by decide) (by decide) (by decide) (hp 10 (by decide));rw [patchX (x := x) (d := 15) e10] at hJ ⊢;have h13 : L 13 = false := by cases h : L 13 with | false => rfl | true => have := hG 13 (by decide) h 11 (by decide); rw [hL] at this; cases this
     have hw : w' = w.drew := by rw [hJ.2, h13]; rfl
     rw [hw] at hJ ⊢;have ci' : w.drew.cell? ⟨S.o, i, none⟩ = some (.slice (some ⟨(S.R[i]'hi).blk, 0, none⟩) (S.R[i]'hi).xs.length (S.R[i]'hi).cap) := ci;refine wpOp_step rfl (fun K hK => ?_);simp only [pN, Nat.reduceEqDiff, ↓reduceIte];go_simp;exact hK _ _ ⟨_, by kernel_rfl, hJ.pure 11 rfl rfl rfl⟩
   · intro L x w' hJ hG hL hp;have e0 : x 5 = (.slice (some ⟨S.o, 0, none⟩) S.R.length S.cap) := hJ.1 0 (by decide) (by decide) (by decide) (hp 0 (by decide));have e1 : x 6 = (.int .i64 (i : Int)) := hJ.1 1 (by decide) (by decide) (by decide) (hp 1 (by decide));rw [patchX (x := x) (d := 5) e0] at hJ ⊢;rw [patchX (x := (updX x 5 (.slice (some ⟨S.o, 0, none⟩) S.R.length S.cap))) (d := 6) e1] at hJ ⊢;refine wpOp_step rfl (fun K hK => ?_);simp only [pN, Nat.reduceEqDiff, ↓reduceIte];go_simp;exact hK _ _ ⟨_, by kernel_rfl, hJ.pure 12 rfl rfl rfl⟩
   · intro L x w' hJ hG hL hp;have e12 : x 17 = (.pointer (some ⟨S.o, i, none⟩)) := hJ.1 12 (by decide) (by decide) (by decide) (hp 12 (by decide));have e7 : x 12 = (.slice (some ⟨(S.R[j]'hj).blk, 0, none⟩) (S.R[j]'hj).xs.length (S.R[j]'hj).cap) := hJ.1 7 (by decide) (by decide) (by decide) (hp 7 (by decide));rw [patchX (x := x) (d := 17) e12] at hJ ⊢;rw [patchX (x := (updX x 17 (.pointer (some ⟨S.o, i, none⟩)))) (d := 12) e7] at hJ ⊢;have hw : w' = w.drew := by rw [hJ.2, hL]; rfl
     rw [hw] at hJ ⊢;refine wpOp_step rfl (fun K hK => ?_);simp only [pN, Nat.reduceEqDiff, ↓reduceIte];go_simp;have h15 : L 15 = false := by cases h : L 15 with | false => rfl | true => have := hG 15 (by decide) h 13 (by decide); rw [hL] at this; cases this
     refine hK _ _ ⟨_, by kernel_rfl, fun m hm h1 h2 hLm => hJ.1 m hm h1 h2 (by unfold updL at hLm; rw [if_neg h1] at hLm; exact hLm), ?_⟩;have e1 : updL L 13 13 = true := rfl;have e2 : updL L 13 15 = false := h15;rw [e1, e2];rfl
   · intro L x w' hJ hG hL hp;have e2 : x 7 = (.slice (some ⟨S.o, 0, none⟩) S.R.length S.cap) := hJ.1 2 (by decide) (by decide) (by decide) (hp 2 (by decide));have e3 : x 8 = (.int .i64 (j : Int)) := hJ.1 3 (by decide) (by decide) (by decide) (hp 3 (by decide));rw [patchX (x := x) (d := 7) e2] at hJ ⊢;rw [patchX (x := (updX x 7 (.slice (some ⟨S.o, 0, none⟩) S.R.length S.cap))) (d := 8) e3] at hJ ⊢;refine wpOp_step rfl (fun K hK => ?_);simp only [pN, Nat.reduceEqDiff, ↓reduceIte];go_simp;exact hK _ _ ⟨_, by kernel_rfl, hJ.pure 14 rfl rfl rfl⟩
   · intro L x w' hJ hG hL hp;have e14 : x 18 = (.pointer (some ⟨S.o, j, none⟩)) := hJ.1 14 (by decide) (by decide) (by decide) (hp 14 (by decide));have e11 : x 16 = (.slice (some ⟨(S.R[i]'hi).blk, 0, none⟩) (S.R[i]'hi).xs.length (S.R[i]'hi).cap) := hJ.1 11 (by decide) (by decide) (by decide) (hp 11 (by decide));rw [patchX (x := x) (d := 18) e14] at hJ ⊢;rw [patchX (x := (updX x 18 (.pointer (some ⟨S.o, j, none⟩)))) (d := 16) e11] at hJ ⊢;have h13 : L 13 = true := hp 13 (by decide);have hw : w' = w.drew.setCell ⟨S.o, i, none⟩ (S.R[j]'hj).hdr := by rw [hJ.2, h13, hL]; rfl
     rw [hw] at hJ ⊢;refine wpOp_step rfl (fun K hK => ?_);simp only [pN, Nat.reduceEqDiff, ↓reduceIte];go_simp;refine hK _ _ ⟨_, by kernel_rfl, fun m hm h1 h2 hLm => hJ.1 m hm h1 h2 (by unfold updL at hLm; rw [if_neg h2] at hLm; exact hLm), ?_⟩;have e1 : updL L 15 13 = true := h13;have e2 : updL L 15 15 = true := rfl;rw [e1, e2];rfl
 · intro L x w' hL hJ;have hw : w' = (w.drew.setCell ⟨S.o, i, none⟩ (S.R[j]'hj).hdr).setCell ⟨S.o, j, none⟩ (S.R[i]'hi).hdr := by rw [hJ.2, hL 13 (by decide), hL 15 (by decide)]; rfl
   rw [hw];simp only [pN, Nat.reduceEqDiff, ↓reduceIte];go_wp2;refine bodyPost_end (results_none (by kernel_rfl) _ _ _) rfl ?_;have hC : Chg (· = S.o) w ((w.setCell ⟨S.o, i, none⟩ (S.R[j]).hdr).setCell ⟨S.o, j, none⟩ (S.R[i]).hdr) := ((Chg.refl (· = S.o) w).set (p := ⟨S.o, i, none⟩) rfl _).set (p := ⟨S.o, j, none⟩) rfl _;have hR := (HL.out.mat.out.set (i := i) (by simpa using hi) (S.R[j]).hdr).set (i := j) (by simpa using hj) (S.R[i]).hdr;have hM := matN_swap HL.out.mat hi hj hC hR;have hCo : Chg S.rws w ((w.setCell ⟨S.o, i, none⟩ (S.R[j]).hdr).setCell ⟨S.o, j, none⟩ (S.R[i]).hdr) := hC.mono (fun k _ e => .inl e);have hL := HL.out.rows hCo hM (swapR_length hi hj);exact ⟨rfl, SdAt.drew hL, hCo.drew⟩
def negRow (xs : List Int) : List Int := xs.map (fun x => -x)
def NegTo (xs cu : List Int) (m : Nat) : Prop := cu.length = xs.length /\ (∀ j (h : j < cu.length) (h1 : j < xs.length), j < m -> cu[j] = -xs[j]) /\ (∀ j (h : j < cu.length) (h1 : j < xs.length), m <= j -> cu[j] = xs[j])
theorem NegTo.start (xs : List Int) : NegTo xs xs 0 := ⟨rfl, fun _ _ _ h => by omega, fun _ _ _ _ => rfl⟩
theorem NegTo.next {xs cu : List Int} {m : Nat} (h : NegTo xs cu m) (hm : m < xs.length) : NegTo xs (cu.set m (-xs[m])) (m + 1) := by
 obtain ⟨h1, h2, h3⟩ := h;refine ⟨by simpa using h1, fun j hj hx hjm => ?_, fun j hj hx hjm => ?_⟩
 · rw [List.getElem_set];split
   · rename_i e; subst e; rfl
   · exact h2 j (by simpa using hj) hx (by omega)
 · rw [List.getElem_set, if_neg (by omega)];exact h3 j (by simpa using hj) hx (by omega)
theorem NegTo.all {xs cu : List Int} (h : NegTo xs cu xs.length) : cu = negRow xs := by
 obtain ⟨h1, h2, h3⟩ := h;refine List.ext_getElem (by simp [negRow, h1]) fun j hj hj' => ?_;rw [h2 j hj (by omega) (by omega)];simp [negRow]
def turnR (R : List Hd) (i : Nat) (hi : i < R.length) : List Hd := setXs R i (negRow R[i].xs)
set_option maxRecDepth 100000 in
set_option maxHeartbeats 4000000 in
theorem LikeTurn_c (S : LSt) (i : Nat) (w : World) (h : SdAt w S) (hi : i < S.R.length)
 (hxL : ∀ x ∈ S.R[i].xs, wlen x.natAbs <= 17592186044415) (hlen : S.R[i].xs.length <= 4611686018427387903) :
 Calls Tryz.prog 88 #[.int .i64 (i : Int), .pointer (some ⟨S.g, 0, none⟩)] w fun e w' => e = .returned (.tuple #[]) /\ SdAt w' (S.withR (turnR S.R i hi)) /\ Chg S.rws w w' := by
 have HXL := Lib.hid hxL; clear hxL;have cg : w.cell? ⟨S.g, 0, none⟩ = some (.slice (some ⟨S.o, 0, none⟩) S.R.length S.cap) := h.box.cell 0;have ci : w.cell? ⟨S.o, i, none⟩ = some (.slice (some ⟨S.R[i].blk, 0, none⟩) S.R[i].xs.length S.R[i].cap) := h.mat.hdr hi;have hi' : (i : Int) < (S.R.length : Int) := by omega
 have hX := Lib.hid (h.mat.row _ (List.getElem_mem hi));have hG := Lib.hid h.box;have hO := Lib.hid h.mat.out;have hob : S.o ≠ S.R[i].blk := fun e => h.mat.ne (List.getElem_mem hi) e.symm;have hgb : S.g ≠ S.R[i].blk := by
  obtain ⟨ps, tl, nt, hp, _⟩ := h.mat.row _ (List.getElem_mem hi);exact h.box.ne hp (by decide)
 have HL := Lib.hid h; clear h;go_enter Tryz.func88, Tryz.ntmps88;go_wp2;go_loopw [10] (fun c wr => ∃ (m : Nat) (cu : List Int), m <= S.R[i].xs.length /\ c = .int .i64 (m : Int) /\ Hid (NegTo S.R[i].xs cu m) /\ Hid (RowN wr S.R[i].blk cu) /\ Hid (RowAt wr S.g 60 [S.hdr]) /\ Hid (RowP wr S.o 22 (S.R.map Hd.hdr)) /\ Hid (Chg (· = S.R[i].blk) w wr)) (fun c _ => S.R[i].xs.length - (intOf c).toNat)
 case atStart => exact ⟨0, _, Nat.zero_le _, rfl, NegTo.start _, hX, hG, hO, Chg.refl ..⟩
 case round =>
  obtain ⟨m, cu, hm, rfl, HA, hX, hG, hO, hC⟩ := hrel;by_cases hml : m < S.R[i].xs.length
  · have hmx : m < cu.length := by rw [HA.out.1]; exact hml
    have hm2 : (m : Int) < (S.R[i].xs.length : Int) := by omega
    obtain ⟨px, cx0, cx1, hnx⟩ := hX.out.get hmx;have Hnx := Lib.hid hnx; clear hnx;clear cg ci;go_wp2;have hb1 : Below wr.heap.size wr (wr.alloc (.cells #[.bool px.1, .slice px.2.1 px.2.2.1 px.2.2.2] 33)) := (Below.refl _ _).alloc (Nat.le_refl _) _;have hr1 := RowAt.new wr #[.bool px.1, .slice px.2.1 px.2.2.1 px.2.2.2] 33;generalize wr.alloc (.cells #[.bool px.1, .slice px.2.1 px.2.2.1 px.2.2.2] 33) = w2 at *;have X2 := Lib.hid (hX.out.below hb1);have G2 := Lib.hid (hG.out.below hb1 hG.out.lt);have O2 := Lib.hid (hO.out.below hb1 hO.out.lt);have C2 := Lib.hid (hC.out.below hb1);have N2 := Lib.hid (Hnx.out.below hb1);have R2 := Lib.hid hr1;have hs1 : wr.heap.size < w2.heap.size := hr1.lt;have hxe : cu[m] = S.R[i].xs[m] := HA.out.2.2 m hmx hml (Nat.le_refl _);have hxw : wlen (S.R[i].xs[m]).natAbs <= 17592186044415 := HXL.out _ (List.getElem_mem hml);have N3 := N2.out;rw [hxe] at N3;have N3 := Lib.hid (N3.int hxw);clear hX hG hO hC Hnx N2 hb1 hr1 cx0 cx1 hxe;have cg : w2.cell? ⟨S.g, 0, none⟩ = some (.slice (some ⟨S.o, 0, none⟩) S.R.length S.cap) := G2.out.cell 0;have ci : w2.cell? ⟨S.o, i, none⟩ = some (.slice (some ⟨S.R[i].blk, 0, none⟩) S.R[i].xs.length S.R[i].cap) := by rw [O2.out.cell (by simpa using hi)]; simp [hi, Hd.hdr]
    have cx0 : w2.cell? ⟨wr.heap.size, 0, none⟩ = some (.bool px.1) := R2.out.cell 0;have cx1 : w2.cell? ⟨wr.heap.size, 1, none⟩ = some (.slice px.2.1 px.2.2.1 px.2.2.2) := R2.out.cell 1;have hg2 := G2.out.lt;have ho2 := O2.out.lt;refine wp_region_K ⟨8, fun q_ => [15, 16, 17, 18, 19, 20, 21, 22].getD q_ 0,
     fun q_ => [.val (.slice (some ⟨S.o, 0, none⟩) S.R.length S.cap), .val (.int .i64 (i : Int)), .val (.pointer (some ⟨S.o, i, none⟩)), .val (.slice (some ⟨S.R[i].blk, 0, none⟩) S.R[i].xs.length S.R[i].cap), .val (.int .i64 (m : Int)), .val (.agg #[.bool px.1, .slice px.2.1 px.2.2.1 px.2.2.2]), .int 0 (-S.R[i].xs[m]), .val (.pointer (some ⟨S.R[i].blk, m * 2, none⟩))].getD q_ .any,
     [],
     [(.agg #[.bool px.1, .slice px.2.1 px.2.2.1 px.2.2.2], .at_ 17592186044415 (S.R[i].xs[m]))],
     [],
     [], [(⟨S.g, 0, none⟩, .slice (some ⟨S.o, 0, none⟩) S.R.length S.cap), (⟨S.o, i, none⟩, .slice (some ⟨S.R[i].blk, 0, none⟩) S.R[i].xs.length S.R[i].cap), (⟨wr.heap.size, 0, none⟩, .bool px.1), (⟨wr.heap.size, 1, none⟩, .slice px.2.1 px.2.2.1 px.2.2.2)], []⟩ [15, 16, 17, 18, 19, 20, 21, 22] (w2.heap.size) (by kernel_rfl) (by kernel_rfl) (by kernel_rfl) (by kernel_rfl) (by kernel_rfl) ?_ ?_ ?_ ?_ ?_ ?_
    · intro p hp;rcases mc hp with rfl | hp
      · exact N3.out
      cases hp
    · intro p hp;cases hp
    · intro p hp;rcases mc hp with rfl | hp
      · refine ⟨cg, by show S.g < w2.heap.size; omega, ?_⟩;intro t ht;cases ht
      rcases mc hp with rfl | hp
      · refine ⟨ci, by show S.o < w2.heap.size; omega, ?_⟩;intro t ht;cases ht
      rcases mc hp with rfl | hp
      · refine ⟨cx0, by show wr.heap.size < w2.heap.size; omega, ?_⟩;intro t ht;cases ht
      rcases mc hp with rfl | hp
      · refine ⟨cx1, by show wr.heap.size < w2.heap.size; omega, ?_⟩;intro t ht;cases ht
      cases hp
    · intro t ht;cases ht
    · refine allc ?_ (allc ?_ (allc ?_ (allc ?_ (allc ?_ (allc ?_ (allc ?_ (allc ?_ alln)))))));any_goals (first | (intro L fx w' hJ hL hp hcl; have _ := hp0 hp (by decide +kernel); refine wps rfl fun K hK => ?_; go_simp; exact hJ.q hK (by kernel_rfl) rfl) | fail)
      · intro L fx w' hJ hL hp hcl;refine wps rfl fun K hK => ?_;have cl0 := (hJ.cells _ mm0).1;try dsimp only at cl0
        go_simp;exact hJ.q hK (by kernel_rfl) rfl
      · intro L fx w' hJ hL hp hcl;have e0 := hJ.pt 0 15 (.slice (some ⟨S.o, 0, none⟩) S.R.length S.cap) rfl rfl rfl (hp 0 (by decide));rw [e0] at hJ ⊢; clear e0;have e1 := hJ.pt 1 16 (.int .i64 (i : Int)) rfl rfl rfl (hp 1 (by decide));rw [e1] at hJ ⊢; clear e1;refine wps rfl fun K hK => ?_;go_simp;exact hJ.q hK (by kernel_rfl) rfl
      · intro L fx w' hJ hL hp hcl;have e2 := hJ.pt 2 17 (.pointer (some ⟨S.o, i, none⟩)) rfl rfl rfl (hp 2 (by decide));rw [e2] at hJ ⊢; clear e2;refine wps rfl fun K hK => ?_;have cl0 := (hJ.cells _ mm1).1;try dsimp only at cl0
        go_simp;exact hJ.q hK (by kernel_rfl) rfl
      · intro L fx w' hJ hL hp hcl;refine wps rfl fun K hK => ?_;have cl0 := (hJ.cells _ mm2).1;have cl1 := (hJ.cells _ mm3).1;try dsimp only at cl0 cl1
        go_simp;exact hJ.q hK (by kernel_rfl) rfl
      · intro L fx w' hJ hL hp hcl;have e5 := hJ.pt 5 20 (.agg #[.bool px.1, .slice px.2.1 px.2.2.1 px.2.2.2]) rfl rfl rfl (hp 5 (by decide));rw [e5] at hJ ⊢; clear e5;refine wps rfl fun K hK => ?_;go_simp;go_at_call 28;refine (INeg_c _ (S.R[i].xs[m]) _ (show IntAt w' _ _ _ from hJ.base _ mm0)).mono ?_;rintro e w4 ⟨⟨v5, rfl, h5⟩, hb4⟩;try dsimp only
        exact hK _ _ ⟨_, by kernel_rfl, hJ.gC 6 rfl (by kernel_rfl) hb4 (OwnI.mono h5 (Nat.zero_le _)) (by omega)⟩
      · intro L fx w' hJ hL hp hcl;have e3 := hJ.pt 3 18 (.slice (some ⟨S.R[i].blk, 0, none⟩) S.R[i].xs.length S.R[i].cap) rfl rfl rfl (hp 3 (by decide));rw [e3] at hJ ⊢; clear e3;have e4 := hJ.pt 4 19 (.int .i64 (m : Int)) rfl rfl rfl (hp 4 (by decide));rw [e4] at hJ ⊢; clear e4;refine wps rfl fun K hK => ?_;go_simp;exact hJ.q hK (by kernel_rfl) rfl
    · intro L x' w3 hL hJ;have hfr : Below w2.drew.heap.size w2.drew w3 := hJ.fr;have e11 : OwnI w3 0 (x' 21) (-S.R[i].xs[m]) := hJ.slot 6 (by show 6 < 8; decide) (hL 6 (by show 6 < 8; decide));have e12 : x' 22 = .pointer (some ⟨S.R[i].blk, m * 2, none⟩) := hJ.slot 7 (by show 7 < 8; decide) (hL 7 (by show 7 < 8; decide));obtain ⟨pz, hpz⟩ := NumAt.parts e11.num;rw [hpz] at e11;unfold av at hpz;rw [patchX (x := x') (d := 21) hpz];rw [patchX (x := updX x' 21 (.agg #[.bool pz.1, .slice pz.2.1 pz.2.2.1 pz.2.2.2])) (d := 22) (v := .pointer (some ⟨S.R[i].blk, m * 2, none⟩)) e12];clear hJ hL cg ci cx0 cx1;have X3 := Lib.hid (RowN.below (w := w2.drew) X2.out hfr);have G3 := Lib.hid (RowAt.below (w := w2.drew) G2.out hfr G2.out.lt);have O3 := Lib.hid (RowP.below (w := w2.drew) O2.out hfr O2.out.lt);have C3 := Lib.hid (C2.out.drew.below hfr);obtain ⟨pq, q0, q1, _⟩ := X3.out.get hmx;have q2 := X3.out.free (m * 2);have q3 := X3.out.free (m * 2 + 1);refine wps rfl fun K hK => ?_;go_simp;refine hK _ _ ⟨⟨updX (updX x' 21 (.agg #[.bool pz.1, .slice pz.2.1 pz.2.2.1 pz.2.2.2])) 22 (.pointer (some ⟨S.R[i].blk, m * 2, none⟩)), by kernel_rfl⟩, ?_⟩;clear hK q0 q1 q2 q3;go_wp2;go_roundw
      case rel =>
       exact ⟨m + 1, _, by omega, by go_num, HA.out.next hml, Lib.hid (X3.out.set m e11.num), Lib.hid ((G3.out.other (by show S.g ≠ S.R[i].blk; exact hgb) _).other (by show S.g ≠ S.R[i].blk; exact hgb) _), Lib.hid ((O3.out.other (by show S.o ≠ S.R[i].blk; exact hob) _).other (by show S.o ≠ S.R[i].blk; exact hob) _), Lib.hid ((C3.out.set (p := ⟨S.R[i].blk, m * 2, none⟩) rfl _).set (p := ⟨S.R[i].blk, m * 2 + 1, none⟩) rfl _)⟩
      case measure => simp [intOf]; omega
  · obtain rfl : m = S.R[i].xs.length := by omega
    have he := HA.out.all;have HE := Lib.hid he;clear he;go_wp2;refine bodyPost_end (results_none (by kernel_rfl) _ _ _) rfl ?_;have hR4 := hX.out;rw [HE.out] at hR4;have hCo : Chg S.rws w wr := hC.out.mono (fun k _ e => .inr ⟨S.R[i], List.getElem_mem hi, e.symm⟩);have hM4 := HL.out.mat.setXs hi (by simp [negRow]) hC.out hR4;exact ⟨rfl, HL.out.rows hCo hM4 (by unfold turnR; rw [setXs_length]), hCo⟩
attribute [local go_sem] run_store_fn
attribute [local go_sem] run_store_fn
theorem LadAt.below {w w' : World} {S : LSt} (h : LadAt w S) (hb : Below w.heap.size w w') : LadAt w' S :=
 ⟨h.lad.below hb h.lad.lt, h.sides.below hb h.sides.lt, h.box.below hb h.box.lt, h.mat.below hb, fun t ht => by obtain ⟨V, hV⟩ := h.ext t ht; exact ⟨V, hV.sd.below hb, hV.box3.below hb hV.box3.lt, hV.rel, hV.own, hV.apart⟩⟩
theorem Chg.ownAll {S : LSt} {w w' : World} (h : Chg S.rws w w') : Chg S.own w w' := h.mono (fun _ _ e => .inl e)
theorem SdAt.keepP {w w' : World} {S : LSt} (h : SdAt w S) (hc : Chg S.rws w w') {b : Nat} {t : TypeId} {cs : List Value} (hb : RowP w b t cs) (h1 : t ≠ 33) (h2 : t ≠ 22) : RowP w' b t cs := by
 obtain ⟨tl, n, hr⟩ := hb;exact ⟨tl, n, h.keep hc hr h1 h2⟩
theorem LSt.hdr_len {S : LSt} {R : List Hd} (h : R.length = S.R.length) : (S.withR R).hdr = S.hdr := by unfold LSt.hdr LSt.withR; rw [h]
theorem LadAt.own_lt {w : World} {S : LSt} (h : LadAt w S) (k : Nat) (hk : S.own k) : k < w.heap.size := by
 have key : ∀ {S : LSt}, SdAt w S -> S.rws k -> k < w.heap.size := fun hs e => by
  rcases e with rfl | ⟨r, hr, rfl⟩
  · exact hs.mat.out.lt
  · exact (hs.mat.row r hr).lt
 rcases hk with e | ⟨t, ht, e⟩
 · exact key h.sd e
 · obtain ⟨V, hV⟩ := h.ext t ht;exact key hV.sd ((hV.own k).1 e)
structure TwoS.Ok (t : TwoS) : Prop where
 len : ∀ R V, t.rel R V -> V.length = R.length
 sh : ∀ R V, t.rel R V -> ∀ r ∈ V, ∀ q ∈ V, r.xs.length = q.xs.length
 wide : ∀ R V, t.rel R V -> ∀ r ∈ V, r.xs.length <= 4611686018427387903
 bd : ∀ R V, t.rel R V -> t.fit R -> ∀ r ∈ V, ∀ x ∈ r.xs, wlen x.natAbs <= 4398046511103
 swap : ∀ R V i j (hi : i < R.length) (hj : j < R.length) (hi' : i < V.length) (hj' : j < V.length), i ≠ j -> t.rel R V -> t.rel (swapR R i j hi hj) (swapR V i j hi' hj')
 turn : ∀ R V i (hi : i < R.length) (hi' : i < V.length), t.rel R V -> t.rel (turnR R i hi) (turnR V i hi')
 add : ∀ R V i j k (hi : i < R.length) (hj : j < R.length) (hi' : i < V.length) (hj' : j < V.length), i ≠ j -> t.rel R V -> t.rel (addR R i j k hi hj) (addR V j i (-k) hj' hi')
 mix : ∀ R V i j a b c d (hi : i < R.length) (hj : j < R.length) (hi' : i < V.length) (hj' : j < V.length), i ≠ j -> a * d - b * c = 1 -> t.rel R V -> t.rel (mixR R i j a b c d hi hj) (mixR V i j d (-c) (-b) a hi' hj')
 no : False
def LSt.good (S : LSt) : Prop := ∀ t, S.two = some t -> t.Ok
def LSt.okR (S : LSt) : Prop := ∀ t, S.two = some t -> t.fit S.R
theorem LadAt.fns {w : World} {S : LSt} (h : LadAt w S) : (∀ k, k < 4 -> w.cell? ⟨S.sb, k, none⟩ = (likeF S.g)[k]?) /\ ∀ t, S.two = some t -> ∀ k, k < 4 -> w.cell? ⟨S.sb, 4 + k, none⟩ = (agF t.g t.g3)[k]? := by
 refine ⟨fun k hk => ?_, fun t ht k hk => ?_⟩
 · rw [h.sides.cell (by simp [likeF]; omega), List.getElem?_append_left (by simp [likeF]; omega)]
 · have e : S.more = agF t.g t.g3 := by unfold LSt.more; rw [ht]
   rw [h.sides.cell (by rw [e]; simp [likeF, agF]; omega), List.getElem?_append_right (by simp [likeF]), e];simp [likeF]
theorem LadAt.one {w : World} {S : LSt} (h : LadAt w S) (hS : S.two = none) : w.cell? ⟨S.lb, 1, none⟩ = some (.slice (some ⟨S.sb, 0, none⟩) 1 1) := by
 have := h.lad.cell 1;simpa [LSt.ns, LSt.cs, hS] using this
theorem LadAt.upd {w w' : World} {S : LSt} {R : List Hd} (h : LadAt w S) (hS : S.two = none) (hs : SdAt w' (S.withR R)) (hc : Chg S.rws w w') (hl : R.length = S.R.length) : LadAt w' (S.withR R) :=
 ⟨by rw [LSt.hdr_len hl]; exact h.sd.keep hc h.lad (by decide) (by decide), h.sd.keepP hc h.sides (by decide) (by decide), hs.box, hs.mat, fun t ht => by rw [show (S.withR R).two = S.two from rfl, hS] at ht; cases ht⟩
theorem rws_blk {S : LSt} {R : List Hd} (h : ∀ b, b ∈ R.map Hd.blk ↔ b ∈ S.R.map Hd.blk) (k : Nat) : (S.withR R).rws k ↔ S.rws k := by
 have hm : ∀ Q : List Hd, (∃ h ∈ Q, h.blk = k) ↔ k ∈ Q.map Hd.blk := fun Q => by simp
 show (k = S.o ∨ ∃ h ∈ R, h.blk = k) ↔ (k = S.o ∨ ∃ h ∈ S.R, h.blk = k);rw [hm, hm, h]
theorem swapR_blk {R : List Hd} {i j : Nat} (hi : i < R.length) (hj : j < R.length) (b : Nat) : b ∈ (swapR R i j hi hj).map Hd.blk ↔ b ∈ R.map Hd.blk := by
 constructor
 · intro h;obtain ⟨q, hq, rfl⟩ := List.mem_map.1 h;obtain ⟨m, hm, rfl⟩ := List.getElem_of_mem hq;rw [swapR_length] at hm;rw [swapR_get hi hj hm];exact List.mem_map.2 ⟨_, List.getElem_mem _, rfl⟩
 · intro h;obtain ⟨q, hq, rfl⟩ := List.mem_map.1 h;obtain ⟨m, hm, rfl⟩ := List.getElem_of_mem hq;have hs : swp i j m < R.length := swp_lt hi hj hm;have e : swp i j (swp i j m) = m := by unfold swp; (repeat' split) <;> omega
   refine List.mem_map.2 ⟨(swapR R i j hi hj)[swp i j m]'(by rw [swapR_length]; exact hs), List.getElem_mem _, ?_⟩;rw [swapR_get hi hj hs];congr 2
theorem setXs_blkm {R : List Hd} {i : Nat} {xs : List Int} (b : Nat) : b ∈ (setXs R i xs).map Hd.blk ↔ b ∈ R.map Hd.blk := by rw [setXs_blk]
theorem addRow_zero {xs ys : List Int} (h : xs.length = ys.length) : addRow 0 xs ys = xs := by
 refine List.ext_getElem (by simp [addRow, h]) fun j h1 h2 => ?_;simp [addRow]
theorem setXs_self {R : List Hd} {i : Nat} (hi : i < R.length) : setXs R i R[i].xs = R := by
 refine List.ext_getElem (by simp [setXs_length]) fun j h1 h2 => ?_;rw [setXs_get h2];split
 · rename_i e; subst e; rfl
 · rfl
set_option maxRecDepth 100000 in
set_option maxHeartbeats 4000000 in
theorem MSwap_c0 (S : LSt) (i j : Nat) (w : World) (h : LadAt w S) (hi : i < S.R.length) (hj : j < S.R.length) (hij : i ≠ j) (hS : S.two = none) :
 Calls Tryz.prog 78 #[.pointer (some ⟨S.lb, 0, none⟩), .int .i64 (i : Int), .int .i64 (j : Int)] w fun e w' => e = .returned (.tuple #[]) /\ LadAt w' (S.withR (swapR S.R i j hi hj)) /\ Chg S.own w w' := by
 have c1 : w.cell? ⟨S.lb, 1, none⟩ = some (.slice (some ⟨S.sb, 0, none⟩) 1 1) := h.one hS;have HLA := Lib.hid h; clear h;have HCA := Lib.hid (Chg.refl S.own w);go_enter Tryz.func78, Tryz.ntmps78;go_wp2;go_loopw [13] (fun ct_ wr => (ct_ = .int .i64 0 /\ Hid (LadAt wr S) /\ Hid (Chg S.own w wr)) ∨ (ct_ = .int .i64 1 /\ Hid (LadAt wr (S.withR (swapR S.R i j hi hj))) /\ Hid (Chg S.own w wr))) (fun c _ => 1 - (intOf c).toNat)
 case atStart => exact .inl ⟨rfl, HLA, HCA⟩
 case round =>
  clear c1;rcases hrel with ⟨rfl, hL, hC⟩ | ⟨rfl, hL, hC⟩
  · skip;have hfn := hL.out.fns.1;have s0 : wr.cell? ⟨S.sb, 0, none⟩ = some (.func (.func 87) #[] #[.pointer (some ⟨S.g, 0, none⟩)]) := hfn 0 (by decide);have s1 : wr.cell? ⟨S.sb, 1, none⟩ = some (.func (.func 88) #[] #[.pointer (some ⟨S.g, 0, none⟩)]) := hfn 1 (by decide);have s2 : wr.cell? ⟨S.sb, 2, none⟩ = some (.func (.func 89) #[] #[.pointer (some ⟨S.g, 0, none⟩)]) := hfn 2 (by decide);have s3 : wr.cell? ⟨S.sb, 3, none⟩ = some (.func (.func 91) #[] #[.pointer (some ⟨S.g, 0, none⟩)]) := hfn 3 (by decide);clear hfn;have hb1 : Below wr.heap.size wr (wr.alloc (.cells #[.func (.func 87) #[] #[.pointer (some ⟨S.g, 0, none⟩)], .func (.func 88) #[] #[.pointer (some ⟨S.g, 0, none⟩)], .func (.func 89) #[] #[.pointer (some ⟨S.g, 0, none⟩)], .func (.func 91) #[] #[.pointer (some ⟨S.g, 0, none⟩)]] 108)) := (Below.refl _ _).alloc (Nat.le_refl _) _

    have hL1 := Lib.hid (hL.out.below hb1);have hC1 := Lib.hid (hC.out.below hb1);have HB1 := Lib.hid hb1;go_wp2_with fail
    refine (LikeSwap_c S i j _ hL1.out.sd hi hj hij).mono ?_;rintro e w4 ⟨rfl, hL4, hC4⟩;have HL4 := Lib.hid (hL1.out.upd hS hL4 hC4 (swapR_length hi hj));have HC4 := Lib.hid (hC1.out.trans hC4.ownAll);clear hL4 hC4 s0 s1 s2 s3;go_wp2;go_roundw
    case rel => exact .inr ⟨by go_num, HL4, HC4⟩
    case measure => simp [intOf]
  · go_wp2;refine bodyPost_end (results_none (by kernel_rfl) _ _ _) rfl ?_;exact ⟨rfl, hL.out, hC.out⟩
theorem MSwap_c (S : LSt) (i j : Nat) (w : World) (h : LadAt w S) (hi : i < S.R.length) (hj : j < S.R.length) (hij : i ≠ j) (hG : S.good) :
 Calls Tryz.prog 78 #[.pointer (some ⟨S.lb, 0, none⟩), .int .i64 (i : Int), .int .i64 (j : Int)] w fun e w' => e = .returned (.tuple #[]) /\ LadAt w' (S.withR (swapR S.R i j hi hj)) /\ Chg S.own w w' := by
 rcases hS : S.two with _ | t
 · exact MSwap_c0 S i j w h hi hj hij hS
 · exact (hG t hS).no.elim
set_option maxRecDepth 100000 in
set_option maxHeartbeats 4000000 in
theorem MTurn_c0 (S : LSt) (i : Nat) (w : World) (h : LadAt w S) (hi : i < S.R.length) (hxL : ∀ x ∈ S.R[i].xs, wlen x.natAbs <= 17592186044415) (hlen : S.R[i].xs.length <= 4611686018427387903) (hS : S.two = none) :
 Calls Tryz.prog 96 #[.pointer (some ⟨S.lb, 0, none⟩), .int .i64 (i : Int)] w fun e w' => e = .returned (.tuple #[]) /\ LadAt w' (S.withR (turnR S.R i hi)) /\ Chg S.own w w' := by
 have c1 : w.cell? ⟨S.lb, 1, none⟩ = some (.slice (some ⟨S.sb, 0, none⟩) 1 1) := h.one hS;have HXL := Lib.hid hxL; clear hxL;have HLA := Lib.hid h; clear h;have HCA := Lib.hid (Chg.refl S.own w);go_enter Tryz.func96, Tryz.ntmps96;go_wp2;go_loopw [11] (fun ct_ wr => (ct_ = .int .i64 0 /\ Hid (LadAt wr S) /\ Hid (Chg S.own w wr)) ∨ (ct_ = .int .i64 1 /\ Hid (LadAt wr (S.withR (turnR S.R i hi))) /\ Hid (Chg S.own w wr))) (fun c _ => 1 - (intOf c).toNat)
 case atStart => exact .inl ⟨rfl, HLA, HCA⟩
 case round =>
  clear c1;rcases hrel with ⟨rfl, hL, hC⟩ | ⟨rfl, hL, hC⟩
  · skip;have hfn := hL.out.fns.1;have s0 : wr.cell? ⟨S.sb, 0, none⟩ = some (.func (.func 87) #[] #[.pointer (some ⟨S.g, 0, none⟩)]) := hfn 0 (by decide);have s1 : wr.cell? ⟨S.sb, 1, none⟩ = some (.func (.func 88) #[] #[.pointer (some ⟨S.g, 0, none⟩)]) := hfn 1 (by decide);have s2 : wr.cell? ⟨S.sb, 2, none⟩ = some (.func (.func 89) #[] #[.pointer (some ⟨S.g, 0, none⟩)]) := hfn 2 (by decide);have s3 : wr.cell? ⟨S.sb, 3, none⟩ = some (.func (.func 91) #[] #[.pointer (some ⟨S.g, 0, none⟩)]) := hfn 3 (by decide);clear hfn;have hb1 : Below wr.heap.size wr (wr.alloc (.cells #[.func (.func 87) #[] #[.pointer (some ⟨S.g, 0, none⟩)], .func (.func 88) #[] #[.pointer (some ⟨S.g, 0, none⟩)], .func (.func 89) #[] #[.pointer (some ⟨S.g, 0, none⟩)], .func (.func 91) #[] #[.pointer (some ⟨S.g, 0, none⟩)]] 108)) := (Below.refl _ _).alloc (Nat.le_refl _) _

    have hL1 := Lib.hid (hL.out.below hb1);have hC1 := Lib.hid (hC.out.below hb1);have HB1 := Lib.hid hb1;go_wp2_with fail
    refine (LikeTurn_c S i _ hL1.out.sd hi HXL.out hlen).mono ?_;rintro e w4 ⟨rfl, hL4, hC4⟩;have HL4 := Lib.hid (hL1.out.upd hS hL4 hC4 (by unfold turnR; rw [setXs_length]));have HC4 := Lib.hid (hC1.out.trans hC4.ownAll);clear hL4 hC4 s0 s1 s2 s3;go_wp2;go_roundw
    case rel => exact .inr ⟨by go_num, HL4, HC4⟩
    case measure => simp [intOf]
  · go_wp2;refine bodyPost_end (results_none (by kernel_rfl) _ _ _) rfl ?_;exact ⟨rfl, hL.out, hC.out⟩
theorem MTurn_c (S : LSt) (i : Nat) (w : World) (h : LadAt w S) (hi : i < S.R.length) (hxL : ∀ x ∈ S.R[i].xs, wlen x.natAbs <= 17592186044415) (hlen : S.R[i].xs.length <= 4611686018427387903) (hG : S.good) (hF : S.okR) :
 Calls Tryz.prog 96 #[.pointer (some ⟨S.lb, 0, none⟩), .int .i64 (i : Int)] w fun e w' => e = .returned (.tuple #[]) /\ LadAt w' (S.withR (turnR S.R i hi)) /\ Chg S.own w w' := by
 rcases hS : S.two with _ | t
 · exact MTurn_c0 S i w h hi hxL hlen hS
 · exact (hG t hS).no.elim
set_option maxRecDepth 100000 in
set_option maxHeartbeats 4000000 in
theorem MAdd_c0 (S : LSt) (i j : Nat) (kv : Value) (k : Int) (LA LB : Nat) (w : World) (h : LadAt w S) (hi : i < S.R.length) (hj : j < S.R.length) (hij : i ≠ j) (hK : IntAt w LA kv k) (hl : S.R[i].xs.length = S.R[j].xs.length) (hxL : ∀ x ∈ S.R[i].xs, wlen x.natAbs <= 17592186044415) (hyL : ∀ y ∈ S.R[j].xs, wlen y.natAbs <= LB) (hLab : LA + LB <= 17592186044415) (hlen : S.R[i].xs.length <= 4611686018427387903) (hS : S.two = none) :
 Calls Tryz.prog 99 #[.pointer (some ⟨S.lb, 0, none⟩), .int .i64 (i : Int), .int .i64 (j : Int), kv] w fun e w' => e = .returned (.tuple #[]) /\ LadAt w' (S.withR (addR S.R i j k hi hj)) /\ Chg S.own w w' := by
 obtain ⟨kp, rfl⟩ := hK.parts;have HXL := Lib.hid hxL; clear hxL;have HYL := Lib.hid hyL; clear hyL;have Hl := Lib.hid hl; clear hl;have HK := Lib.hid hK; clear hK;have HL := Lib.hid h; clear h;go_enter Tryz.func99, Tryz.ntmps99;unfold av at *;go_wp2_with fail
 have hb0 : Below w.heap.size w (w.alloc (.cells #[.bool kp.1, .slice kp.2.1 kp.2.2.1 kp.2.2.2] 33)) := (Below.refl _ _).alloc (Nat.le_refl _) _;have hr0 := RowAt.new w #[.bool kp.1, .slice kp.2.1 kp.2.2.1 kp.2.2.2] 33;generalize w.alloc (.cells #[.bool kp.1, .slice kp.2.1 kp.2.2.1 kp.2.2.2] 33) = wB at *;have hKB := HK.out.below hb0;refine (ISign_c _ k _ (hKB.mono (by omega))).mono ?_;rintro e wA ⟨rfl, hbA⟩;have HLA := Lib.hid ((HL.out.below hb0).below hbA);have HCA := Lib.hid ((Chg.of_below (S := S.own) hb0).below hbA);have HKA := Lib.hid (hKB.below hbA);have HRA := Lib.hid (hr0.below hbA hr0.lt);have hsA : w.heap.size < wA.heap.size := HRA.out.lt;have hso : ¬ S.own w.heap.size := by
  exact fun e => absurd (HL.out.own_lt _ e) (Nat.lt_irrefl _)
 have Hso := Lib.hid hso; clear hso;clear hb0 hr0 hKB hbA;by_cases hk0 : k = 0
 · have hz : zsign k = 0 := zsign_beq.2 hk0;rw [hz];have HK0 := Lib.hid hk0; clear hk0 hz;go_wp2;refine bodyPost_ret (results_none (by kernel_rfl) _ _ _) rfl ?_;have e : addR S.R i j k hi hj = S.R := by unfold addR; rw [HK0.out, addRow_zero Hl.out, setXs_self hi]
   rw [e];exact ⟨rfl, HLA.out, HCA.out⟩
 have hn0 : ¬ zsign k = 0 := fun h => hk0 (zsign_beq.1 h);obtain ⟨s, hs⟩ : ∃ s, zsign k = s := ⟨_, rfl⟩;rw [hs] at hn0 ⊢;have hb0 : (s == 0) = false := by simpa using hn0
 clear hs hk0;have c1 : wA.cell? ⟨S.lb, 1, none⟩ = some (.slice (some ⟨S.sb, 0, none⟩) 1 1) := HLA.out.one hS;go_wp2;clear hb0 hn0;go_loopw [18] (fun ct_ wr => (ct_ = .int .i64 0 /\ Hid (LadAt wr S) /\ Hid (Chg S.own w wr) /\ Hid (IntAt wr LA (av kp) k) /\ Hid (RowAt wr w.heap.size 33 [.bool kp.1, .slice kp.2.1 kp.2.2.1 kp.2.2.2])) ∨ (ct_ = .int .i64 1 /\ Hid (LadAt wr (S.withR (addR S.R i j k hi hj))) /\ Hid (Chg S.own w wr))) (fun c _ => 1 - (intOf c).toNat)
 case atStart => exact .inl ⟨rfl, HLA, HCA, HKA, HRA⟩
 case round =>
  clear c1;rcases hrel with ⟨rfl, hL, hC, hKr, hRr⟩ | ⟨rfl, hL, hC⟩
  · skip;have hfn := hL.out.fns.1;have s0 : wr.cell? ⟨S.sb, 0, none⟩ = some (.func (.func 87) #[] #[.pointer (some ⟨S.g, 0, none⟩)]) := hfn 0 (by decide);have s1 : wr.cell? ⟨S.sb, 1, none⟩ = some (.func (.func 88) #[] #[.pointer (some ⟨S.g, 0, none⟩)]) := hfn 1 (by decide);have s2 : wr.cell? ⟨S.sb, 2, none⟩ = some (.func (.func 89) #[] #[.pointer (some ⟨S.g, 0, none⟩)]) := hfn 2 (by decide);have s3 : wr.cell? ⟨S.sb, 3, none⟩ = some (.func (.func 91) #[] #[.pointer (some ⟨S.g, 0, none⟩)]) := hfn 3 (by decide);clear hfn;have hb1 : Below wr.heap.size wr (wr.alloc (.cells #[.func (.func 87) #[] #[.pointer (some ⟨S.g, 0, none⟩)], .func (.func 88) #[] #[.pointer (some ⟨S.g, 0, none⟩)], .func (.func 89) #[] #[.pointer (some ⟨S.g, 0, none⟩)], .func (.func 91) #[] #[.pointer (some ⟨S.g, 0, none⟩)]] 108)) := (Below.refl _ _).alloc (Nat.le_refl _) _;have hK1 := Lib.hid (hKr.out.below hb1);have hR1 := hRr.out.below hb1 hRr.out.lt;have k0 := hR1.cell 0;have k1 := hR1.cell 1;try dsimp only at k0 k1
    have hL1 := Lib.hid (hL.out.below hb1);have hC1 := Lib.hid (hC.out.below hb1);have HB1 := Lib.hid hb1;go_wp2_with fail
    refine (LikeAdd_c S i j (av kp) k LA LB _ hL1.out.sd hi hj hij hK1.out Hl.out HXL.out HYL.out hLab hlen).mono ?_;rintro e w4 ⟨rfl, hL4, hC4⟩;have HL4 := Lib.hid (hL1.out.upd hS hL4 hC4 (by unfold addR; rw [setXs_length]));have HC4 := Lib.hid (hC1.out.trans hC4.ownAll);clear hL4 hC4 s0 s1 s2 s3;go_wp2;go_roundw
    case rel => exact .inr ⟨by go_num, HL4, HC4⟩
    case measure => simp [intOf]
  · go_wp2;refine bodyPost_end (results_none (by kernel_rfl) _ _ _) rfl ?_;exact ⟨rfl, hL.out, hC.out⟩
theorem MAdd_c (S : LSt) (i j : Nat) (kv : Value) (k : Int) (LA LB : Nat) (w : World) (h : LadAt w S) (hi : i < S.R.length) (hj : j < S.R.length) (hij : i ≠ j) (hK : IntAt w LA kv k) (hl : S.R[i].xs.length = S.R[j].xs.length) (hxL : ∀ x ∈ S.R[i].xs, wlen x.natAbs <= 17592186044415) (hyL : ∀ y ∈ S.R[j].xs, wlen y.natAbs <= LB) (hLab : LA + LB <= 17592186044415) (hlen : S.R[i].xs.length <= 4611686018427387903) (hG : S.good) (hF : S.okR) (hLA2 : LA <= 13194139533312) :
 Calls Tryz.prog 99 #[.pointer (some ⟨S.lb, 0, none⟩), .int .i64 (i : Int), .int .i64 (j : Int), kv] w fun e w' => e = .returned (.tuple #[]) /\ LadAt w' (S.withR (addR S.R i j k hi hj)) /\ Chg S.own w w' := by
 rcases hS : S.two with _ | t
 · exact MAdd_c0 S i j kv k LA LB w h hi hj hij hK hl hxL hyL hLab hlen hS
 · exact (hG t hS).no.elim
set_option maxRecDepth 100000 in
set_option maxHeartbeats 4000000 in
theorem MMix_c0 (S : LSt) (i j : Nat) (mp mq mr ms : P4) (a b c d : Int) (LA LB : Nat) (w : World) (h : LadAt w S) (hi : i < S.R.length) (hj : j < S.R.length) (hij : i ≠ j) (hA : IntAt w LA (av mp) a) (hB : IntAt w LA (av mq) b) (hC : IntAt w LA (av mr) c) (hD : IntAt w LA (av ms) d) (hl : S.R[i].xs.length = S.R[j].xs.length) (hxL : ∀ x ∈ S.R[i].xs, wlen x.natAbs <= LB) (hyL : ∀ y ∈ S.R[j].xs, wlen y.natAbs <= LB) (hLab : LA + LB <= 17592186044415) (hlen : S.R[i].xs.length <= 4611686018427387903) (hS : S.two = none) :
 Calls Tryz.prog 101 #[.pointer (some ⟨S.lb, 0, none⟩), .int .i64 (i : Int), .int .i64 (j : Int), .agg #[.bool mp.1, .slice mp.2.1 mp.2.2.1 mp.2.2.2, .bool mq.1, .slice mq.2.1 mq.2.2.1 mq.2.2.2, .bool mr.1, .slice mr.2.1 mr.2.2.1 mr.2.2.2, .bool ms.1, .slice ms.2.1 ms.2.2.1 ms.2.2.2]] w fun e w' => e = .returned (.tuple #[]) /\ LadAt w' (S.withR (mixR S.R i j a b c d hi hj)) /\ Chg S.own w w' := by
 have HXL := Lib.hid hxL; clear hxL;have HYL := Lib.hid hyL; clear hyL;have Hl := Lib.hid hl; clear hl;have HI : Hid (IntAt w LA (av mp) a /\ IntAt w LA (av mq) b /\ IntAt w LA (av mr) c /\ IntAt w LA (av ms) d) := Lib.hid ⟨hA, hB, hC, hD⟩;clear hA hB hC hD;have HL := Lib.hid h; clear h;have Hso : Hid (¬ S.own w.heap.size) := Lib.hid (fun e => absurd (HL.out.own_lt _ e) (Nat.lt_irrefl _));have hb0 : Below w.heap.size w (w.alloc (.cells #[.bool mp.1, .slice mp.2.1 mp.2.2.1 mp.2.2.2, .bool mq.1, .slice mq.2.1 mq.2.2.1 mq.2.2.2, .bool mr.1, .slice mr.2.1 mr.2.2.1 mr.2.2.2, .bool ms.1, .slice ms.2.1 ms.2.2.1 ms.2.2.2] 116)) := (Below.refl _ _).alloc (Nat.le_refl _) _;have hr0 := RowAt.new w #[.bool mp.1, .slice mp.2.1 mp.2.2.1 mp.2.2.2, .bool mq.1, .slice mq.2.1 mq.2.2.1 mq.2.2.2, .bool mr.1, .slice mr.2.1 mr.2.2.1 mr.2.2.2, .bool ms.1, .slice ms.2.1 ms.2.2.1 ms.2.2.2] 116;have HLA := Lib.hid (HL.out.below hb0);have HCA := Lib.hid (Chg.of_below (S := S.own) hb0);have HIA : Hid (IntAt (w.alloc (.cells #[.bool mp.1, .slice mp.2.1 mp.2.2.1 mp.2.2.2, .bool mq.1, .slice mq.2.1 mq.2.2.1 mq.2.2.2, .bool mr.1, .slice mr.2.1 mr.2.2.1 mr.2.2.2, .bool ms.1, .slice ms.2.1 ms.2.2.1 ms.2.2.2] 116)) LA (av mp) a /\ IntAt (w.alloc (.cells #[.bool mp.1, .slice mp.2.1 mp.2.2.1 mp.2.2.2, .bool mq.1, .slice mq.2.1 mq.2.2.1 mq.2.2.2, .bool mr.1, .slice mr.2.1 mr.2.2.1 mr.2.2.2, .bool ms.1, .slice ms.2.1 ms.2.2.1 ms.2.2.2] 116)) LA (av mq) b /\ IntAt (w.alloc (.cells #[.bool mp.1, .slice mp.2.1 mp.2.2.1 mp.2.2.2, .bool mq.1, .slice mq.2.1 mq.2.2.1 mq.2.2.2, .bool mr.1, .slice mr.2.1 mr.2.2.1 mr.2.2.2, .bool ms.1, .slice ms.2.1 ms.2.2.1 ms.2.2.2] 116)) LA (av mr) c /\ IntAt (w.alloc (.cells #[.bool mp.1, .slice mp.2.1 mp.2.2.1 mp.2.2.2, .bool mq.1, .slice mq.2.1 mq.2.2.1 mq.2.2.2, .bool mr.1, .slice mr.2.1 mr.2.2.1 mr.2.2.2, .bool ms.1, .slice ms.2.1 ms.2.2.1 ms.2.2.2] 116)) LA (av ms) d) := Lib.hid ⟨HI.out.1.below hb0, HI.out.2.1.below hb0, HI.out.2.2.1.below hb0, HI.out.2.2.2.below hb0⟩;have HRA := Lib.hid hr0;have c1 : (w.alloc (.cells #[.bool mp.1, .slice mp.2.1 mp.2.2.1 mp.2.2.2, .bool mq.1, .slice mq.2.1 mq.2.2.1 mq.2.2.2, .bool mr.1, .slice mr.2.1 mr.2.2.1 mr.2.2.2, .bool ms.1, .slice ms.2.1 ms.2.2.1 ms.2.2.2] 116)).cell? ⟨S.lb, 1, none⟩ = some (.slice (some ⟨S.sb, 0, none⟩) 1 1) := HLA.out.one hS;clear hb0 hr0;go_enter Tryz.func101, Tryz.ntmps101;go_wp2;generalize w.alloc (.cells #[.bool mp.1, .slice mp.2.1 mp.2.2.1 mp.2.2.2, .bool mq.1, .slice mq.2.1 mq.2.2.1 mq.2.2.2, .bool mr.1, .slice mr.2.1 mr.2.2.1 mr.2.2.2, .bool ms.1, .slice ms.2.1 ms.2.2.1 ms.2.2.2] 116) = wA at *;go_loopw [15] (fun ct_ wr => (ct_ = .int .i64 0 /\ Hid (LadAt wr S) /\ Hid (Chg S.own w wr) /\ Hid (IntAt wr LA (av mp) a /\ IntAt wr LA (av mq) b /\ IntAt wr LA (av mr) c /\ IntAt wr LA (av ms) d) /\ Hid (RowAt wr w.heap.size 116 [.bool mp.1, .slice mp.2.1 mp.2.2.1 mp.2.2.2, .bool mq.1, .slice mq.2.1 mq.2.2.1 mq.2.2.2, .bool mr.1, .slice mr.2.1 mr.2.2.1 mr.2.2.2, .bool ms.1, .slice ms.2.1 ms.2.2.1 ms.2.2.2])) ∨ (ct_ = .int .i64 1 /\ Hid (LadAt wr (S.withR (mixR S.R i j a b c d hi hj))) /\ Hid (Chg S.own w wr))) (fun c _ => 1 - (intOf c).toNat)
 case atStart => exact .inl ⟨rfl, HLA, HCA, HIA, HRA⟩
 case round =>
  clear c1;rcases hrel with ⟨rfl, hL, hC, hIr, hRr⟩ | ⟨rfl, hL, hC⟩
  · skip;have hfn := hL.out.fns.1;have s0 : wr.cell? ⟨S.sb, 0, none⟩ = some (.func (.func 87) #[] #[.pointer (some ⟨S.g, 0, none⟩)]) := hfn 0 (by decide);have s1 : wr.cell? ⟨S.sb, 1, none⟩ = some (.func (.func 88) #[] #[.pointer (some ⟨S.g, 0, none⟩)]) := hfn 1 (by decide);have s2 : wr.cell? ⟨S.sb, 2, none⟩ = some (.func (.func 89) #[] #[.pointer (some ⟨S.g, 0, none⟩)]) := hfn 2 (by decide);have s3 : wr.cell? ⟨S.sb, 3, none⟩ = some (.func (.func 91) #[] #[.pointer (some ⟨S.g, 0, none⟩)]) := hfn 3 (by decide);clear hfn;have hb1 : Below wr.heap.size wr (wr.alloc (.cells #[.func (.func 87) #[] #[.pointer (some ⟨S.g, 0, none⟩)], .func (.func 88) #[] #[.pointer (some ⟨S.g, 0, none⟩)], .func (.func 89) #[] #[.pointer (some ⟨S.g, 0, none⟩)], .func (.func 91) #[] #[.pointer (some ⟨S.g, 0, none⟩)]] 108)) := (Below.refl _ _).alloc (Nat.le_refl _) _;have hA1 := Lib.hid (hIr.out.1.below hb1);have hB1 := Lib.hid (hIr.out.2.1.below hb1);have hC1' := Lib.hid (hIr.out.2.2.1.below hb1);have hD1 := Lib.hid (hIr.out.2.2.2.below hb1);have hR1 := hRr.out.below hb1 hRr.out.lt;have k0 := hR1.cell 0;have k1 := hR1.cell 1;have k2 := hR1.cell 2;have k3 := hR1.cell 3;have k4 := hR1.cell 4;have k5 := hR1.cell 5;have k6 := hR1.cell 6;have k7 := hR1.cell 7;have hL1 := Lib.hid (hL.out.below hb1);have hC1 := Lib.hid (hC.out.below hb1);have HB1 := Lib.hid hb1;go_wp2_with fail
    refine (LikeMix_c S i j mp mq mr ms a b c d LA LB _ hL1.out.sd hi hj hij hA1.out hB1.out hC1'.out hD1.out Hl.out HXL.out HYL.out hLab hlen).mono ?_;rintro e w4 ⟨rfl, hL4, hC4⟩;have HL4 := Lib.hid (hL1.out.upd hS hL4 hC4 (by unfold mixR; rw [setXs_length, setXs_length]));have HC4 := Lib.hid (hC1.out.trans hC4.ownAll);clear hL4 hC4 s0 s1 s2 s3;go_wp2;go_roundw
    case rel => exact .inr ⟨by go_num, HL4, HC4⟩
    case measure => simp [intOf]
  · go_wp2;refine bodyPost_end (results_none (by kernel_rfl) _ _ _) rfl ?_;exact ⟨rfl, hL.out, hC.out⟩
theorem MMix_c (S : LSt) (i j : Nat) (mp mq mr ms : P4) (a b c d : Int) (LA LB : Nat) (w : World) (h : LadAt w S) (hi : i < S.R.length) (hj : j < S.R.length) (hij : i ≠ j) (hA : IntAt w LA (av mp) a) (hB : IntAt w LA (av mq) b) (hC : IntAt w LA (av mr) c) (hD : IntAt w LA (av ms) d) (hl : S.R[i].xs.length = S.R[j].xs.length) (hxL : ∀ x ∈ S.R[i].xs, wlen x.natAbs <= LB) (hyL : ∀ y ∈ S.R[j].xs, wlen y.natAbs <= LB) (hLab : LA + LB <= 17592186044415) (hlen : S.R[i].xs.length <= 4611686018427387903) (hG : S.good) (hF : S.okR) (hLA2 : LA <= 13194139533312) (hdet : a * d - b * c = 1) :
 Calls Tryz.prog 101 #[.pointer (some ⟨S.lb, 0, none⟩), .int .i64 (i : Int), .int .i64 (j : Int), .agg #[.bool mp.1, .slice mp.2.1 mp.2.2.1 mp.2.2.2, .bool mq.1, .slice mq.2.1 mq.2.2.1 mq.2.2.2, .bool mr.1, .slice mr.2.1 mr.2.2.1 mr.2.2.2, .bool ms.1, .slice ms.2.1 ms.2.2.1 ms.2.2.2]] w fun e w' => e = .returned (.tuple #[]) /\ LadAt w' (S.withR (mixR S.R i j a b c d hi hj)) /\ Chg S.own w w' := by
 rcases hS : S.two with _ | t
 · exact MMix_c0 S i j mp mq mr ms a b c d LA LB w h hi hj hij hA hB hC hD hl hxL hyL hLab hlen hS
 · exact (hG t hS).no.elim
def iv (n : Nat) : Value := .int .i64 (n : Int)
theorem made_ints (n : Nat) : (madeCells (Value.int .i64 0).cells (n * 1)).toList = (List.replicate n 0).map iv := by
 rw [madeCells_one _ rfl]; simp [iv]
theorem info_int : (Tryz.prog.info? 3).map (fun i => (i.zero, i.size, i.bytes)) = some (some (.int .i64 0), 1, 8) := by kernel_rfl
theorem mk_ints {w : World} {ops : Array Oper} {rest : List Oper} {o : Oper} {a : Act} {Q : Exit -> Act -> World -> Prop}
 (hg : o.guard = none) (l c : Operand) (hop : o.op = Op.makeSlice 47 l c)
 {kl kc : IntKind} {L C : Int} (n m : Nat) (hl : a.eval l = .int kl L) (hc : a.eval c = .int kc C) (hL : L = (n : Int)) (hC : C = (m : Int)) (hnm : n <= m) (b2 : m <= 35184372088832)
 (hK : ∀ b w', Made w w' b 3 ((List.replicate m 0).map iv) -> wpList Tryz.prog ops Q rest (a.put o.dst (.slice (some ⟨b, 0, none⟩) n m)) w') :
 wpList Tryz.prog ops Q (o :: rest) a w :=
 wpList_make_row hg l c 47 hop 3 (.int .i64 0) 1 8 Tryz.underlying47 info_int n m hl hc hL hC hnm (by omega) (by unfold maxLen; omega)
  (fun b w' h => hK b w' (by rw [made_ints] at h; exact h))
theorem SdAt.setNew {w : World} {S : LSt} (h : SdAt w S) {g : Nat} {t : TypeId} {cs : List Value} (hr : RowAt w g t cs) (h1 : t ≠ 33) (h2 : t ≠ 22) (h3 : t ≠ 60) (hn : NoW cs) (i : Nat) (u : Value) : SdAt (w.setCell ⟨g, i, none⟩ u) S :=
 ⟨h.box.other (h.box.ne hr (fun e => h3 e.symm)) u, ⟨h.mat.out.other (fun e => hr.neP h.mat.out h2 e.symm) u, fun r hr' => (h.mat.row r hr').setFar hr h1 hn i u, h.mat.nd⟩⟩
theorem LadAt.setNew {w : World} {S : LSt} (h : LadAt w S) {g : Nat} {t : TypeId} {cs : List Value} (hr : RowAt w g t cs) (h1 : t ≠ 33) (h2 : t ≠ 22) (h3 : t ≠ 60) (h4 : t ≠ 108) (h5 : t ≠ 94) (hn : NoW cs) (i : Nat) (u : Value) : LadAt (w.setCell ⟨g, i, none⟩ u) S :=
 have hs := h.sd.setNew hr h1 h2 h3 hn i u
 ⟨h.lad.other (h.lad.ne hr (fun e => h5 e.symm)) u, h.sides.other (fun e => hr.neP h.sides h4 e.symm) u, hs.box, hs.mat, fun t' ht => by
  obtain ⟨V, hV⟩ := h.ext t' ht;exact ⟨V, hV.sd.setNew hr h1 h2 h3 hn i u, hV.box3.other (hV.box3.ne hr (fun e => h3 e.symm)) u, hV.rel, hV.own, hV.apart⟩⟩
theorem NoIv (ls : List Nat) : NoW (ls.map iv) := by
 intro c hc n;obtain ⟨x, _, rfl⟩ := List.mem_map.1 hc;simp [iv]
def AV.tup2 (B : Nat) (x y : Int) : AV := AV.free (fun w v => ∃ a b, v = .tuple #[a, b, .int .i64 0] /\ OwnI w B a x /\ OwnI w B b y) (fun ⟨a, b, e, h, h'⟩ hb => ⟨a, b, e, OwnI.below h hb, OwnI.below h' hb⟩) (fun ⟨a, b, e, h, h'⟩ hr _ ht k u _ => ⟨a, b, e, OwnI.setRow h hr ht k u, OwnI.setRow h' hr ht k u⟩)
theorem fdiv_wlen {x y : Int} {B : Nat} (hy : y ≠ 0) (h : wlen x.natAbs <= B) : wlen (x.fdiv y).natAbs <= B + 2 := by
 have h1 : (x.tdiv y).natAbs <= x.natAbs := by rw [Int.natAbs_tdiv]; exact Nat.div_le_self _ _
 have h2 : (x.fdiv y).natAbs <= x.natAbs + 1 := by
  by_cases hs : x.tmod y = 0 ∨ (decide (x.tmod y < 0)) = decide (y < 0)
  · rw [(floor_same hy hs).1]; omega
  · have hs1 : x.tmod y ≠ 0 := fun e => hs (.inl e);have hs2 : ¬ (decide (x.tmod y < 0)) = decide (y < 0) := fun e => hs (.inr e);rw [(floor_other hy hs1 hs2).1]; omega
 have h3 := wlen_mono h2;have h4 := wlen_add x.natAbs 1;have h5 : wlen 1 <= 1 := wlen_le_of_lt (by decide);have h6 : max (wlen x.natAbs) (wlen 1) <= B + 1 := Nat.max_le.2 ⟨by omega, by omega⟩;omega
theorem own_setXs (S : LSt) (i : Nat) (xs : List Int) (k : Nat) : (S.withR (setXs S.R i xs)).own k ↔ S.own k := or_congr (rws_blk (fun b => setXs_blkm b) k) Iff.rfl
def ent (R : List Hd) (i j : Nat) : Int := ((R[i]?).map (fun h => h.xs.getD j 0)).getD 0
def leadOf (R : List Hd) (i : Nat) : Nat := ((R[i]?).map (fun h => lead h.xs)).getD 0
theorem ent_eq {R : List Hd} {i j : Nat} (hi : i < R.length) (hj : j < R[i].xs.length) : ent R i j = R[i].xs[j] := by
 unfold ent; simp [hi, hj]
theorem leadOf_eq {R : List Hd} {i : Nat} (hi : i < R.length) : leadOf R i = lead R[i].xs := by
 unfold leadOf; simp [hi]
structure Fit (B c : Nat) (R : List Hd) : Prop where
 len : ∀ h ∈ R, h.xs.length = c
 fit : ∀ h ∈ R, ∀ x ∈ h.xs, wlen x.natAbs <= B
def addT (R : List Hd) (i j : Nat) (k : Int) : List Hd := if h : i < R.length /\ j < R.length then addR R i j k h.1 h.2 else R
theorem addT_eq {R : List Hd} {i j : Nat} {k : Int} (hi : i < R.length) (hj : j < R.length) : addT R i j k = addR R i j k hi hj := by unfold addT; rw [dif_pos ⟨hi, hj⟩]
theorem addT_length (R : List Hd) (i j : Nat) (k : Int) : (addT R i j k).length = R.length := by
 unfold addT; split
 · unfold addR; rw [setXs_length]
 · rfl
inductive SIn (B c : Nat) (ls : List Nat) (i n : Nat) : Nat -> List Hd -> List Hd -> Prop
 | done {k : Nat} {R : List Hd} (h : n <= k) : SIn B c ls i n k R R
 | step {k : Nat} {R R' : List Hd} (h : k < n) (hF : Fit B c R) (hc : ls.getD k 0 < c) (hp : ent R k (ls.getD k 0) ≠ 0) (hs : SIn B c ls i n (k + 1) (addT R i k (-((ent R i (ls.getD k 0)).fdiv (ent R k (ls.getD k 0))))) R') : SIn B c ls i n k R R'
inductive SOut (B c : Nat) (ls : List Nat) (n : Nat) : Nat -> List Hd -> List Hd -> Prop
 | done {R : List Hd} : SOut B c ls n 0 R R
 | step {m : Nat} {R R1 R' : List Hd} (h1 : SIn B c ls m n (m + 1) R R1) (h2 : SOut B c ls n m R1 R') : SOut B c ls n (m + 1) R R'
theorem SOut.inv {B c : Nat} {ls : List Nat} {n m : Nat} {R R' : List Hd} (h : SOut B c ls n (m + 1) R R') : ∃ R1, SIn B c ls m n (m + 1) R R1 /\ SOut B c ls n m R1 R' := by
 cases h with
 | step h1 h2 => exact ⟨_, h1, h2⟩
theorem SOut.zero {B c : Nat} {ls : List Nat} {n : Nat} {R R' : List Hd} (h : SOut B c ls n 0 R R') : R = R' := by
 cases h; rfl
theorem SIn.inv {B c : Nat} {ls : List Nat} {i n k : Nat} {R R' : List Hd} (h : SIn B c ls i n k R R') (hk : k < n) : Fit B c R /\ ls.getD k 0 < c /\ ent R k (ls.getD k 0) ≠ 0 /\ SIn B c ls i n (k + 1) (addT R i k (-((ent R i (ls.getD k 0)).fdiv (ent R k (ls.getD k 0))))) R' := by
 cases h with
 | done h => omega
 | step _ hF hc hp hs => exact ⟨hF, hc, hp, hs⟩
theorem SIn.fin {B c : Nat} {ls : List Nat} {i n k : Nat} {R R' : List Hd} (h : SIn B c ls i n k R R') (hk : n <= k) : R = R' := by
 cases h with
 | done h => rfl
 | step h _ _ _ _ => omega
theorem SIn.length {B c : Nat} {ls : List Nat} {i n k : Nat} {R R' : List Hd} (h : SIn B c ls i n k R R') : R'.length = R.length := by
 induction h with
 | done _ => rfl
 | step _ _ _ _ _ ih => rw [ih, addT_length]
def leadsOf (R : List Hd) (n : Nat) : List Nat := (List.range n).map (leadOf R)
theorem map_iv_set (ls : List Nat) (i v : Nat) : (ls.map iv).set i (.int .i64 (v : Int)) = (ls.set i v).map iv := by
 rw [List.map_set]; rfl
theorem map_iv_get (ls : List Nat) {i : Nat} (h : i < ls.length) : (ls.map iv)[i]? = some (.int .i64 ((ls.getD i 0 : Nat) : Int)) := by
 simp [iv, h]
def LSt.sat (S : LSt) (B c : Nat) : Prop := ∀ t, S.two = some t -> t.Ok /\ ∀ R, Fit B c R -> t.fit R
theorem LSt.sat.good {S : LSt} {B c : Nat} (h : S.sat B c) (R : List Hd) : (S.withR R).good := fun t ht => (h t ht).1
theorem LSt.sat.okR {S : LSt} {B c : Nat} (h : S.sat B c) {R : List Hd} (hF : Fit B c R) : (S.withR R).okR := fun t ht => (h t ht).2 R hF
set_option maxRecDepth 100000 in
set_option maxHeartbeats 8000000 in
theorem Settle_c (S : LSt) (n B c : Nat) (R' : List Hd) (w : World) (h : LadAt w S) (hn : n <= S.R.length) (hB : B <= 4398046511103) (hF : Fit B c S.R) (hS : SOut B c (leadsOf S.R n) n n S.R R') (hR : S.R.length <= 1000000) (hc : c <= 1000000) (hT : S.sat B c) :
 Calls Tryz.prog 94 #[.pointer (some ⟨S.lb, 0, none⟩), .int .i64 (n : Int)] w fun e w' => e = .returned (.tuple #[]) /\ LadAt w' (S.withR R') /\ Chg S.own w w' := by
 have HL := Lib.hid h; clear h;have HF := Lib.hid hF; clear hF;have HS := Lib.hid hS; clear hS;have HT := Lib.hid hT; clear hT;go_enter Tryz.func94, Tryz.ntmps94;go_wp2_with (at_make; refine mk_ints rfl _ _ rfl n n rfl rfl (by omega) (by omega) (Nat.le_refl _) (by omega) ?_; intro gl w1 hm1)
 have L1 := Lib.hid (HL.out.below hm1.below);have C1 := Lib.hid (Chg.of_below (S := S.own) hm1.below);have hgl : gl = w.heap.size := hm1.at_;have Hgl := Lib.hid hgl; clear hgl;have hr1 := hm1.row;go_loopw [16] (fun i wr => ∃ (m : Nat) (ls : List Nat), m <= n /\ i = .int .i64 (m : Int) /\ Hid (ls.length = n /\ ∀ j (h : j < ls.length), j < m -> ls[j] = leadOf S.R j) /\ Hid (RowAt wr gl 3 (ls.map iv)) /\ Hid (LadAt wr S) /\ Hid (Chg S.own w wr)) (fun i _ => n - (intOf i).toNat)
 case atStart => exact ⟨0, List.replicate n 0, Nat.zero_le _, rfl, ⟨by simp, fun j _ h => by omega⟩, hr1, L1, C1⟩
 case round =>
  obtain ⟨m, ls, hm, rfl, Hls, hG, hL, hC⟩ := hrel;by_cases hmn : m < n
  · have hmR : m < S.R.length := by omega
    have c0 : wr.cell? ⟨S.lb, 0, none⟩ = some (.slice (some ⟨S.o, 0, none⟩) S.R.length S.cap) := hL.out.lad.cell 0;have cm : wr.cell? ⟨S.o, m, none⟩ = some (.slice (some ⟨S.R[m].blk, 0, none⟩) S.R[m].xs.length S.R[m].cap) := hL.out.mat.hdr hmR;have hm1' : (m : Int) < (S.R.length : Int) := by omega
    have hm2' : (m : Int) < (n : Int) := by omega
    go_wp2_with fail
    refine (Lead_c S.R[m].blk S.R[m].cap S.R[m].xs _ (hL.out.mat.row _ (List.getElem_mem hmR)) (fun x hx => by have := HF.out.fit _ (List.getElem_mem hmR) x hx; omega) (by have := HF.out.len _ (List.getElem_mem hmR); omega)).mono ?_;rintro e w2 ⟨rfl, hb2⟩;have L2 := Lib.hid (hL.out.below hb2);have C2 := Lib.hid (hC.out.below hb2);have G2 := hG.out.below hb2 hG.out.lt;have hml : m < ls.length := by rw [Hls.out.1]; exact hmn
    have d0 : w2.cell? ⟨gl, m, none⟩ = some (.int .i64 ((ls.getD m 0 : Nat) : Int)) := (G2.cell m).trans (map_iv_get ls hml);have f0 := G2.free m;have G2 := Lib.hid G2;have hbn : w.heap.size <= gl := by have := Hgl.out; omega
    clear hL hC hG hb2 c0 cm;go_wp2;go_roundw
    case rel =>
     refine ⟨m + 1, ls.set m (leadOf S.R m), by omega, by go_num, Lib.hid ⟨by simpa using Hls.out.1, fun j hj hjm => ?_⟩, ?_, ?_, Lib.hid (C2.out.setNew (p := ⟨gl, m, none⟩) hbn _)⟩
     · rw [List.getElem_set];split
       · rename_i e; subst e; rfl
       · exact Hls.out.2 j (by simpa using hj) (by omega)
     · rw [<- map_iv_set, leadOf_eq hmR];exact Lib.hid (G2.out.set m _)
     · exact Lib.hid (L2.out.setNew G2.out (by decide) (by decide) (by decide) (by decide) (by decide) (NoIv ls) m _)
    case measure => simp [intOf]; omega
  · obtain rfl : m = n := by omega
    have hlsE : ls = leadsOf S.R m := by
     refine List.ext_getElem (by simp [leadsOf, Hls.out.1]) fun j h1 h2 => ?_;rw [Hls.out.2 j h1 (by have := Hls.out.1; omega)];simp [leadsOf]
    have HLE := Lib.hid hlsE; clear hlsE;have hbn : w.heap.size <= gl := by have := Hgl.out; omega
    have hso : ¬ S.own gl := by
     intro e;have := HL.out.own_lt _ e;omega
    have Hso := Lib.hid hso; clear hso;have HS2 := HS.out;rw [<- HLE.out] at HS2;have HS2 := Lib.hid HS2;have HG := hG;go_wp2;go_loopw [6] (fun iv_ wo => ∃ (q : Nat) (R1 : List Hd), q <= m /\ iv_ = .int .i64 ((q : Int) - 1) /\ Hid (R1.length = S.R.length) /\ Hid (SOut B c ls m q R1 R') /\ Hid (LadAt wo (S.withR R1)) /\ Hid (RowAt wo gl 3 (ls.map iv)) /\ Hid (Chg S.own w wo) /\ Hid (∀ k, (S.withR R1).own k ↔ S.own k)) (fun iv_ _ => (intOf iv_ + 1).toNat)
    case atStart => exact ⟨m, S.R, Nat.le_refl _, by go_num, rfl, HS2, hL, HG, hC, Lib.hid (fun _ => Iff.rfl)⟩
    case round =>
     obtain ⟨q, R1, hq, rfl, hR1, HO, hL1, hG1, hC1, Hown⟩ := hrel;rcases q with _ | ii
     · have e : ((0 : Nat) : Int) - 1 = -1 := by omega
       rw [e];go_wp2;refine bodyPost_end (results_none (by kernel_rfl) _ _ _) rfl ?_;have hRR : R1 = R' := HO.out.zero;rw [<- hRR];exact ⟨rfl, hL1.out, hC1.out⟩
     · have e : ((ii + 1 : Nat) : Int) - 1 = (ii : Int) := by omega
       rw [e];obtain ⟨R1', HI, HO'⟩ := HO.out.inv;have HI := Lib.hid HI;have HO' := Lib.hid HO';have hii : ii < S.R.length := by omega
       clear HO;go_wp2;go_loopw [7] (fun kv_ wi => ∃ (kk : Nat) (R2 : List Hd), ii < kk /\ kk <= m /\ kv_ = .int .i64 (kk : Int) /\ Hid (R2.length = S.R.length) /\ Hid (SIn B c ls ii m kk R2 R1') /\ Hid (LadAt wi (S.withR R2)) /\ Hid (RowAt wi gl 3 (ls.map iv)) /\ Hid (Chg S.own w wi) /\ Hid (∀ k, (S.withR R2).own k ↔ S.own k)) (fun kv_ _ => m - (intOf kv_).toNat)
       case atStart => exact ⟨ii + 1, R1, by omega, by omega, by go_num, hR1, HI, hL1, hG1, hC1, Hown⟩
       case round =>
        obtain ⟨kk, R2, hik, hkm, rfl, hR2, HI2, hL2, hG2, hC2, Hown2⟩ := hrel;by_cases hkm' : kk < m
        · have hkR : kk < R2.length := by have := hR2.out; omega
          have hiR : ii < R2.length := by have := hR2.out; omega
          have hkl : kk < ls.length := by rw [Hls.out.1]; exact hkm'
          obtain ⟨HF2, Hc2, Hp2, HI3⟩ := HI2.out.inv hkm';have HF2 := Lib.hid HF2;have Hp2 := Lib.hid Hp2;have HI3 := Lib.hid HI3;obtain ⟨jj, hjj⟩ : ∃ jj, ls.getD kk 0 = jj := ⟨_, rfl⟩;rw [hjj] at Hc2 Hp2 HI3;have hkm1 : (kk : Int) < (m : Int) := by omega
          have hi1 : (ii : Int) < (R2.length : Int) := by omega
          have hk1 : (kk : Int) < (R2.length : Int) := by omega
          have hjl : jj < R2[ii].xs.length := by rw [HF2.out.len _ (List.getElem_mem hiR)]; exact Hc2
          have hjk : jj < R2[kk].xs.length := by rw [HF2.out.len _ (List.getElem_mem hkR)]; exact Hc2
          have hjl1 : (jj : Int) < (R2[ii].xs.length : Int) := by omega
          have hjk1 : (jj : Int) < (R2[kk].xs.length : Int) := by omega
          have dj : wr.cell? ⟨gl, kk, none⟩ = some (.int .i64 (jj : Int)) := by rw [hG2.out.cell, map_iv_get ls hkl, hjj]
          have Hjj := Lib.hid hjj; clear hjj;clear HI2;go_wp2;clear dj;have cb : wr.cell? ⟨S.lb, 0, none⟩ = some (.slice (some ⟨S.o, 0, none⟩) R2.length S.cap) := hL2.out.lad.cell 0;have ci : wr.cell? ⟨S.o, ii, none⟩ = some (.slice (some ⟨R2[ii].blk, 0, none⟩) R2[ii].xs.length R2[ii].cap) := hL2.out.mat.hdr (i := ii) hiR;have ck : wr.cell? ⟨S.o, kk, none⟩ = some (.slice (some ⟨R2[kk].blk, 0, none⟩) R2[kk].xs.length R2[kk].cap) := hL2.out.mat.hdr (i := kk) hkR;have hXi := hL2.out.mat.row _ (List.getElem_mem (l := R2) hiR);have hXk := hL2.out.mat.row _ (List.getElem_mem (l := R2) hkR);obtain ⟨pi, ci0, ci1, hni⟩ := hXi.get hjl;obtain ⟨pk, ck0, ck1, hnk⟩ := hXk.get hjk;have hwi : wlen (R2[ii].xs[jj]).natAbs <= B := HF2.out.fit _ (List.getElem_mem hiR) _ (List.getElem_mem hjl);have hwk : wlen (R2[kk].xs[jj]).natAbs <= B := HF2.out.fit _ (List.getElem_mem hkR) _ (List.getElem_mem hjk);have hpz : R2[kk].xs[jj] ≠ 0 := by have := Hp2.out; rw [ent_eq hkR hjk] at this; exact this
          obtain ⟨xi, hxi⟩ : ∃ xi, R2[ii].xs[jj] = xi := ⟨_, rfl⟩;obtain ⟨xk, hxk⟩ : ∃ xk, R2[kk].xs[jj] = xk := ⟨_, rfl⟩;rw [hxi] at hni hwi;rw [hxk] at hnk hwk hpz;have Hni := Lib.hid (hni.int (L := 17592186044415) (by omega));have Hnk := Lib.hid (hnk.int (L := 17592186044415) (by omega));have Hpz := Lib.hid hpz; clear hpz;have Hxi := Lib.hid hxi; clear hxi;have Hxk := Lib.hid hxk; clear hxk;have sb1 := hXi.lt;have sb2 := hXk.lt;have sb3 := hL2.out.lad.lt;have sb4 := hL2.out.mat.out.lt;have sb3 : S.lb < wr.heap.size := sb3;have sb4 : S.o < wr.heap.size := sb4;clear hXi hXk hni hnk Hp2;refine wp_region_J ⟨30, fun q_ => [49, 50, 51, 52, 53, 54, 55, 56, 57, 58, 59, 60, 61, 62, 63, 64, 65, 66, 67, 68, 69, 48, 70, 71, 72, 9, 10, 1027, 1028, 11].getD q_ 0,
           fun q_ => [.val (.pointer (some ⟨S.lb, 0, none⟩)), .val (.pointer (some ⟨S.lb, 0, none⟩)), .val (.pointer (some ⟨S.lb, 0, none⟩)), .val (.slice (some ⟨S.o, 0, none⟩) R2.length S.cap), .val (.int .i64 (ii : Int)), .val (.pointer (some ⟨S.o, ii, none⟩)), .val (.slice (some ⟨R2[ii].blk, 0, none⟩) R2[ii].xs.length R2[ii].cap), .val (.int .i64 (jj : Int)), .val (.pointer (some ⟨R2[ii].blk, jj * 2, none⟩)), .val (.agg #[.bool pi.1, .slice pi.2.1 pi.2.2.1 pi.2.2.2]), .val (.pointer (some ⟨S.lb, 0, none⟩)), .val (.pointer (some ⟨S.lb, 0, none⟩)), .val (.pointer (some ⟨S.lb, 0, none⟩)), .val (.slice (some ⟨S.o, 0, none⟩) R2.length S.cap), .val (.int .i64 (kk : Int)), .val (.pointer (some ⟨S.o, kk, none⟩)), .val (.slice (some ⟨R2[kk].blk, 0, none⟩) R2[kk].xs.length R2[kk].cap), .val (.int .i64 (jj : Int)), .val (.pointer (some ⟨R2[kk].blk, jj * 2, none⟩)), .val (.agg #[.bool pk.1, .slice pk.2.1 pk.2.2.1 pk.2.2.2]), .tup2 0 (xi.fdiv xk) (xi.fmod xk), .tup2 0 (xi.fdiv xk) (xi.fmod xk), .int 0 (xi.fdiv xk), .int 0 (xi.fmod xk), .val (.int .i64 0), .ptr wr.heap.size 33 2, .ptr wr.heap.size 33 2, .any, .any, .val (.int .i64 0)].getD q_ .any,
           [],
           [(.agg #[.bool pi.1, .slice pi.2.1 pi.2.2.1 pi.2.2.2], .at_ 17592186044415 xi), (.agg #[.bool pk.1, .slice pk.2.1 pk.2.2.1 pk.2.2.2], .at_ 17592186044415 xk)],
           [],
           [(27, 9, 33, .int 0 (xi.fdiv xk)), (28, 10, 33, .int 0 (xi.fmod xk))], [(⟨S.lb, 0, none⟩, .slice (some ⟨S.o, 0, none⟩) R2.length S.cap), (⟨S.o, ii, none⟩, .slice (some ⟨R2[ii].blk, 0, none⟩) R2[ii].xs.length R2[ii].cap), (⟨S.o, kk, none⟩, .slice (some ⟨R2[kk].blk, 0, none⟩) R2[kk].xs.length R2[kk].cap), (⟨R2[ii].blk, jj * 2, none⟩, .bool pi.1), (⟨R2[ii].blk, jj * 2 + 1, none⟩, .slice pi.2.1 pi.2.2.1 pi.2.2.2), (⟨R2[kk].blk, jj * 2, none⟩, .bool pk.1), (⟨R2[kk].blk, jj * 2 + 1, none⟩, .slice pk.2.1 pk.2.2.1 pk.2.2.2)], [(25, 9), (26, 10)]⟩ [49, 50, 51, 52, 53, 54, 55, 56, 57, 58, 59, 60, 61, 62, 63, 64, 65, 66, 67, 68, 69, 48, 70, 71, 72, 9, 10, 11] (wr.heap.size) (by kernel_rfl) (by kernel_rfl) (by kernel_rfl) (by kernel_rfl) ?_ ?_ ?_ ?_ ?_ ?_
          · exact allq (Hni.out) (allq (Hnk.out) allz)
          · exact allz
          · exact allq (⟨cb, by dsimp only; omega, allz⟩) (allq (⟨ci, by dsimp only; omega, allz⟩) (allq (⟨ck, by dsimp only; omega, allz⟩) (allq (⟨ci0, by dsimp only; omega, allz⟩) (allq (⟨ci1, by dsimp only; omega, allz⟩) (allq (⟨ck0, by dsimp only; omega, allz⟩) (allq (⟨ck1, by dsimp only; omega, allz⟩) allz))))))
          · exact allz
          · refine allc ?_ (allc ?_ (allc ?_ (allc ?_ (allc ?_ (allc ?_ (allc ?_ (allc ?_ (allc ?_ (allc ?_ (allc ?_ (allc ?_ (allc ?_ (allc ?_ (allc ?_ (allc ?_ (allc ?_ (allc ?_ (allc ?_ (allc ?_ (allc ?_ (allc ?_ (allc ?_ (allc ?_ (allc ?_ (allc ?_ (allc ?_ (allc ?_ (allc ?_ (allc ?_ alln)))))))))))))))))))))))))))));any_goals (first | (intro L fx w' hJ hL hp hcl; have _ := hp0 hp (by decide +kernel); refine wps rfl fun K hK => ?_; go_simp; exact hJ.q hK (by kernel_rfl) rfl) | fail)
            · intro L fx w' hJ hL hp hcl;have e0 := hJ.pt 0 49 (.pointer (some ⟨S.lb, 0, none⟩)) rfl rfl rfl (hp 0 (by decide));rw [e0] at hJ ⊢; clear e0;refine wps rfl fun K hK => ?_;go_simp;exact hJ.q hK (by kernel_rfl) rfl
            · intro L fx w' hJ hL hp hcl;have e1 := hJ.pt 1 50 (.pointer (some ⟨S.lb, 0, none⟩)) rfl rfl rfl (hp 1 (by decide));rw [e1] at hJ ⊢; clear e1;refine wps rfl fun K hK => ?_;go_simp;exact hJ.q hK (by kernel_rfl) rfl
            · intro L fx w' hJ hL hp hcl;have e2 := hJ.pt 2 51 (.pointer (some ⟨S.lb, 0, none⟩)) rfl rfl rfl (hp 2 (by decide));rw [e2] at hJ ⊢; clear e2;refine wps rfl fun K hK => ?_;have cl0 := (hJ.cells _ mm0).1;try dsimp only at cl0
              go_simp;exact hJ.q hK (by kernel_rfl) rfl
            · intro L fx w' hJ hL hp hcl;have e3 := hJ.pt 3 52 (.slice (some ⟨S.o, 0, none⟩) R2.length S.cap) rfl rfl rfl (hp 3 (by decide));rw [e3] at hJ ⊢; clear e3;have e4 := hJ.pt 4 53 (.int .i64 (ii : Int)) rfl rfl rfl (hp 4 (by decide));rw [e4] at hJ ⊢; clear e4;refine wps rfl fun K hK => ?_;go_simp;exact hJ.q hK (by kernel_rfl) rfl
            · intro L fx w' hJ hL hp hcl;have e5 := hJ.pt 5 54 (.pointer (some ⟨S.o, ii, none⟩)) rfl rfl rfl (hp 5 (by decide));rw [e5] at hJ ⊢; clear e5;refine wps rfl fun K hK => ?_;have cl0 := (hJ.cells _ mm1).1;try dsimp only at cl0
              go_simp;exact hJ.q hK (by kernel_rfl) rfl
            · intro L fx w' hJ hL hp hcl;have e6 := hJ.pt 6 55 (.slice (some ⟨R2[ii].blk, 0, none⟩) R2[ii].xs.length R2[ii].cap) rfl rfl rfl (hp 6 (by decide));rw [e6] at hJ ⊢; clear e6;have e7 := hJ.pt 7 56 (.int .i64 (jj : Int)) rfl rfl rfl (hp 7 (by decide));rw [e7] at hJ ⊢; clear e7;refine wps rfl fun K hK => ?_;go_simp;exact hJ.q hK (by kernel_rfl) rfl
            · intro L fx w' hJ hL hp hcl;have e8 := hJ.pt 8 57 (.pointer (some ⟨R2[ii].blk, jj * 2, none⟩)) rfl rfl rfl (hp 8 (by decide));rw [e8] at hJ ⊢; clear e8;refine wps rfl fun K hK => ?_;have cl0 := (hJ.cells _ mm3).1;have cl1 := (hJ.cells _ mm4).1;try dsimp only at cl0 cl1
              go_simp;exact hJ.q hK (by kernel_rfl) rfl
            · intro L fx w' hJ hL hp hcl;have e10 := hJ.pt 10 59 (.pointer (some ⟨S.lb, 0, none⟩)) rfl rfl rfl (hp 10 (by decide));rw [e10] at hJ ⊢; clear e10;refine wps rfl fun K hK => ?_;go_simp;exact hJ.q hK (by kernel_rfl) rfl
            · intro L fx w' hJ hL hp hcl;have e11 := hJ.pt 11 60 (.pointer (some ⟨S.lb, 0, none⟩)) rfl rfl rfl (hp 11 (by decide));rw [e11] at hJ ⊢; clear e11;refine wps rfl fun K hK => ?_;go_simp;exact hJ.q hK (by kernel_rfl) rfl
            · intro L fx w' hJ hL hp hcl;have e12 := hJ.pt 12 61 (.pointer (some ⟨S.lb, 0, none⟩)) rfl rfl rfl (hp 12 (by decide));rw [e12] at hJ ⊢; clear e12;refine wps rfl fun K hK => ?_;have cl0 := (hJ.cells _ mm0).1;try dsimp only at cl0
              go_simp;exact hJ.q hK (by kernel_rfl) rfl
            · intro L fx w' hJ hL hp hcl;have e13 := hJ.pt 13 62 (.slice (some ⟨S.o, 0, none⟩) R2.length S.cap) rfl rfl rfl (hp 13 (by decide));rw [e13] at hJ ⊢; clear e13;have e14 := hJ.pt 14 63 (.int .i64 (kk : Int)) rfl rfl rfl (hp 14 (by decide));rw [e14] at hJ ⊢; clear e14;refine wps rfl fun K hK => ?_;go_simp;exact hJ.q hK (by kernel_rfl) rfl
            · intro L fx w' hJ hL hp hcl;have e15 := hJ.pt 15 64 (.pointer (some ⟨S.o, kk, none⟩)) rfl rfl rfl (hp 15 (by decide));rw [e15] at hJ ⊢; clear e15;refine wps rfl fun K hK => ?_;have cl0 := (hJ.cells _ mm2).1;try dsimp only at cl0
              go_simp;exact hJ.q hK (by kernel_rfl) rfl
            · intro L fx w' hJ hL hp hcl;have e16 := hJ.pt 16 65 (.slice (some ⟨R2[kk].blk, 0, none⟩) R2[kk].xs.length R2[kk].cap) rfl rfl rfl (hp 16 (by decide));rw [e16] at hJ ⊢; clear e16;have e17 := hJ.pt 17 66 (.int .i64 (jj : Int)) rfl rfl rfl (hp 17 (by decide));rw [e17] at hJ ⊢; clear e17;refine wps rfl fun K hK => ?_;go_simp;exact hJ.q hK (by kernel_rfl) rfl
            · intro L fx w' hJ hL hp hcl;have e18 := hJ.pt 18 67 (.pointer (some ⟨R2[kk].blk, jj * 2, none⟩)) rfl rfl rfl (hp 18 (by decide));rw [e18] at hJ ⊢; clear e18;refine wps rfl fun K hK => ?_;have cl0 := (hJ.cells _ mm5).1;have cl1 := (hJ.cells _ mm6).1;try dsimp only at cl0 cl1
              go_simp;exact hJ.q hK (by kernel_rfl) rfl
            · intro L fx w' hJ hL hp hcl;have e9 := hJ.pt 9 58 (.agg #[.bool pi.1, .slice pi.2.1 pi.2.2.1 pi.2.2.2]) rfl rfl rfl (hp 9 (by decide));rw [e9] at hJ ⊢; clear e9;have e19 := hJ.pt 19 68 (.agg #[.bool pk.1, .slice pk.2.1 pk.2.2.1 pk.2.2.2]) rfl rfl rfl (hp 19 (by decide));rw [e19] at hJ ⊢; clear e19;refine wps rfl fun K hK => ?_;go_simp;go_at_call 98;refine (IFloor_c _ _ xi xk _ (show IntAt w' _ _ _ from hJ.base _ mm0) (show IntAt w' _ _ _ from hJ.base _ mm1) Hpz.out).mono ?_;rintro e w4 ⟨⟨v5, v6, rfl, h5, h6⟩, hb4⟩;try dsimp only
              exact hK _ _ ⟨_, by kernel_rfl, hJ.gC 20 rfl (by kernel_rfl) hb4 ⟨_, _, rfl, OwnI.mono h5 (Nat.zero_le _), OwnI.mono h6 (Nat.zero_le _)⟩ (by omega)⟩
            · intro L fx w' hJ hL hp hcl;have e20 := hJ.slot 20 (by show 20 < 30; decide) (hp 20 (by decide));refine wps rfl fun K hK => ?_;go_simp;exact hJ.q hK (by kernel_rfl) e20
            · intro L fx w' hJ hL hp hcl;have e21 := hJ.slot 21 (by show 21 < 30; decide) (hp 21 (by decide));obtain ⟨vq, vr, hvt, hq1, hr1⟩ := e21;rw [patchX (x := fx) (d := 48) (v := (.tuple #[vq, vr, .int .i64 0])) hvt] at hJ ⊢;refine wps rfl fun K hK => ?_;go_simp;exact hJ.q hK (by kernel_rfl) hq1
            · intro L fx w' hJ hL hp hcl;have e21 := hJ.slot 21 (by show 21 < 30; decide) (hp 21 (by decide));obtain ⟨vq, vr, hvt, hq1, hr1⟩ := e21;rw [patchX (x := fx) (d := 48) (v := (.tuple #[vq, vr, .int .i64 0])) hvt] at hJ ⊢;refine wps rfl fun K hK => ?_;go_simp;exact hJ.q hK (by kernel_rfl) hr1
            · intro L fx w' hJ hL hp hcl;have e21 := hJ.slot 21 (by show 21 < 30; decide) (hp 21 (by decide));obtain ⟨vq, vr, hvt, hq1, hr1⟩ := e21;rw [patchX (x := fx) (d := 48) (v := (.tuple #[vq, vr, .int .i64 0])) hvt] at hJ ⊢;refine wps rfl fun K hK => ?_;go_simp;exact hJ.q hK (by kernel_rfl) rfl
            · intro L fx w' hJ hL hp hcl;have hg0 : wr.heap.size <= w'.heap.size := Nat.le_trans (by omega : wr.heap.size <= wr.heap.size) hJ.size;refine wps rfl fun K hK => ?_;go_simp;exact hK _ _ ⟨_, by kernel_rfl, hJ.grow 25 (by show 25 < 30; decide) _ (by kernel_rfl) (by kernel_rfl) (by intro t ht; rcases mc ht with rfl | ht; exact ⟨by show 27 ≠ 25; decide, fun _ => by cases hh : L 27 with | false => rfl | true => have := hcl 27 (by show 27 < 30; decide) hh 25 (by decide); rw [hL] at this; cases this⟩; rcases mc ht with rfl | ht; exact ⟨by show 28 ≠ 25; decide, fun h => absurd (show 10 = 9 from h) (by decide)⟩; cases ht) (by intro p hp; rcases mc hp with rfl | hp; exact ⟨⟨fun _ => rfl, fun _ => rfl⟩, fun _ q hq hne hLq => (by rcases mc hq with rfl | hq; exact absurd rfl hne; rcases mc hq with rfl | hq; (obtain ⟨g9, cs9, hx9, _, hr9, _⟩ := hJ.slot 26 (by show 26 < 30; decide) hLq; have hx9 : fx 10 = _ := hx9; show _ ≠ fx 10; rw [hx9]; intro e9; injection e9 with e9; injection e9 with e9; injection e9 with e9; exact absurd e9 (Nat.ne_of_gt hr9.lt)); cases hq)⟩; rcases mc hp with rfl | hp; exact ⟨⟨fun h => absurd (show 26 = 25 from h) (by decide), fun h => absurd (show 10 = 9 from h) (by decide)⟩, fun h => absurd (show 26 = 25 from h) (by decide)⟩; cases hp) ((Below.refl _ _).alloc (Nat.le_refl _) _) ⟨w'.heap.size, _, rfl, hJ.size, RowAt.new _ _ _, NoW.two _ _ _ _, rfl⟩ hg0⟩
            · intro L fx w' hJ hL hp hcl;have hg0 : wr.heap.size <= w'.heap.size := Nat.le_trans (by omega : wr.heap.size <= wr.heap.size) hJ.size;refine wps rfl fun K hK => ?_;go_simp;exact hK _ _ ⟨_, by kernel_rfl, hJ.grow 26 (by show 26 < 30; decide) _ (by kernel_rfl) (by kernel_rfl) (by intro t ht; rcases mc ht with rfl | ht; exact ⟨by show 27 ≠ 26; decide, fun h => absurd (show 9 = 10 from h) (by decide)⟩; rcases mc ht with rfl | ht; exact ⟨by show 28 ≠ 26; decide, fun _ => by cases hh : L 28 with | false => rfl | true => have := hcl 28 (by show 28 < 30; decide) hh 26 (by decide); rw [hL] at this; cases this⟩; cases ht) (by intro p hp; rcases mc hp with rfl | hp; exact ⟨⟨fun h => absurd (show 25 = 26 from h) (by decide), fun h => absurd (show 9 = 10 from h) (by decide)⟩, fun h => absurd (show 25 = 26 from h) (by decide)⟩; rcases mc hp with rfl | hp; exact ⟨⟨fun _ => rfl, fun _ => rfl⟩, fun _ q hq hne hLq => (by rcases mc hq with rfl | hq; (obtain ⟨g9, cs9, hx9, _, hr9, _⟩ := hJ.slot 25 (by show 25 < 30; decide) hLq; have hx9 : fx 9 = _ := hx9; show _ ≠ fx 9; rw [hx9]; intro e9; injection e9 with e9; injection e9 with e9; injection e9 with e9; exact absurd e9 (Nat.ne_of_gt hr9.lt)); rcases mc hq with rfl | hq; exact absurd rfl hne; cases hq)⟩; cases hp) ((Below.refl _ _).alloc (Nat.le_refl _) _) ⟨w'.heap.size, _, rfl, hJ.size, RowAt.new _ _ _, NoW.two _ _ _ _, rfl⟩ hg0⟩
            · intro L fx w' hJ hL hp hcl;have e25 := hJ.slot 25 (by show 25 < 30; decide) (hp 25 (by decide));have e22 := hJ.slot 22 (by show 22 < 30; decide) (hp 22 (by decide));have e22' := e22;obtain ⟨b7, o7, l7, k7, hv0⟩ := OwnI.parts e22;rw [hv0] at e22';rw [patchX (x := fx) (d := 70) (v := (.agg #[.bool b7, .slice o7 l7 k7])) hv0] at hJ ⊢;obtain ⟨g, cs, hx, hgB, hr0, hn0, hl0⟩ := e25;obtain ⟨z0, z1, rfl⟩ : ∃ z0 z1, cs = [z0, z1] := list2 hl0;have hf0 := RowAt.free hr0 0;have hc0 := RowAt.cell hr0 0;have hf1 := RowAt.free hr0 1;have hc1 := RowAt.cell hr0 1;try dsimp only at hf0 hc0 hf1 hc1
              have hx1 := hx;rw [patchX (x := (updX fx 70 (.agg #[.bool b7, .slice o7 l7 k7]))) (d := 9) hx] at hJ ⊢;refine wps rfl fun K hK => ?_;go_simp;exact hK _ _ ⟨_, by kernel_rfl, hJ.storeNew (us := [.bool b7, .slice o7 l7 k7]) 27 9 _ _ (by show 27 < 30; decide) rfl mm0 (by intro t ht h; rcases mc ht with rfl | ht; rfl; rcases mc ht with rfl | ht; exact absurd (show 28 = 27 from h) (by decide); cases ht) (by intro t ht hne hLt; rcases mc ht with rfl | ht; exact absurd rfl hne; rcases mc ht with rfl | ht; exact hJ.apart (26, 10) mm1 (25, 9) mm0 (by show 26 ≠ 25; decide) (hcl 28 (by show 28 < 30; decide) hLt 26 (by decide)) (hp 25 (by decide)); cases ht) (by kernel_rfl) (by kernel_rfl) (by decide) (by rfl) hgB hr0 hn0 rfl (NoW.two _ _ _ _) ⟨_, _, _, _, rfl, e22'⟩ (by omega)⟩
            · intro L fx w' hJ hL hp hcl;have e26 := hJ.slot 26 (by show 26 < 30; decide) (hp 26 (by decide));have e23 := hJ.slot 23 (by show 23 < 30; decide) (hp 23 (by decide));have e23' := e23;obtain ⟨b7, o7, l7, k7, hv0⟩ := OwnI.parts e23;rw [hv0] at e23';rw [patchX (x := fx) (d := 71) (v := (.agg #[.bool b7, .slice o7 l7 k7])) hv0] at hJ ⊢;obtain ⟨g, cs, hx, hgB, hr0, hn0, hl0⟩ := e26;obtain ⟨z0, z1, rfl⟩ : ∃ z0 z1, cs = [z0, z1] := list2 hl0;have hf0 := RowAt.free hr0 0;have hc0 := RowAt.cell hr0 0;have hf1 := RowAt.free hr0 1;have hc1 := RowAt.cell hr0 1;try dsimp only at hf0 hc0 hf1 hc1
              have hx1 := hx;rw [patchX (x := (updX fx 71 (.agg #[.bool b7, .slice o7 l7 k7]))) (d := 10) hx] at hJ ⊢;refine wps rfl fun K hK => ?_;go_simp;exact hK _ _ ⟨_, by kernel_rfl, hJ.storeNew (us := [.bool b7, .slice o7 l7 k7]) 28 10 _ _ (by show 28 < 30; decide) rfl mm1 (by intro t ht h; rcases mc ht with rfl | ht; exact absurd (show 27 = 28 from h) (by decide); rcases mc ht with rfl | ht; rfl; cases ht) (by intro t ht hne hLt; rcases mc ht with rfl | ht; exact hJ.apart (25, 9) mm0 (26, 10) mm1 (by show 25 ≠ 26; decide) (hcl 27 (by show 27 < 30; decide) hLt 25 (by decide)) (hp 26 (by decide)); rcases mc ht with rfl | ht; exact absurd rfl hne; cases ht) (by kernel_rfl) (by kernel_rfl) (by decide) (by rfl) hgB hr0 hn0 rfl (NoW.two _ _ _ _) ⟨_, _, _, _, rfl, e23'⟩ (by omega)⟩
            · intro L fx w' hJ hL hp hcl;have e24 := hJ.pt 24 72 (.int .i64 0) rfl rfl rfl (hp 24 (by decide));rw [e24] at hJ ⊢; clear e24;refine wps rfl fun K hK => ?_;go_simp;exact hJ.q hK (by kernel_rfl) rfl
          · intro L x' w3 hL hJ;have hfr : Below wr.drew.heap.size wr.drew w3 := hJ.fr;obtain ⟨g9, cs9, hx9, hg9, hr9, b9, o9, l9, k9, hcs9, hI9⟩ := hJ.new _ mm0 (hL 27 (by show 27 < 30; decide));subst hcs9;have hx9 : x' 9 = _ := hx9;rw [patchX (x := x') (d := 9) hx9];have hg9 : wr.heap.size <= g9 := hg9;have G9 : Hid (RowAt w3 g9 33 [.bool b9, .slice o9 l9 k9]) := Lib.hid hr9;have I9 : Hid (OwnI w3 0 (.agg #[.bool b9, .slice o9 l9 k9]) (xi.fdiv xk)) := Lib.hid hI9;clear hJ hL hx9 hr9 hI9 cb ci ck ci0 ci1 ck0 ck1;have L3 := Lib.hid (LadAt.below (w := wr.drew) hL2.out.drew hfr);have C3 := Lib.hid (hC2.out.drew.below hfr);have R3 := Lib.hid (RowAt.below (w := wr.drew) hG2.out hfr hG2.out.lt);clear hL2 hC2 hG2;simp only [pN, Nat.reduceEqDiff, ↓reduceIte];have q0 : w3.cell? ⟨g9, 0, none⟩ = some (.bool b9) := G9.out.cell 0;have q1 : w3.cell? ⟨g9, 1, none⟩ = some (.slice o9 l9 k9) := G9.out.cell 1;go_wp2_with fail
            clear q0 q1;have hqw : wlen ((xi.fdiv xk)).natAbs <= B + 2 := fdiv_wlen Hpz.out hwi;refine (INeg_c _ (xi.fdiv xk) _ (OwnI.int I9.out (by omega))).mono ?_;rintro e w4 ⟨⟨vn, rfl, hn4⟩, hb4⟩;have L4 := Lib.hid (L3.out.below hb4);have C4 := Lib.hid (C3.out.below hb4);have R4 := Lib.hid (R3.out.below hb4 R3.out.lt);have N4 := Lib.hid (OwnI.int (L := B + 2) hn4 (by rw [Int.natAbs_neg]; exact hqw));clear hb4 hn4 L3 C3 R3 G9 I9;go_wp2_with fail
            have hlx : R2[ii].xs.length = R2[kk].xs.length := by rw [HF2.out.len _ (List.getElem_mem hiR), HF2.out.len _ (List.getElem_mem hkR)]
            have hlen2 : R2[ii].xs.length <= 4611686018427387903 := by rw [HF2.out.len _ (List.getElem_mem hiR)]; omega
            refine (MAdd_c (S.withR R2) ii kk vn (-(xi.fdiv xk)) (B + 2) B _ L4.out hiR hkR (by omega) N4.out hlx (fun x hx => by have := HF2.out.fit _ (List.getElem_mem hiR) x hx; omega) (fun y hy => HF2.out.fit _ (List.getElem_mem hkR) y hy) (by omega) hlen2 (HT.out.good R2) (HT.out.okR HF2.out) (by omega)).mono ?_;rintro e w5 ⟨rfl, hL5, hC5⟩;have hns : ¬ (S.withR R2).own gl := fun h => Hso.out ((Hown2.out gl).1 h);have R5 := Lib.hid (hC5.row R4.out hns);have C5 := Lib.hid (C4.out.trans (hC5.mono (fun k _ e => (Hown2.out k).1 e)));have L5 := Lib.hid hL5;have he : addT R2 ii kk (-((ent R2 ii jj).fdiv (ent R2 kk jj))) = addR R2 ii kk (-(xi.fdiv xk)) hiR hkR := by
             rw [ent_eq hiR hjl, ent_eq hkR hjk, Hxi.out, Hxk.out, addT_eq hiR hkR]
            have HE := Lib.hid he;clear hC5 hL5 L4 C4 R4 N4 he hlx;go_wp2;go_roundw
            case rel =>
             have h3 := HI3.out;rw [HE.out] at h3;exact ⟨kk + 1, _, by omega, by omega, by go_num, Lib.hid (by unfold addR; rw [setXs_length]; exact hR2.out), h3, L5, R5, C5, Lib.hid (fun k => (own_setXs (S.withR R2) ii _ k).trans (Hown2.out k))⟩
            case measure => simp [intOf]; omega
        · obtain rfl : R2 = R1' := HI2.out.fin (by omega);have hkk : kk = m := by omega
          have Hkk := Lib.hid hkk; clear hkk;go_wp2;go_roundw
          case rel => exact ⟨ii, R2, by omega, by go_num, hR2, HO', hL2, hG2, hC2, Hown2⟩
          case measure => simp [intOf]
end Go.Proofs.YtcpjoiffkniccaaGreat
namespace Go.Proofs.YtcpjoiffkniccaaGreat
def extM (r0 r1 : Nat) (m0 m1 : Int) : Nat × Int :=
 if h : r1 = 0 then (r0, m0) else extM r1 (r0 % r1) m1 (m0 - ((r0 / r1 : Nat) : Int) * m1)
termination_by r1
decreasing_by exact Nat.mod_lt _ (Nat.pos_of_ne_zero h)
theorem extM_inv {A : Nat} {b : Int} : ∀ (r1 r0 : Nat) (m0 m1 : Int), EInv A b r0 r1 m0 m1 -> ∃ m', EInv A b (extM r0 r1 m0 m1).1 0 (extM r0 r1 m0 m1).2 m' := by
 intro r1;induction r1 using Nat.strongRecOn with
 | _ r1 ih =>
  intro r0 m0 m1 h;by_cases h0 : r1 = 0
  · subst h0; rw [extM]; exact ⟨m1, by simpa using h⟩
  · rw [extM, dif_neg h0];exact ih (r0 % r1) (Nat.mod_lt _ (Nat.pos_of_ne_zero h0)) _ _ _ (h.step h0)
def extG (a b : Int) : Int := if b = 0 then a.natAbs else (extM a.natAbs b.natAbs 1 0).1
def extX (a b : Int) : Int := if b = 0 then a.sign else (if a < 0 then -(extM a.natAbs b.natAbs 1 0).2 else (extM a.natAbs b.natAbs 1 0).2) % (b / extG a b)
def extY (a b : Int) : Int := if b = 0 then 0 else (extG a b - a * extX a b) / b
theorem ext_is (a b : Int) : ExtIs a b (extG a b) (extX a b) (extY a b) := by
 by_cases hb : b = 0
 · unfold ExtIs extG extX extY; simp [hb]
 · obtain ⟨m', h⟩ := extM_inv _ _ _ _ (EInv.start a.natAbs hb);obtain ⟨h1, h2⟩ := h.done hb;have hg : extG a b = ((extM a.natAbs b.natAbs 1 0).1 : Int) := by unfold extG; rw [if_neg hb]
   have h3 := (ext_last (m := if a < 0 then -(extM a.natAbs b.natAbs 1 0).2 else (extM a.natAbs b.natAbs 1 0).2) hb (hg.trans h1) (by rw [hg]; exact h2)).2.2.2;have hx : extX a b = (if a < 0 then -(extM a.natAbs b.natAbs 1 0).2 else (extM a.natAbs b.natAbs 1 0).2) % (b / extG a b) := by
    unfold extX; rw [if_neg hb]
   have hy : extY a b = (extG a b - a * extX a b) / b := by unfold extY; rw [if_neg hb]
   rw [hy, hx];exact h3
theorem ExtIs.unique {a b g x y g' x' y' : Int} (h : ExtIs a b g x y) (h' : ExtIs a b g' x' y') : g = g' /\ x = x' /\ y = y' := by
 unfold ExtIs at h h';by_cases hb : b = 0
 · rw [if_pos hb] at h h';obtain ⟨h1, h2, h3⟩ := h;obtain ⟨h1', h2', h3'⟩ := h';exact ⟨h1.trans h1'.symm, h2.trans h2'.symm, h3.trans h3'.symm⟩
 · rw [if_neg hb] at h h';obtain ⟨h1, h2, h3, h4⟩ := h;obtain ⟨h1', h2', h3', h4'⟩ := h';have hg : g = g' := h1.trans h1'.symm;subst hg;have hgb : g ∣ b := h1 ▸ Int.gcd_dvd_right ..;have hga : g ∣ a := h1 ▸ Int.gcd_dvd_left ..;obtain ⟨c, hc⟩ := hgb;obtain ⟨e, he⟩ := hga;have hg0 : g ≠ 0 := fun hh => hb (by rw [hc, hh, Int.zero_mul]);have hgp : 0 < g := by rw [h1] at hg0 ⊢; omega
   have k1 : e * x + c * y = 1 := by
    have : g * (e * x + c * y) = g * 1 := by rw [Int.mul_add, <- Int.mul_assoc, <- Int.mul_assoc, <- he, <- hc, h4, Int.mul_one]
    exact Int.eq_of_mul_eq_mul_left hg0 this
   have k2 : e * x' + c * y' = 1 := by
    have : g * (e * x' + c * y') = g * 1 := by rw [Int.mul_add, <- Int.mul_assoc, <- Int.mul_assoc, <- he, <- hc, h4', Int.mul_one]
    exact Int.eq_of_mul_eq_mul_left hg0 this
   have hcb : (b.natAbs : Int) = c.natAbs * g := by
    rw [hc, Int.natAbs_mul, Int.natCast_mul, Int.natAbs_of_nonneg (Int.le_of_lt hgp), Int.mul_comm]
   rw [hcb] at h3 h3';have hx : x < c.natAbs := Int.lt_of_mul_lt_mul_right h3 (Int.le_of_lt hgp);have hx' : x' < c.natAbs := Int.lt_of_mul_lt_mul_right h3' (Int.le_of_lt hgp);have hdv : c ∣ x - x' := by
    have e1 : x - x' = c * (x * y' - x' * y) := by
     have e2 : x * (e * x' + c * y') - x' * (e * x + c * y) = x - x' := by rw [k1, k2]; omega
     rw [<- e2];simp only [Int.mul_add, Int.mul_sub];have e3 : x * (e * x') = x' * (e * x) := by rw [Int.mul_left_comm, Int.mul_left_comm x' e x, Int.mul_comm x x']
     have e4 : x * (c * y') = c * (x * y') := Int.mul_left_comm ..;have e5 : x' * (c * y) = c * (x' * y) := Int.mul_left_comm ..;rw [e3, e4, e5]; omega
    exact ⟨_, e1⟩
   have hxx : x = x' := by
    have hn := Int.natAbs_dvd_natAbs.2 hdv;have hlt : (x - x').natAbs < c.natAbs := by omega
    have := Nat.eq_zero_of_dvd_of_lt hn hlt;omega
   subst hxx;refine ⟨rfl, rfl, ?_⟩;have : b * y = b * y' := by omega
   exact Int.eq_of_mul_eq_mul_left hb this
end Go.Proofs.YtcpjoiffkniccaaGreat
