/- Part 6 of 9 of the proof that the law ModhnfInserts returns true for every input of bulk at most 1048576 and leaves its arguments as they were: here the contracts of the functions that it calls, and plain lemmas. -/
import Derived.Test.YtjjlmfmoihooiaaGreatIsE
set_option linter.all false
set_option maxRecDepth 100000
set_option maxHeartbeats 8000000
namespace Go.Proofs.YtjjlmfmoihooiaaGreat
open Go.RowKit
def lead : List Int -> Nat
 | [] => 0
 | x :: xs => if x = 0 then lead xs + 1 else 0
theorem pQ : ∀ xs : List Int, lead xs <= xs.length
 | [] => Nat.le_refl _
 | x :: xs => by
  unfold lead; split
  · have := pQ xs; simp; omega
  · simp
theorem tF : ∀ (xs : List Int) (k : Nat) (h : k < xs.length), (∀ i (h' : i < k), xs[i]'(by omega) = 0) -> xs[k] ≠ 0 -> lead xs = k
 | x :: xs, 0, _, _, hn => by unfold lead; rw [if_neg]; simpa using hn
 | x :: xs, k + 1, h, hz, hn => by
  have h0 : x = 0 := hz 0 (by omega);unfold lead; rw [if_pos h0, tF xs k (by simpa using h) (fun i hi => by have := hz (i + 1) (by omega); simpa using this) (by simpa using hn)]
theorem rz : ∀ (xs : List Int), (∀ i (h : i < xs.length), xs[i] = 0) -> lead xs = xs.length
 | [], _ => rfl
 | x :: xs, hz => by
  have h0 : x = 0 := hz 0 (by simp);unfold lead; rw [if_pos h0, rz xs (fun i hi => by have := hz (i + 1) (by simpa using hi); simpa using this)]; rfl
theorem jk (b cap : Nat) (xs : List Int) (w : World) (hR : aK w b xs) (hL : ∀ x ∈ xs, ag x.natAbs <= 17592186044415) (hlen : xs.length <= 9223372036854775807) :
 Calls Tryz.prog 44 #[.slice (some ⟨b, 0, none⟩) xs.length cap] w fun e w' => e = .returned (.int .i64 (lead xs : Nat)) /\ Below w.heap.size w w' := by
 have HL := hi_ hL; clear hL;have HR := hi_ hR; clear hR;go_enter Tryz.func44, Tryz.ntmps44;go_wp2;go_loopw [7] (fun i wr => ∃ k : Nat, k <= xs.length /\ i = .int .i64 (k : Int) /\ Hid (∀ j (h : j < k) (h' : j < xs.length), xs[j] = 0) /\ Below w.heap.size w wr) (fun i _ => xs.length - (intOf i).toNat)
 case atStart => exact ⟨0, Nat.zero_le _, rfl, fun j h => by omega, Below.refl _ _⟩
 case round =>
  obtain ⟨k, hk, rfl, hz, hb⟩ := hrel;by_cases hkl : k < xs.length
  · have hR2 := HR.out.below hb;obtain ⟨p, hc0, hc1, hn⟩ := hR2.get hkl;have hkl' : (k : Int) < (xs.length : Int) := by omega
    have HN := hi_ hn;clear hn;go_wp2_with fail
    have hb1 : Below wr.heap.size wr (wr.alloc (.cells #[.bool p.fst, .slice p.snd.fst p.snd.snd.fst p.snd.snd.snd] 37)) := (Below.refl _ _).alloc (Nat.le_refl _) _;refine (bN (av p) xs[k] _ ((HN.out.int (HL.out _ (List.getElem_mem hkl))).below hb1)).mono ?_;rintro e w2 ⟨rfl, hb2⟩;have hb3 : Below w.heap.size w w2 := hb.trans ((hb1.trans (hb2.mono hb1.size)).mono hb.size);have HB3 := hi_ hb3;clear hb1 hb2 hb3 hc0 hc1;by_cases h0 : xs[k] = 0
    · have hz0 : aO xs[k] = 0 := cS.2 h0;rw [hz0];have H0 := hi_ h0;clear h0 hz0;go_wp2;go_roundw
      case rel => exact ⟨k + 1, by omega, by go_num, hi_ (fun j hj hj' => (Nat.lt_succ_iff_lt_or_eq.1 hj).elim (fun h => hz.out j h hj') (fun h => by subst h; exact H0.out)), HB3.out⟩
      case measure => simp [intOf]; omega
    · have hn0 : ¬ aO xs[k] = 0 := fun h => h0 (cS.1 h);have hle := tF xs k hkl (fun i h' => hz.out i h' (by omega)) h0;have HLE := hi_ hle;obtain ⟨s, hs⟩ : ∃ s, aO xs[k] = s := ⟨_, rfl⟩;rw [hs] at hn0 ⊢;have hb0 : (s != 0) = true := by simpa using hn0
      clear h0 hle hs;go_wp2;go_ret;rw [HLE.out];exact ⟨rfl, HB3.out⟩
  · obtain rfl : k = xs.length := by omega
    have hle := rz xs (fun i h => hz.out i h h);have HLE := hi_ hle;clear hle;go_wp2;go_ret;rw [HLE.out];exact ⟨rfl, hb⟩
def fs (k : Int) (xs ys : List Int) : List Int := List.zipWith (fun x y => k * y + x) xs ys
def iH (k : Int) (xs ys cu : List Int) (m : Nat) : Prop := cu.length = xs.length /\ (∀ j (h : j < cu.length) (h1 : j < xs.length) (h2 : j < ys.length), j < m -> cu[j] = k * ys[j] + xs[j]) /\ (∀ j (h : j < cu.length) (h1 : j < xs.length), m <= j -> cu[j] = xs[j])
theorem iH.start (k : Int) (xs ys : List Int) : iH k xs ys xs 0 := ⟨rfl, fun _ _ _ _ h => by omega, fun _ _ _ _ => rfl⟩
theorem iH.next {k : Int} {xs ys cu : List Int} {m : Nat} (h : iH k xs ys cu m) (hm : m < xs.length) (hl : xs.length = ys.length) : iH k xs ys (cu.set m (k * ys[m] + xs[m])) (m + 1) := by
 obtain ⟨h1, h2, h3⟩ := h;refine ⟨by simpa using h1, fun j hj hx hy hjm => ?_, fun j hj hx hjm => ?_⟩
 · rw [List.getElem_set];split
   · rename_i e; subst e; rfl
   · exact h2 j (by simpa using hj) hx hy (by omega)
 · rw [List.getElem_set, if_neg (by omega)];exact h3 j (by simpa using hj) hx (by omega)
theorem iH.skip {k : Int} {xs ys cu : List Int} {m : Nat} (h : iH k xs ys cu m) (hm : m < xs.length) (hl : xs.length = ys.length) (h0 : ys[m] = 0) : iH k xs ys cu (m + 1) := by
 obtain ⟨h1, h2, h3⟩ := h;refine ⟨h1, fun j hj hx hy hjm => ?_, fun j hj hx hjm => h3 j hj hx (by omega)⟩;by_cases e : j = m
 · subst e; rw [h3 j hj hx (Nat.le_refl _), h0]; simp
 · exact h2 j hj hx hy (by omega)
theorem iH.all {k : Int} {xs ys cu : List Int} (h : iH k xs ys cu xs.length) (hl : xs.length = ys.length) : cu = fs k xs ys := by
 obtain ⟨h1, h2, h3⟩ := h;refine List.ext_getElem (by simp [fs, h1, <- hl]) fun j hj hj' => ?_;rw [h2 j hj (by omega) (by omega) (by omega)];simp [fs]
theorem Ay (bx by_ cx cy LA LB : Nat) (xs ys : List Int) (kv : Value) (k : Int) (w : World) (hX : aK w bx xs) (hY : aK w by_ ys) (hK : ai w LA kv k) (hne : bx ≠ by_) (hl : xs.length = ys.length)
 (hxL : ∀ x ∈ xs, ag x.natAbs <= 17592186044415) (hyL : ∀ y ∈ ys, ag y.natAbs <= LB) (hLab : LA + LB <= 17592186044415) (hlen : xs.length <= 4611686018427387903) :
 Calls Tryz.prog 114 #[.slice (some ⟨bx, 0, none⟩) xs.length cx, .slice (some ⟨by_, 0, none⟩) ys.length cy, kv] w fun e w' => e = .returned (.tuple #[]) /\ aK w' bx (fs k xs ys) /\ aN (· = bx) w w' := by
 obtain ⟨kp, rfl⟩ := hK.parts;have HX := hi_ hX; clear hX;have HY := hi_ hY; clear hY;have HK := hi_ hK; clear hK;have HXL := hi_ hxL; clear hxL;have HYL := hi_ hyL; clear hyL;have Hl := hi_ hl; clear hl;go_enter Tryz.func114, Tryz.ntmps114;unfold av at *;go_wp2;have hb1 : Below w.heap.size w (w.alloc (.cells #[.bool kp.1, .slice kp.2.1 kp.2.2.1 kp.2.2.2] 37)) := (Below.refl _ _).alloc (Nat.le_refl _) _;have hr1 := aa.new w #[.bool kp.1, .slice kp.2.1 kp.2.2.1 kp.2.2.2] 37;generalize w.alloc (.cells #[.bool kp.1, .slice kp.2.1 kp.2.2.1 kp.2.2.2] 37) = w1 at *;have HB1 := hi_ (aN.aU (S := (· = bx)) hb1);have HX1 := hi_ (HX.out.below hb1);have HY1 := hi_ (HY.out.below hb1);have HK1 := hi_ (HK.out.below hb1);have HR1 := hi_ hr1;have hs1 : w.heap.size < w1.heap.size := hr1.lt;have hbx := HX.out.lt;have hby := HY.out.lt;clear hr1 hb1;go_loopw [9] (fun i wr => ∃ (m : Nat) (cu : List Int), m <= xs.length /\ i = .int .i64 (m : Int) /\ Hid (iH k xs ys cu m) /\ Hid (aK wr bx cu) /\ Hid (aK wr by_ ys) /\ Hid (aa wr w.heap.size 37 [.bool kp.1, .slice kp.2.1 kp.2.2.1 kp.2.2.2]) /\ Hid (ai wr LA (av kp) k) /\ Hid (aN (· = bx) w wr)) (fun i _ => xs.length - (intOf i).toNat)
 case atStart => exact ⟨0, xs, Nat.zero_le _, rfl, iH.start .., HX1, HY1, HR1, HK1, HB1⟩
 case round =>
  obtain ⟨m, cu, hm, rfl, HA, hX, hY, hR, hK, hC⟩ := hrel;by_cases hml : m < xs.length
  · have hmy : m < ys.length := by have := Hl.out; omega
    have hmx : m < cu.length := by rw [HA.out.1]; exact hml
    have hm1 : (m : Int) < (ys.length : Int) := by omega
    have hm2 : (m : Int) < (xs.length : Int) := by omega
    obtain ⟨py, cy0, cy1, hny⟩ := hY.out.get hmy;have Hny := hi_ hny; clear hny;go_wp2_with fail
    refine (bN (av py) ys[m] _ (Hny.out.int (by have := HYL.out _ (List.getElem_mem hmy); omega))).mono ?_;rintro e w2 ⟨rfl, hb2⟩;clear cy0 cy1;have X2 := hi_ (hX.out.below hb2);have Y2 := hi_ (hY.out.below hb2);have R2 := hi_ (hR.out.below hb2 hR.out.lt);have K2 := hi_ (hK.out.below hb2);have C2 := hi_ (hC.out.below hb2);have N2 := hi_ (Hny.out.below hb2);have hsw := hC.out.size;have hsw2 := hb2.size;have hswr := hR.out.lt;clear hX hY hR hK hC Hny hb2;by_cases h0 : ys[m] = 0
    · have hz0 : aO ys[m] = 0 := cS.2 h0;rw [hz0];have H0 := hi_ h0;clear h0 hz0;go_wp2;go_roundw
      case rel => exact ⟨m + 1, cu, by omega, by go_num, HA.out.skip hml Hl.out H0.out, X2, Y2, R2, K2, C2⟩
      case measure => simp [intOf]; omega
    · have hn0 : ¬ aO ys[m] = 0 := fun h => h0 (cS.1 h);obtain ⟨s, hs⟩ : ∃ s, aO ys[m] = s := ⟨_, rfl⟩;rw [hs] at hn0 ⊢;have hb0 : (s != 0) = true := by simpa using hn0
      clear h0 hs;go_wp2;clear hb0 hn0;obtain ⟨px, cx0, cx1, hnx⟩ := X2.out.get hmx;obtain ⟨py, cy0, cy1, hny⟩ := Y2.out.get hmy;have ck0 : w2.cell? ⟨w.heap.size, 0, none⟩ = some (.bool kp.1) := R2.out.cell 0;have ck1 : w2.cell? ⟨w.heap.size, 1, none⟩ = some (.slice kp.2.1 kp.2.2.1 kp.2.2.2) := R2.out.cell 1;have hbx2 := X2.out.lt;have hby2 := Y2.out.lt;have hsk2 := R2.out.lt;have hxe : cu[m] = xs[m] := HA.out.2.2 m hmx hml (Nat.le_refl _);have hxw : ag (cu[m]).natAbs <= 17592186044415 := by rw [hxe]; exact HXL.out _ (List.getElem_mem hml)
      have hyw : ag (ys[m]).natAbs <= LB := HYL.out _ (List.getElem_mem hmy);have HXE := hi_ hxe; clear hxe;have Hnx := hi_ (hnx.int hxw); clear hnx;have Hny := hi_ (hny.int hyw); clear hny;clear N2;refine dM ⟨13, fun q_ => [18, 19, 20, 21, 22, 23, 24, 25, 26, 27, 28, 29, 30].getD q_ 0,
       fun q_ => [.val (.slice (some ⟨bx, 0, none⟩) xs.length cx), .val (.int .i64 (m : Int)), .val (.agg #[.bool kp.1, .slice kp.2.1 kp.2.2.1 kp.2.2.2]), .val (.slice (some ⟨by_, 0, none⟩) ys.length cy), .val (.int .i64 (m : Int)), .val (.pointer (some ⟨by_, m * 2, none⟩)), .val (.agg #[.bool py.1, .slice py.2.1 py.2.2.1 py.2.2.2]), .val (.slice (some ⟨bx, 0, none⟩) xs.length cx), .val (.int .i64 (m : Int)), .val (.pointer (some ⟨bx, m * 2, none⟩)), .val (.agg #[.bool px.1, .slice px.2.1 px.2.2.1 px.2.2.2]), .int 0 (k * ys[m] + cu[m]), .val (.pointer (some ⟨bx, m * 2, none⟩))].getD q_ .any,
       [],
       [(.agg #[.bool kp.1, .slice kp.2.1 kp.2.2.1 kp.2.2.2], .at_ LA k), (.agg #[.bool py.1, .slice py.2.1 py.2.2.1 py.2.2.2], .at_ LB ys[m]), (.agg #[.bool px.1, .slice px.2.1 px.2.2.1 px.2.2.2], .at_ 17592186044415 cu[m])],
       [],
       [], [(⟨w.heap.size, 0, none⟩, .bool kp.1), (⟨w.heap.size, 1, none⟩, .slice kp.2.1 kp.2.2.1 kp.2.2.2), (⟨by_, m * 2, none⟩, .bool py.1), (⟨by_, m * 2 + 1, none⟩, .slice py.2.1 py.2.2.1 py.2.2.2), (⟨bx, m * 2, none⟩, .bool px.1), (⟨bx, m * 2 + 1, none⟩, .slice px.2.1 px.2.2.1 px.2.2.2)], []⟩ [18, 19, 20, 21, 22, 23, 24, 25, 26, 27, 28, 29, 30] (w2.heap.size) (by kernel_rfl) (by kernel_rfl) (by kernel_rfl) (by kernel_rfl) (by kernel_rfl) ?_ ?_ ?_ ?_ ?_ ?_
      · exact bD (K2.out) (bD (Hny.out) (bD (Hnx.out) aX))
      · exact aX
      · exact bD (⟨ck0, by dsimp only; omega, aX⟩) (bD (⟨ck1, by dsimp only; omega, aX⟩) (bD (⟨cy0, by dsimp only; omega, aX⟩) (bD (⟨cy1, by dsimp only; omega, aX⟩) (bD (⟨cx0, by dsimp only; omega, aX⟩) (bD (⟨cx1, by dsimp only; omega, aX⟩) aX)))))
      · exact aX
      · refine ak ?_ (ak ?_ (ak ?_ (ak ?_ (ak ?_ (ak ?_ (ak ?_ (ak ?_ (ak ?_ (ak ?_ (ak ?_ (ak ?_ (ak ?_ kj))))))))))));any_goals (first | (intro L fx w' hJ hL hp hcl; have _ := sr hp (by decide +kernel); refine aP rfl fun K hK => ?_; go_simp; exact hJ.q hK (by kernel_rfl) rfl) | fail)
        · intro L fx w' hJ hL hp hcl;refine aP rfl fun K hK => ?_;have cl0 := (hJ.cells _ fL).1;have cl1 := (hJ.cells _ iQ).1;try dsimp only at cl0 cl1
          go_simp;exact hJ.q hK (by kernel_rfl) rfl
        · intro L fx w' hJ hL hp hcl;have e3 := hJ.pt 3 21 (.slice (some ⟨by_, 0, none⟩) ys.length cy) rfl rfl rfl (hp 3 (by decide));rw [e3] at hJ ⊢; clear e3;have e4 := hJ.pt 4 22 (.int .i64 (m : Int)) rfl rfl rfl (hp 4 (by decide));rw [e4] at hJ ⊢; clear e4;refine aP rfl fun K hK => ?_;go_simp;exact hJ.q hK (by kernel_rfl) rfl
        · intro L fx w' hJ hL hp hcl;have e5 := hJ.pt 5 23 (.pointer (some ⟨by_, m * 2, none⟩)) rfl rfl rfl (hp 5 (by decide));rw [e5] at hJ ⊢; clear e5;refine aP rfl fun K hK => ?_;have cl0 := (hJ.cells _ qc).1;have cl1 := (hJ.cells _ vf).1;try dsimp only at cl0 cl1
          go_simp;exact hJ.q hK (by kernel_rfl) rfl
        · intro L fx w' hJ hL hp hcl;have e7 := hJ.pt 7 25 (.slice (some ⟨bx, 0, none⟩) xs.length cx) rfl rfl rfl (hp 7 (by decide));rw [e7] at hJ ⊢; clear e7;have e8 := hJ.pt 8 26 (.int .i64 (m : Int)) rfl rfl rfl (hp 8 (by decide));rw [e8] at hJ ⊢; clear e8;refine aP rfl fun K hK => ?_;go_simp;exact hJ.q hK (by kernel_rfl) rfl
        · intro L fx w' hJ hL hp hcl;have e9 := hJ.pt 9 27 (.pointer (some ⟨bx, m * 2, none⟩)) rfl rfl rfl (hp 9 (by decide));rw [e9] at hJ ⊢; clear e9;refine aP rfl fun K hK => ?_;have cl0 := (hJ.cells _ mm4).1;have cl1 := (hJ.cells _ mm5).1;try dsimp only at cl0 cl1
          go_simp;exact hJ.q hK (by kernel_rfl) rfl
        · intro L fx w' hJ hL hp hcl;have e2 := hJ.pt 2 20 (.agg #[.bool kp.1, .slice kp.2.1 kp.2.2.1 kp.2.2.2]) rfl rfl rfl (hp 2 (by decide));rw [e2] at hJ ⊢; clear e2;have e6 := hJ.pt 6 24 (.agg #[.bool py.1, .slice py.2.1 py.2.2.1 py.2.2.2]) rfl rfl rfl (hp 6 (by decide));rw [e6] at hJ ⊢; clear e6;have e10 := hJ.pt 10 28 (.agg #[.bool px.1, .slice px.2.1 px.2.2.1 px.2.2.2]) rfl rfl rfl (hp 10 (by decide));rw [e10] at hJ ⊢; clear e10;refine aP rfl fun K hK => ?_;go_simp;go_at_call 94;refine (gP _ _ _ k ys[m] cu[m] LA LB _ (show ai w' (LA) (.agg #[.bool kp.1, .slice kp.2.1 kp.2.2.1 kp.2.2.2]) (k) from hJ.base _ fL) (show ai w' (LB) (.agg #[.bool py.1, .slice py.2.1 py.2.2.1 py.2.2.2]) (ys[m]) from hJ.base _ iQ) (show ai w' (17592186044415) (.agg #[.bool px.1, .slice px.2.1 px.2.2.1 px.2.2.2]) (cu[m]) from hJ.base _ qc) hLab).mono ?_;rintro e w4 ⟨⟨v5, rfl, h5⟩, hb4⟩;try dsimp only
          exact hK _ _ ⟨_, by kernel_rfl, hJ.gC 11 rfl (by kernel_rfl) hb4 (aj.mono h5 (Nat.zero_le _)) (by omega)⟩
        · intro L fx w' hJ hL hp hcl;have e0 := hJ.pt 0 18 (.slice (some ⟨bx, 0, none⟩) xs.length cx) rfl rfl rfl (hp 0 (by decide));rw [e0] at hJ ⊢; clear e0;have e1 := hJ.pt 1 19 (.int .i64 (m : Int)) rfl rfl rfl (hp 1 (by decide));rw [e1] at hJ ⊢; clear e1;refine aP rfl fun K hK => ?_;go_simp;exact hJ.q hK (by kernel_rfl) rfl
      · intro L x' w3 hL hJ;have hfr : Below w2.drew.heap.size w2.drew w3 := hJ.fr;have e11 : aj w3 0 (x' 29) (k * ys[m] + cu[m]) := hJ.slot 11 (by show 11 < 13; decide) (hL 11 (by show 11 < 13; decide));have e12 : x' 30 = .pointer (some ⟨bx, m * 2, none⟩) := hJ.slot 12 (by show 12 < 13; decide) (hL 12 (by show 12 < 13; decide));obtain ⟨pz, hpz⟩ := aH.parts e11.num;rw [hpz] at e11;unfold av at hpz;rw [aC (x := x') (d := 29) hpz];rw [aC (x := bf x' 29 (.agg #[.bool pz.1, .slice pz.2.1 pz.2.2.1 pz.2.2.2])) (d := 30) (v := .pointer (some ⟨bx, m * 2, none⟩)) e12];clear hJ hL;have X3 := hi_ (aK.below (w := w2.drew) X2.out hfr);have Y3 := hi_ (aK.below (w := w2.drew) Y2.out hfr);have R3 := hi_ (aa.below (w := w2.drew) R2.out hfr R2.out.lt);have K3 := hi_ (ai.below (w := w2.drew) K2.out hfr);have C3 := hi_ (C2.out.drew.below hfr);obtain ⟨pq, q0, q1, _⟩ := X3.out.get hmx;have q2 := X3.out.free (m * 2);have q3 := X3.out.free (m * 2 + 1);refine aP rfl fun K hK => ?_;go_simp;refine hK _ _ ⟨⟨bf (bf x' 29 (.agg #[.bool pz.1, .slice pz.2.1 pz.2.2.1 pz.2.2.2])) 30 (.pointer (some ⟨bx, m * 2, none⟩)), by kernel_rfl⟩, ?_⟩;clear hK q0 q1 q2 q3;go_wp2;go_roundw
        case rel =>
         refine ⟨m + 1, _, by omega, by go_num, ?_, hi_ (X3.out.set m e11.num), hi_ (X3.out.qa Y3.out (fun e => hne e.symm) m pz), hi_ ((R3.out.other (by show w.heap.size ≠ bx; omega) _).other (by show w.heap.size ≠ bx; omega) _), hi_ (X3.out.dP K3.out m pz), hi_ ((C3.out.set rfl _).set rfl _)⟩;rw [HXE.out];exact HA.out.next hml Hl.out
        case measure => simp [intOf]; omega
  · obtain rfl : m = xs.length := by omega
    have he := HA.out.all Hl.out;have HE := hi_ he;clear he;go_wp2;refine bodyPost_end (results_none (by kernel_rfl) _ _ _) rfl ?_;rw [<- HE.out];exact ⟨rfl, hX.out, hC.out⟩
def CV.cells (cs : List Value) : CV := CV.free (fun _ v => v = cs) (fun h _ => h) (fun h _ _ _ _ _ _ => h)
def fX (a b : Int) (xs ys : List Int) : List Int := List.zipWith (fun u v => a * u + b * v) xs ys
def iU (a b : Int) (xs ys zs cu : List Int) (m : Nat) : Prop := cu.length = zs.length /\ (∀ j (h : j < cu.length) (h1 : j < xs.length) (h2 : j < ys.length), j < m -> cu[j] = a * xs[j] + b * ys[j]) /\ (∀ j (h : j < cu.length) (h1 : j < zs.length), m <= j -> cu[j] = zs[j])
theorem iU.start (a b : Int) (xs ys zs : List Int) : iU a b xs ys zs zs 0 := ⟨rfl, fun _ _ _ _ h => by omega, fun _ _ _ _ => rfl⟩
theorem iU.next {a b : Int} {xs ys zs cu : List Int} {m : Nat} (h : iU a b xs ys zs cu m) (hx : m < xs.length) (hy : m < ys.length) : iU a b xs ys zs (cu.set m (a * xs[m] + b * ys[m])) (m + 1) := by
 obtain ⟨h1, h2, h3⟩ := h;refine ⟨by simpa using h1, fun j hj hx hy hjm => ?_, fun j hj hx hjm => ?_⟩
 · rw [List.getElem_set];split
   · rename_i e; subst e; rfl
   · exact h2 j (by simpa using hj) hx hy (by omega)
 · rw [List.getElem_set, if_neg (by omega)];exact h3 j (by simpa using hj) hx (by omega)
theorem iU.all {a b : Int} {xs ys zs cu : List Int} (h : iU a b xs ys zs cu xs.length) (hl : xs.length = ys.length) (hz : xs.length = zs.length) : cu = fX a b xs ys := by
 obtain ⟨h1, h2, h3⟩ := h;refine List.ext_getElem (by simp [fX, h1, <- hl, hz]) fun j hj hj' => ?_;rw [h2 j hj (by omega) (by omega) (by omega)];simp [fX]
theorem AB (bx by_ cx cy LA LB : Nat) (xs ys : List Int) (p q r s : P4) (a b c d : Int) (w : World) (hX : aK w bx xs) (hY : aK w by_ ys) (hA : ai w LA (av p) a) (hB : ai w LA (av q) b) (hC : ai w LA (av r) c) (hD : ai w LA (av s) d) (hne : bx ≠ by_) (hl : xs.length = ys.length)
 (hxL : ∀ x ∈ xs, ag x.natAbs <= LB) (hyL : ∀ y ∈ ys, ag y.natAbs <= LB) (hLab : LA + LB <= 17592186044415) (hlen : xs.length <= 4611686018427387903) :
 Calls Tryz.prog 116 #[.slice (some ⟨bx, 0, none⟩) xs.length cx, .slice (some ⟨by_, 0, none⟩) ys.length cy, .agg #[.bool p.1, .slice p.2.1 p.2.2.1 p.2.2.2, .bool q.1, .slice q.2.1 q.2.2.1 q.2.2.2, .bool r.1, .slice r.2.1 r.2.2.1 r.2.2.2, .bool s.1, .slice s.2.1 s.2.2.1 s.2.2.2]] w
  fun e w' => e = .returned (.tuple #[]) /\ aK w' bx (fX a b xs ys) /\ aK w' by_ (fX c d xs ys) /\ aN (fun k => k = bx ∨ k = by_) w w' := by
 have HX := hi_ hX; clear hX;have HY := hi_ hY; clear hY;have HA := hi_ hA; clear hA;have HB := hi_ hB; clear hB;have HC := hi_ hC; clear hC;have HD := hi_ hD; clear hD;have HXL := hi_ hxL; clear hxL;have HYL := hi_ hyL; clear hyL;have Hl := hi_ hl; clear hl;go_enter Tryz.func116, Tryz.ntmps116;unfold av at *;go_wp2;have hb1 : Below w.heap.size w (w.alloc (.cells #[.bool p.1, .slice p.2.1 p.2.2.1 p.2.2.2, .bool q.1, .slice q.2.1 q.2.2.1 q.2.2.2, .bool r.1, .slice r.2.1 r.2.2.1 r.2.2.2, .bool s.1, .slice s.2.1 s.2.2.1 s.2.2.2] 138)) := (Below.refl _ _).alloc (Nat.le_refl _) _;have hr1 := aa.new w #[.bool p.1, .slice p.2.1 p.2.2.1 p.2.2.2, .bool q.1, .slice q.2.1 q.2.2.1 q.2.2.2, .bool r.1, .slice r.2.1 r.2.2.1 r.2.2.2, .bool s.1, .slice s.2.1 s.2.2.1 s.2.2.2] 138;generalize w.alloc (.cells #[.bool p.1, .slice p.2.1 p.2.2.1 p.2.2.2, .bool q.1, .slice q.2.1 q.2.2.1 q.2.2.2, .bool r.1, .slice r.2.1 r.2.2.1 r.2.2.2, .bool s.1, .slice s.2.1 s.2.2.1 s.2.2.2] 138) = w1 at *;have HB1 := hi_ (aN.aU (S := (fun k => k = bx ∨ k = by_)) hb1);have HX1 := hi_ (HX.out.below hb1);have HY1 := hi_ (HY.out.below hb1);have HI1 : Hid (ai w1 LA (av p) a /\ ai w1 LA (av q) b /\ ai w1 LA (av r) c /\ ai w1 LA (av s) d) := hi_ ⟨HA.out.below hb1, HB.out.below hb1, HC.out.below hb1, HD.out.below hb1⟩;have HR1 := hi_ hr1;have hs1 : w.heap.size < w1.heap.size := hr1.lt;have hbx := HX.out.lt;have hby := HY.out.lt;clear hr1 hb1;go_loopw [11] (fun i wr => ∃ (m : Nat) (cu cv : List Int), m <= xs.length /\ i = .int .i64 (m : Int) /\ Hid (iU a b xs ys xs cu m) /\ Hid (iU c d xs ys ys cv m) /\ Hid (aK wr bx cu) /\ Hid (aK wr by_ cv) /\ Hid (aa wr w.heap.size 138 [.bool p.1, .slice p.2.1 p.2.2.1 p.2.2.2, .bool q.1, .slice q.2.1 q.2.2.1 q.2.2.2, .bool r.1, .slice r.2.1 r.2.2.1 r.2.2.2, .bool s.1, .slice s.2.1 s.2.2.1 s.2.2.2]) /\ Hid (ai wr LA (av p) a /\ ai wr LA (av q) b /\ ai wr LA (av r) c /\ ai wr LA (av s) d) /\ Hid (aN (fun k => k = bx ∨ k = by_) w wr)) (fun i _ => xs.length - (intOf i).toNat)
 case atStart => exact ⟨0, xs, ys, Nat.zero_le _, rfl, iU.start .., iU.start .., HX1, HY1, HR1, HI1, HB1⟩
 case round =>
  obtain ⟨m, cu, cv, hm, rfl, HU, HV, hX, hY, hR, hI, hC⟩ := hrel;by_cases hml : m < xs.length
  · have hmy : m < ys.length := by have := Hl.out; omega
    have hmx : m < cu.length := by rw [HU.out.1]; exact hml
    have hmv : m < cv.length := by rw [HV.out.1]; exact hmy
    have hm1 : (m : Int) < (ys.length : Int) := by omega
    have hm2 : (m : Int) < (xs.length : Int) := by omega
    go_wp2;obtain ⟨pu, cu0, cu1, hnu⟩ := hX.out.get hmx;obtain ⟨pv, cv0, cv1, hnv⟩ := hY.out.get hmv;have hxe : cu[m] = xs[m] := HU.out.2.2 m hmx hml (Nat.le_refl _);have hye : cv[m] = ys[m] := HV.out.2.2 m hmv hmy (Nat.le_refl _);rw [hxe] at hnu;rw [hye] at hnv;have hxw : ag (xs[m]).natAbs <= LB := HXL.out _ (List.getElem_mem hml);have hyw : ag (ys[m]).natAbs <= LB := HYL.out _ (List.getElem_mem hmy);have Hnu := hi_ (hnu.int hxw);have Hnv := hi_ (hnv.int hyw);clear hxe hye hnu hnv;have hbx2 := hX.out.lt;have hby2 := hY.out.lt;have hsk2 := hR.out.lt;have hswr := hC.out.size;refine er ⟨12, fun q_ => [14, 15, 16, 17, 18, 19, 20, 21, 7, 8, 1010, 1011].getD q_ 0,
     fun q_ => [.val (.slice (some ⟨bx, 0, none⟩) xs.length cx), .val (.int .i64 (m : Int)), .val (.pointer (some ⟨bx, m * 2, none⟩)), .val (.agg #[.bool pu.1, .slice pu.2.1 pu.2.2.1 pu.2.2.2]), .val (.slice (some ⟨by_, 0, none⟩) ys.length cy), .val (.int .i64 (m : Int)), .val (.pointer (some ⟨by_, m * 2, none⟩)), .val (.agg #[.bool pv.1, .slice pv.2.1 pv.2.2.1 pv.2.2.2]), .ptr wr.heap.size 37 2, .ptr wr.heap.size 37 2, .any, .any].getD q_ .any,
     [],
     [],
     [],
     [(10, 7, 37, .cells [.bool pu.1, .slice pu.2.1 pu.2.2.1 pu.2.2.2]), (11, 8, 37, .cells [.bool pv.1, .slice pv.2.1 pv.2.2.1 pv.2.2.2])], [(⟨bx, m * 2, none⟩, .bool pu.1), (⟨bx, m * 2 + 1, none⟩, .slice pu.2.1 pu.2.2.1 pu.2.2.2), (⟨by_, m * 2, none⟩, .bool pv.1), (⟨by_, m * 2 + 1, none⟩, .slice pv.2.1 pv.2.2.1 pv.2.2.2)], [(8, 7), (9, 8)]⟩ [14, 15, 16, 17, 18, 19, 20, 21, 7, 8] (wr.heap.size) (by kernel_rfl) (by kernel_rfl) (by kernel_rfl) (by kernel_rfl) ?_ ?_ ?_ ?_ ?_ ?_
    · exact aX
    · exact aX
    · exact bD (⟨cu0, by dsimp only; omega, aX⟩) (bD (⟨cu1, by dsimp only; omega, aX⟩) (bD (⟨cv0, by dsimp only; omega, aX⟩) (bD (⟨cv1, by dsimp only; omega, aX⟩) aX)))
    · exact aX
    · refine ak ?_ (ak ?_ (ak ?_ (ak ?_ (ak ?_ (ak ?_ (ak ?_ (ak ?_ (ak ?_ (ak ?_ (ak ?_ (ak ?_ kj)))))))))));any_goals (first | (intro L fx w' hJ hL hp hcl; have _ := sr hp (by decide +kernel); refine aP rfl fun K hK => ?_; go_simp; exact hJ.q hK (by kernel_rfl) rfl) | fail)
      · intro L fx w' hJ hL hp hcl;have e0 := hJ.pt 0 14 (.slice (some ⟨bx, 0, none⟩) xs.length cx) rfl rfl rfl (hp 0 (by decide));rw [e0] at hJ ⊢; clear e0;have e1 := hJ.pt 1 15 (.int .i64 (m : Int)) rfl rfl rfl (hp 1 (by decide));rw [e1] at hJ ⊢; clear e1;refine aP rfl fun K hK => ?_;go_simp;exact hJ.q hK (by kernel_rfl) rfl
      · intro L fx w' hJ hL hp hcl;have e2 := hJ.pt 2 16 (.pointer (some ⟨bx, m * 2, none⟩)) rfl rfl rfl (hp 2 (by decide));rw [e2] at hJ ⊢; clear e2;refine aP rfl fun K hK => ?_;have cl0 := (hJ.cells _ fL).1;have cl1 := (hJ.cells _ iQ).1;try dsimp only at cl0 cl1
        go_simp;exact hJ.q hK (by kernel_rfl) rfl
      · intro L fx w' hJ hL hp hcl;have e4 := hJ.pt 4 18 (.slice (some ⟨by_, 0, none⟩) ys.length cy) rfl rfl rfl (hp 4 (by decide));rw [e4] at hJ ⊢; clear e4;have e5 := hJ.pt 5 19 (.int .i64 (m : Int)) rfl rfl rfl (hp 5 (by decide));rw [e5] at hJ ⊢; clear e5;refine aP rfl fun K hK => ?_;go_simp;exact hJ.q hK (by kernel_rfl) rfl
      · intro L fx w' hJ hL hp hcl;have e6 := hJ.pt 6 20 (.pointer (some ⟨by_, m * 2, none⟩)) rfl rfl rfl (hp 6 (by decide));rw [e6] at hJ ⊢; clear e6;refine aP rfl fun K hK => ?_;have cl0 := (hJ.cells _ qc).1;have cl1 := (hJ.cells _ vf).1;try dsimp only at cl0 cl1
        go_simp;exact hJ.q hK (by kernel_rfl) rfl
      · intro L fx w' hJ hL hp hcl;have hg0 : wr.heap.size <= w'.heap.size := Nat.le_trans (by omega : wr.heap.size <= wr.heap.size) hJ.size;refine aP rfl fun K hK => ?_;go_simp;exact hK _ _ ⟨_, by kernel_rfl, hJ.grow 8 (by show 8 < 12; decide) _ (by kernel_rfl) (by kernel_rfl) (by intro t ht; rcases mc ht with rfl | ht; exact ⟨by show 10 ≠ 8; decide, fun _ => by cases hh : L 10 with | false => rfl | true => have := hcl 10 (by show 10 < 12; decide) hh 8 (by decide); rw [hL] at this; cases this⟩; rcases mc ht with rfl | ht; exact ⟨by show 11 ≠ 8; decide, fun h => absurd (show 8 = 7 from h) (by decide)⟩; cases ht) (by intro p hp; rcases mc hp with rfl | hp; exact ⟨⟨fun _ => rfl, fun _ => rfl⟩, fun _ q hq hne hLq => (by rcases mc hq with rfl | hq; exact absurd rfl hne; rcases mc hq with rfl | hq; (obtain ⟨g9, cs9, hx9, _, hr9, _⟩ := hJ.slot 9 (by show 9 < 12; decide) hLq; have hx9 : fx 8 = _ := hx9; show _ ≠ fx 8; rw [hx9]; intro e9; injection e9 with e9; injection e9 with e9; injection e9 with e9; exact absurd e9 (Nat.ne_of_gt hr9.lt)); cases hq)⟩; rcases mc hp with rfl | hp; exact ⟨⟨fun h => absurd (show 9 = 8 from h) (by decide), fun h => absurd (show 8 = 7 from h) (by decide)⟩, fun h => absurd (show 9 = 8 from h) (by decide)⟩; cases hp) ((Below.refl _ _).alloc (Nat.le_refl _) _) ⟨w'.heap.size, _, rfl, hJ.size, aa.new _ _ _, aI.two _ _ _ _, rfl⟩ hg0⟩
      · intro L fx w' hJ hL hp hcl;have hg0 : wr.heap.size <= w'.heap.size := Nat.le_trans (by omega : wr.heap.size <= wr.heap.size) hJ.size;refine aP rfl fun K hK => ?_;go_simp;exact hK _ _ ⟨_, by kernel_rfl, hJ.grow 9 (by show 9 < 12; decide) _ (by kernel_rfl) (by kernel_rfl) (by intro t ht; rcases mc ht with rfl | ht; exact ⟨by show 10 ≠ 9; decide, fun h => absurd (show 7 = 8 from h) (by decide)⟩; rcases mc ht with rfl | ht; exact ⟨by show 11 ≠ 9; decide, fun _ => by cases hh : L 11 with | false => rfl | true => have := hcl 11 (by show 11 < 12; decide) hh 9 (by decide); rw [hL] at this; cases this⟩; cases ht) (by intro p hp; rcases mc hp with rfl | hp; exact ⟨⟨fun h => absurd (show 8 = 9 from h) (by decide), fun h => absurd (show 7 = 8 from h) (by decide)⟩, fun h => absurd (show 8 = 9 from h) (by decide)⟩; rcases mc hp with rfl | hp; exact ⟨⟨fun _ => rfl, fun _ => rfl⟩, fun _ q hq hne hLq => (by rcases mc hq with rfl | hq; (obtain ⟨g9, cs9, hx9, _, hr9, _⟩ := hJ.slot 8 (by show 8 < 12; decide) hLq; have hx9 : fx 7 = _ := hx9; show _ ≠ fx 7; rw [hx9]; intro e9; injection e9 with e9; injection e9 with e9; injection e9 with e9; exact absurd e9 (Nat.ne_of_gt hr9.lt)); rcases mc hq with rfl | hq; exact absurd rfl hne; cases hq)⟩; cases hp) ((Below.refl _ _).alloc (Nat.le_refl _) _) ⟨w'.heap.size, _, rfl, hJ.size, aa.new _ _ _, aI.two _ _ _ _, rfl⟩ hg0⟩
      · intro L fx w' hJ hL hp hcl;have e8 := hJ.slot 8 (by show 8 < 12; decide) (hp 8 (by decide));have e3 := hJ.pt 3 17 (.agg #[.bool pu.1, .slice pu.2.1 pu.2.2.1 pu.2.2.2]) rfl rfl rfl (hp 3 (by decide));rw [e3] at hJ ⊢; clear e3;obtain ⟨g, cs, hx, hgB, hr0, hn0, hl0⟩ := e8;obtain ⟨z0, z1, rfl⟩ : ∃ z0 z1, cs = [z0, z1] := lR hl0;have hf0 := aa.free hr0 0;have hc0 := aa.cell hr0 0;have hf1 := aa.free hr0 1;have hc1 := aa.cell hr0 1;try dsimp only at hf0 hc0 hf1 hc1
        have hx1 := hx;rw [aC (x := (bf fx 17 (.agg #[.bool pu.1, .slice pu.2.1 pu.2.2.1 pu.2.2.2]))) (d := 7) hx] at hJ ⊢;refine aP rfl fun K hK => ?_;go_simp;exact hK _ _ ⟨_, by kernel_rfl, hJ.fg (us := [.bool pu.1, .slice pu.2.1 pu.2.2.1 pu.2.2.2]) 10 7 _ _ (by show 10 < 12; decide) rfl fL (by intro t ht h; rcases mc ht with rfl | ht; rfl; rcases mc ht with rfl | ht; exact absurd (show 11 = 10 from h) (by decide); cases ht) (by intro t ht hne hLt; rcases mc ht with rfl | ht; exact absurd rfl hne; rcases mc ht with rfl | ht; exact hJ.apart (9, 8) iQ (8, 7) fL (by show 9 ≠ 8; decide) (hcl 11 (by show 11 < 12; decide) hLt 9 (by decide)) (hp 8 (by decide)); cases ht) (by kernel_rfl) (by kernel_rfl) (by decide) (by rfl) hgB hr0 hn0 rfl (aI.two _ _ _ _) rfl (by omega)⟩
      · intro L fx w' hJ hL hp hcl;have e9 := hJ.slot 9 (by show 9 < 12; decide) (hp 9 (by decide));have e7 := hJ.pt 7 21 (.agg #[.bool pv.1, .slice pv.2.1 pv.2.2.1 pv.2.2.2]) rfl rfl rfl (hp 7 (by decide));rw [e7] at hJ ⊢; clear e7;obtain ⟨g, cs, hx, hgB, hr0, hn0, hl0⟩ := e9;obtain ⟨z0, z1, rfl⟩ : ∃ z0 z1, cs = [z0, z1] := lR hl0;have hf0 := aa.free hr0 0;have hc0 := aa.cell hr0 0;have hf1 := aa.free hr0 1;have hc1 := aa.cell hr0 1;try dsimp only at hf0 hc0 hf1 hc1
        have hx1 := hx;rw [aC (x := (bf fx 21 (.agg #[.bool pv.1, .slice pv.2.1 pv.2.2.1 pv.2.2.2]))) (d := 8) hx] at hJ ⊢;refine aP rfl fun K hK => ?_;go_simp;exact hK _ _ ⟨_, by kernel_rfl, hJ.fg (us := [.bool pv.1, .slice pv.2.1 pv.2.2.1 pv.2.2.2]) 11 8 _ _ (by show 11 < 12; decide) rfl iQ (by intro t ht h; rcases mc ht with rfl | ht; exact absurd (show 10 = 11 from h) (by decide); rcases mc ht with rfl | ht; rfl; cases ht) (by intro t ht hne hLt; rcases mc ht with rfl | ht; exact hJ.apart (8, 7) fL (9, 8) iQ (by show 8 ≠ 9; decide) (hcl 10 (by show 10 < 12; decide) hLt 8 (by decide)) (hp 9 (by decide)); rcases mc ht with rfl | ht; exact absurd rfl hne; cases ht) (by kernel_rfl) (by kernel_rfl) (by decide) (by rfl) hgB hr0 hn0 rfl (aI.two _ _ _ _) rfl (by omega)⟩
    · intro L x' w3 hL hJ;have hfr : Below wr.drew.heap.size wr.drew w3 := hJ.fr;obtain ⟨g7, cs7, hx7, hg7, hr7, hcs7⟩ := hJ.new _ fL (hL 10 (by show 10 < 12; decide));obtain ⟨g8, cs8, hx8, hg8, hr8, hcs8⟩ := hJ.new _ iQ (hL 11 (by show 11 < 12; decide));obtain rfl : cs7 = _ := hcs7;obtain rfl : cs8 = _ := hcs8;have hx7 : x' 7 = _ := hx7;have hx8 : x' 8 = _ := hx8;rw [aC (x := x') (d := 7) hx7];rw [aC (x := bf x' 7 (.pointer (some ⟨g7, 0, none⟩))) (d := 8) (v := .pointer (some ⟨g8, 0, none⟩)) hx8];have hg7 : wr.heap.size <= g7 := hg7;have hg8 : wr.heap.size <= g8 := hg8;have RG : Hid (aa w3 g7 37 [.bool pu.1, .slice pu.2.1 pu.2.2.1 pu.2.2.2]) := hi_ hr7;have RH : Hid (aa w3 g8 37 [.bool pv.1, .slice pv.2.1 pv.2.2.1 pv.2.2.2]) := hi_ hr8;clear hJ hL hx7 hx8 hr7 hr8 cu0 cu1 cv0 cv1;simp only [pN, Nat.reduceEqDiff, ↓reduceIte];go_wp2;have X3 := hi_ (aK.below (w := wr.drew) hX.out hfr);have Y3 := hi_ (aK.below (w := wr.drew) hY.out hfr);have R3 := hi_ (aa.below (w := wr.drew) hR.out hfr hR.out.lt);have A3 := hi_ (ai.below (w := wr.drew) hI.out.1 hfr);have B3 := hi_ (ai.below (w := wr.drew) hI.out.2.1 hfr);have D3 := hi_ (ai.below (w := wr.drew) hI.out.2.2.1 hfr);have E3 := hi_ (ai.below (w := wr.drew) hI.out.2.2.2 hfr);have U3 := hi_ (ai.below (w := wr.drew) Hnu.out hfr);have V3 := hi_ (ai.below (w := wr.drew) Hnv.out hfr);have C3 := hi_ (hC.out.drew.below hfr);have hs3 := hfr.size;have hs3' : wr.drew.heap.size = wr.heap.size := rfl;have hg7' := RG.out.lt;have hg8' := RH.out.lt;clear hX hY hR hI hC Hnu Hnv hfr;have hwb : ag b.natAbs <= LA := HB.out.ag;have hwd : ag d.natAbs <= LA := HD.out.ag;refine dM ⟨13, fun q_ => [22, 23, 24, 25, 26, 27, 28, 29, 30, 31, 32, 33, 34].getD q_ 0,
       fun q_ => [.val (.slice (some ⟨bx, 0, none⟩) xs.length cx), .val (.int .i64 (m : Int)), .val (.pointer (some ⟨w.heap.size, 0, none⟩)), .val (.pointer (some ⟨w.heap.size, 0, none⟩)), .val (.agg #[.bool p.1, .slice p.2.1 p.2.2.1 p.2.2.2]), .val (.agg #[.bool pu.1, .slice pu.2.1 pu.2.2.1 pu.2.2.2]), .val (.pointer (some ⟨w.heap.size, 0, none⟩)), .val (.pointer (some ⟨w.heap.size, 2, none⟩)), .val (.agg #[.bool q.1, .slice q.2.1 q.2.2.1 q.2.2.2]), .val (.agg #[.bool pv.1, .slice pv.2.1 pv.2.2.1 pv.2.2.2]), .int 0 (b * ys[m]), .int 0 (a * xs[m] + b * ys[m]), .val (.pointer (some ⟨bx, m * 2, none⟩))].getD q_ .any,
       [],
       [(.agg #[.bool p.1, .slice p.2.1 p.2.2.1 p.2.2.2], .at_ LA a), (.agg #[.bool q.1, .slice q.2.1 q.2.2.1 q.2.2.2], .at_ LA b), (.agg #[.bool pu.1, .slice pu.2.1 pu.2.2.1 pu.2.2.2], .at_ LB xs[m]), (.agg #[.bool pv.1, .slice pv.2.1 pv.2.2.1 pv.2.2.2], .at_ LB ys[m])],
       [(w.heap.size, 138, [.bool p.1, .slice p.2.1 p.2.2.1 p.2.2.2, .bool q.1, .slice q.2.1 q.2.2.1 q.2.2.2, .bool r.1, .slice r.2.1 r.2.2.1 r.2.2.2, .bool s.1, .slice s.2.1 s.2.2.1 s.2.2.2]), (g7, 37, [.bool pu.1, .slice pu.2.1 pu.2.2.1 pu.2.2.2]), (g8, 37, [.bool pv.1, .slice pv.2.1 pv.2.2.1 pv.2.2.2])],
       [], [], []⟩ [22, 23, 24, 25, 26, 27, 28, 29, 30, 31, 32, 33, 34] (w3.heap.size) (by kernel_rfl) (by kernel_rfl) (by kernel_rfl) (by kernel_rfl) (by kernel_rfl) ?_ ?_ ?_ ?_ ?_ ?_
      · exact bD (A3.out) (bD (B3.out) (bD (U3.out) (bD (V3.out) aX)))
      · exact bD (⟨R3.out, (R3.out).lt, aX⟩) (bD (⟨RG.out, (RG.out).lt, aX⟩) (bD (⟨RH.out, (RH.out).lt, aX⟩) aX))
      · exact aX
      · exact aX
      · refine ak ?_ (ak ?_ (ak ?_ (ak ?_ (ak ?_ (ak ?_ (ak ?_ (ak ?_ (ak ?_ (ak ?_ (ak ?_ (ak ?_ (ak ?_ kj))))))))))));any_goals (first | (intro L fx w' hJ hL hp hcl; have _ := sr hp (by decide +kernel); refine aP rfl fun K hK => ?_; go_simp; exact hJ.q hK (by kernel_rfl) rfl) | fail)
        · intro L fx w' hJ hL hp hcl;have e2 := hJ.pt 2 24 (.pointer (some ⟨w.heap.size, 0, none⟩)) rfl rfl rfl (hp 2 (by decide));rw [e2] at hJ ⊢; clear e2;refine aP rfl fun K hK => ?_;go_simp;exact hJ.q hK (by kernel_rfl) rfl
        · intro L fx w' hJ hL hp hcl;have e3 := hJ.pt 3 25 (.pointer (some ⟨w.heap.size, 0, none⟩)) rfl rfl rfl (hp 3 (by decide));rw [e3] at hJ ⊢; clear e3;refine aP rfl fun K hK => ?_;have rw0 := (hJ.rows _ fL).1;have cl0 : w'.cell? ⟨w.heap.size, 0, none⟩ = some (.bool p.1) := rw0.cell 0;have cl1 : w'.cell? ⟨w.heap.size, 1, none⟩ = some (.slice p.2.1 p.2.2.1 p.2.2.2) := rw0.cell 1;go_simp;exact hJ.q hK (by kernel_rfl) rfl
        · intro L fx w' hJ hL hp hcl;refine aP rfl fun K hK => ?_;have rw0 := (hJ.rows _ iQ).1;have cl0 : w'.cell? ⟨g7, 0, none⟩ = some (.bool pu.1) := rw0.cell 0;have cl1 : w'.cell? ⟨g7, 1, none⟩ = some (.slice pu.2.1 pu.2.2.1 pu.2.2.2) := rw0.cell 1;go_simp;exact hJ.q hK (by kernel_rfl) rfl
        · intro L fx w' hJ hL hp hcl;have e6 := hJ.pt 6 28 (.pointer (some ⟨w.heap.size, 0, none⟩)) rfl rfl rfl (hp 6 (by decide));rw [e6] at hJ ⊢; clear e6;refine aP rfl fun K hK => ?_;go_simp;exact hJ.q hK (by kernel_rfl) rfl
        · intro L fx w' hJ hL hp hcl;have e7 := hJ.pt 7 29 (.pointer (some ⟨w.heap.size, 2, none⟩)) rfl rfl rfl (hp 7 (by decide));rw [e7] at hJ ⊢; clear e7;refine aP rfl fun K hK => ?_;have rw0 := (hJ.rows _ fL).1;have cl0 : w'.cell? ⟨w.heap.size, 2, none⟩ = some (.bool q.1) := rw0.cell 2;have cl1 : w'.cell? ⟨w.heap.size, 3, none⟩ = some (.slice q.2.1 q.2.2.1 q.2.2.2) := rw0.cell 3;go_simp;exact hJ.q hK (by kernel_rfl) rfl
        · intro L fx w' hJ hL hp hcl;refine aP rfl fun K hK => ?_;have rw0 := (hJ.rows _ qc).1;have cl0 : w'.cell? ⟨g8, 0, none⟩ = some (.bool pv.1) := rw0.cell 0;have cl1 : w'.cell? ⟨g8, 1, none⟩ = some (.slice pv.2.1 pv.2.2.1 pv.2.2.2) := rw0.cell 1;go_simp;exact hJ.q hK (by kernel_rfl) rfl
        · intro L fx w' hJ hL hp hcl;have e8 := hJ.pt 8 30 (.agg #[.bool q.1, .slice q.2.1 q.2.2.1 q.2.2.2]) rfl rfl rfl (hp 8 (by decide));rw [e8] at hJ ⊢; clear e8;have e9 := hJ.pt 9 31 (.agg #[.bool pv.1, .slice pv.2.1 pv.2.2.1 pv.2.2.2]) rfl rfl rfl (hp 9 (by decide));rw [e9] at hJ ⊢; clear e9;refine aP rfl fun K hK => ?_;go_simp;go_at_call 23;refine (gL _ _ b ys[m] LA LB _ (show ai w' (LA) (.agg #[.bool q.1, .slice q.2.1 q.2.2.1 q.2.2.2]) (b) from hJ.base _ iQ) (show ai w' (LB) (.agg #[.bool pv.1, .slice pv.2.1 pv.2.2.1 pv.2.2.2]) (ys[m]) from hJ.base _ vf) hLab).mono ?_;rintro e w4 ⟨⟨v5, rfl, h5⟩, hb4⟩;try dsimp only
          exact hK _ _ ⟨_, by kernel_rfl, hJ.gC 10 rfl (by kernel_rfl) hb4 (aj.mono h5 (Nat.zero_le _)) (by omega)⟩
        · intro L fx w' hJ hL hp hcl;have e10 := hJ.slot 10 (by show 10 < 13; decide) (hp 10 (by decide));have e4 := hJ.pt 4 26 (.agg #[.bool p.1, .slice p.2.1 p.2.2.1 p.2.2.2]) rfl rfl rfl (hp 4 (by decide));rw [e4] at hJ ⊢; clear e4;have e5 := hJ.pt 5 27 (.agg #[.bool pu.1, .slice pu.2.1 pu.2.2.1 pu.2.2.2]) rfl rfl rfl (hp 5 (by decide));rw [e5] at hJ ⊢; clear e5;refine aP rfl fun K hK => ?_;go_simp;go_at_call 94;refine (gP _ _ _ a xs[m] (b * ys[m]) LA LB _ (show ai w' (LA) (.agg #[.bool p.1, .slice p.2.1 p.2.2.1 p.2.2.2]) (a) from hJ.base _ fL) (show ai w' (LB) (.agg #[.bool pu.1, .slice pu.2.1 pu.2.2.1 pu.2.2.2]) (xs[m]) from hJ.base _ qc) (aj.int (show aj w' _ (fx 32) _ from e10) (by rw [Int.natAbs_mul]; exact Nat.le_trans (cP _ _) (Nat.le_trans (Nat.add_le_add hwb hyw) hLab))) hLab).mono ?_;rintro e w4 ⟨⟨v5, rfl, h5⟩, hb4⟩;try dsimp only
          exact hK _ _ ⟨_, by kernel_rfl, hJ.gC 11 rfl (by kernel_rfl) hb4 (aj.mono h5 (Nat.zero_le _)) (by omega)⟩
        · intro L fx w' hJ hL hp hcl;have e0 := hJ.pt 0 22 (.slice (some ⟨bx, 0, none⟩) xs.length cx) rfl rfl rfl (hp 0 (by decide));rw [e0] at hJ ⊢; clear e0;have e1 := hJ.pt 1 23 (.int .i64 (m : Int)) rfl rfl rfl (hp 1 (by decide));rw [e1] at hJ ⊢; clear e1;refine aP rfl fun K hK => ?_;go_simp;exact hJ.q hK (by kernel_rfl) rfl
      · intro L x' w3b hL hJ;have hfr : Below w3.drew.heap.size w3.drew w3b := hJ.fr;have e11 : aj w3b 0 (x' 33) (a * xs[m] + b * ys[m]) := hJ.slot 11 (by show 11 < 13; decide) (hL 11 (by show 11 < 13; decide));have e12 : x' 34 = .pointer (some ⟨bx, m * 2, none⟩) := hJ.slot 12 (by show 12 < 13; decide) (hL 12 (by show 12 < 13; decide));obtain ⟨pz3, hpz⟩ := aH.parts e11.num;rw [hpz] at e11;unfold av at hpz;rw [aC (x := x') (d := 33) hpz];rw [aC (x := bf x' 33 (.agg #[.bool pz3.1, .slice pz3.2.1 pz3.2.2.1 pz3.2.2.2])) (d := 34) (v := .pointer (some ⟨bx, m * 2, none⟩)) e12];clear hJ hL;have X4 := hi_ (aK.below (w := w3.drew) X3.out hfr);have Y4 := hi_ (aK.below (w := w3.drew) Y3.out hfr);have R4 := hi_ (aa.below (w := w3.drew) R3.out hfr R3.out.lt);have RG := hi_ (aa.below (w := w3.drew) RG.out hfr RG.out.lt);have RH := hi_ (aa.below (w := w3.drew) RH.out hfr RH.out.lt);have A4 := hi_ (ai.below (w := w3.drew) A3.out hfr);have B4 := hi_ (ai.below (w := w3.drew) B3.out hfr);have D4 := hi_ (ai.below (w := w3.drew) D3.out hfr);have E4 := hi_ (ai.below (w := w3.drew) E3.out hfr);have U4 := hi_ (ai.below (w := w3.drew) U3.out hfr);have V4 := hi_ (ai.below (w := w3.drew) V3.out hfr);have C4 := hi_ (C3.out.drew.below hfr);have hsz4 := hfr.size;have hsz4' : w3.drew.heap.size = w3.heap.size := rfl;clear X3 Y3 R3 A3 B3 D3 E3 U3 V3 C3;obtain ⟨pq, q0, q1, _⟩ := X4.out.get hmx;have q2 := X4.out.free (m * 2);have q3 := X4.out.free (m * 2 + 1);refine aP rfl fun K hK => ?_;go_simp;refine hK _ _ ⟨⟨bf (bf x' 33 (.agg #[.bool pz3.1, .slice pz3.2.1 pz3.2.2.1 pz3.2.2.2])) 34 (.pointer (some ⟨bx, m * 2, none⟩)), by kernel_rfl⟩, ?_⟩;clear hK q0 q1 q2 q3;have ZX := hi_ (X4.out.set m e11.num);have ZY := hi_ (X4.out.qa Y4.out (fun e => hne e.symm) m pz3);have ZR := hi_ ((R4.out.other (p := ⟨bx, m * 2, none⟩) (by show w.heap.size ≠ bx; omega) (.bool pz3.1)).other (p := ⟨bx, m * 2 + 1, none⟩) (by show w.heap.size ≠ bx; omega) (.slice pz3.2.1 pz3.2.2.1 pz3.2.2.2));have Z7 := hi_ ((RG.out.other (p := ⟨bx, m * 2, none⟩) (by show g7 ≠ bx; omega) (.bool pz3.1)).other (p := ⟨bx, m * 2 + 1, none⟩) (by show g7 ≠ bx; omega) (.slice pz3.2.1 pz3.2.2.1 pz3.2.2.2));have Z8 := hi_ ((RH.out.other (p := ⟨bx, m * 2, none⟩) (by show g8 ≠ bx; omega) (.bool pz3.1)).other (p := ⟨bx, m * 2 + 1, none⟩) (by show g8 ≠ bx; omega) (.slice pz3.2.1 pz3.2.2.1 pz3.2.2.2));have ZA := hi_ (X4.out.dP A4.out m pz3);have ZB := hi_ (X4.out.dP B4.out m pz3);have ZD := hi_ (X4.out.dP D4.out m pz3);have ZE := hi_ (X4.out.dP E4.out m pz3);have ZU := hi_ (X4.out.dP U4.out m pz3);have ZV := hi_ (X4.out.dP V4.out m pz3);have ZC := hi_ ((C4.out.set (p := ⟨bx, m * 2, none⟩) (Or.inl rfl) (.bool pz3.1)).set (p := ⟨bx, m * 2 + 1, none⟩) (Or.inl rfl) (.slice pz3.2.1 pz3.2.2.1 pz3.2.2.2));clear X4 Y4 R4 RG RH A4 B4 D4 E4 U4 V4 C4 e11 e12;have hszg : ((w3b.setCell ⟨bx, m * 2, none⟩ (.bool pz3.1)).setCell ⟨bx, m * 2 + 1, none⟩ (.slice pz3.2.1 pz3.2.2.1 pz3.2.2.2)).heap.size = w3b.heap.size := by simp
        generalize ((w3b.setCell ⟨bx, m * 2, none⟩ (.bool pz3.1)).setCell ⟨bx, m * 2 + 1, none⟩ (.slice pz3.2.1 pz3.2.2.1 pz3.2.2.2)) = w5 at *;have X6 := ZX;have Y6 := ZY;have R6 := ZR;have RG := Z7;have RH := Z8;have A6 := ZA;have B6 := ZB;have D6 := ZD;have E6 := ZE;have U6 := ZU;have V6 := ZV;have C6 := ZC;clear ZX ZY ZR Z7 Z8 ZA ZB ZD ZE ZU ZV ZC;go_wp2;refine dM ⟨13, fun q_ => [35, 36, 37, 38, 39, 40, 41, 42, 43, 44, 45, 46, 47].getD q_ 0,
         fun q_ => [.val (.slice (some ⟨by_, 0, none⟩) ys.length cy), .val (.int .i64 (m : Int)), .val (.pointer (some ⟨w.heap.size, 4, none⟩)), .val (.pointer (some ⟨w.heap.size, 4, none⟩)), .val (.agg #[.bool r.1, .slice r.2.1 r.2.2.1 r.2.2.2]), .val (.agg #[.bool pu.1, .slice pu.2.1 pu.2.2.1 pu.2.2.2]), .val (.pointer (some ⟨w.heap.size, 4, none⟩)), .val (.pointer (some ⟨w.heap.size, 6, none⟩)), .val (.agg #[.bool s.1, .slice s.2.1 s.2.2.1 s.2.2.2]), .val (.agg #[.bool pv.1, .slice pv.2.1 pv.2.2.1 pv.2.2.2]), .int 0 (d * ys[m]), .int 0 (c * xs[m] + d * ys[m]), .val (.pointer (some ⟨by_, m * 2, none⟩))].getD q_ .any,
         [],
         [(.agg #[.bool r.1, .slice r.2.1 r.2.2.1 r.2.2.2], .at_ LA c), (.agg #[.bool s.1, .slice s.2.1 s.2.2.1 s.2.2.2], .at_ LA d), (.agg #[.bool pu.1, .slice pu.2.1 pu.2.2.1 pu.2.2.2], .at_ LB xs[m]), (.agg #[.bool pv.1, .slice pv.2.1 pv.2.2.1 pv.2.2.2], .at_ LB ys[m])],
         [(w.heap.size, 138, [.bool p.1, .slice p.2.1 p.2.2.1 p.2.2.2, .bool q.1, .slice q.2.1 q.2.2.1 q.2.2.2, .bool r.1, .slice r.2.1 r.2.2.1 r.2.2.2, .bool s.1, .slice s.2.1 s.2.2.1 s.2.2.2]), (g7, 37, [.bool pu.1, .slice pu.2.1 pu.2.2.1 pu.2.2.2]), (g8, 37, [.bool pv.1, .slice pv.2.1 pv.2.2.1 pv.2.2.2])],
         [], [], []⟩ [35, 36, 37, 38, 39, 40, 41, 42, 43, 44, 45, 46, 47] (w5.heap.size) (by kernel_rfl) (by kernel_rfl) (by kernel_rfl) (by kernel_rfl) (by kernel_rfl) ?_ ?_ ?_ ?_ ?_ ?_
        · exact bD (D6.out) (bD (E6.out) (bD (U6.out) (bD (V6.out) aX)))
        · exact bD (⟨R6.out, (R6.out).lt, aX⟩) (bD (⟨RG.out, (RG.out).lt, aX⟩) (bD (⟨RH.out, (RH.out).lt, aX⟩) aX))
        · exact aX
        · exact aX
        · refine ak ?_ (ak ?_ (ak ?_ (ak ?_ (ak ?_ (ak ?_ (ak ?_ (ak ?_ (ak ?_ (ak ?_ (ak ?_ (ak ?_ (ak ?_ kj))))))))))));any_goals (first | (intro L fx w' hJ hL hp hcl; have _ := sr hp (by decide +kernel); refine aP rfl fun K hK => ?_; go_simp; exact hJ.q hK (by kernel_rfl) rfl) | fail)
          · intro L fx w' hJ hL hp hcl;have e2 := hJ.pt 2 37 (.pointer (some ⟨w.heap.size, 4, none⟩)) rfl rfl rfl (hp 2 (by decide));rw [e2] at hJ ⊢; clear e2;refine aP rfl fun K hK => ?_;go_simp;exact hJ.q hK (by kernel_rfl) rfl
          · intro L fx w' hJ hL hp hcl;have e3 := hJ.pt 3 38 (.pointer (some ⟨w.heap.size, 4, none⟩)) rfl rfl rfl (hp 3 (by decide));rw [e3] at hJ ⊢; clear e3;refine aP rfl fun K hK => ?_;have rw0 := (hJ.rows _ fL).1;have cl0 : w'.cell? ⟨w.heap.size, 4, none⟩ = some (.bool r.1) := rw0.cell 4;have cl1 : w'.cell? ⟨w.heap.size, 5, none⟩ = some (.slice r.2.1 r.2.2.1 r.2.2.2) := rw0.cell 5;go_simp;exact hJ.q hK (by kernel_rfl) rfl
          · intro L fx w' hJ hL hp hcl;refine aP rfl fun K hK => ?_;have rw0 := (hJ.rows _ iQ).1;have cl0 : w'.cell? ⟨g7, 0, none⟩ = some (.bool pu.1) := rw0.cell 0;have cl1 : w'.cell? ⟨g7, 1, none⟩ = some (.slice pu.2.1 pu.2.2.1 pu.2.2.2) := rw0.cell 1;go_simp;exact hJ.q hK (by kernel_rfl) rfl
          · intro L fx w' hJ hL hp hcl;have e6 := hJ.pt 6 41 (.pointer (some ⟨w.heap.size, 4, none⟩)) rfl rfl rfl (hp 6 (by decide));rw [e6] at hJ ⊢; clear e6;refine aP rfl fun K hK => ?_;go_simp;exact hJ.q hK (by kernel_rfl) rfl
          · intro L fx w' hJ hL hp hcl;have e7 := hJ.pt 7 42 (.pointer (some ⟨w.heap.size, 6, none⟩)) rfl rfl rfl (hp 7 (by decide));rw [e7] at hJ ⊢; clear e7;refine aP rfl fun K hK => ?_;have rw0 := (hJ.rows _ fL).1;have cl0 : w'.cell? ⟨w.heap.size, 6, none⟩ = some (.bool s.1) := rw0.cell 6;have cl1 : w'.cell? ⟨w.heap.size, 7, none⟩ = some (.slice s.2.1 s.2.2.1 s.2.2.2) := rw0.cell 7;go_simp;exact hJ.q hK (by kernel_rfl) rfl
          · intro L fx w' hJ hL hp hcl;refine aP rfl fun K hK => ?_;have rw0 := (hJ.rows _ qc).1;have cl0 : w'.cell? ⟨g8, 0, none⟩ = some (.bool pv.1) := rw0.cell 0;have cl1 : w'.cell? ⟨g8, 1, none⟩ = some (.slice pv.2.1 pv.2.2.1 pv.2.2.2) := rw0.cell 1;go_simp;exact hJ.q hK (by kernel_rfl) rfl
          · intro L fx w' hJ hL hp hcl;have e8 := hJ.pt 8 43 (.agg #[.bool s.1, .slice s.2.1 s.2.2.1 s.2.2.2]) rfl rfl rfl (hp 8 (by decide));rw [e8] at hJ ⊢; clear e8;have e9 := hJ.pt 9 44 (.agg #[.bool pv.1, .slice pv.2.1 pv.2.2.1 pv.2.2.2]) rfl rfl rfl (hp 9 (by decide));rw [e9] at hJ ⊢; clear e9;refine aP rfl fun K hK => ?_;go_simp;go_at_call 23;refine (gL _ _ d ys[m] LA LB _ (show ai w' (LA) (.agg #[.bool s.1, .slice s.2.1 s.2.2.1 s.2.2.2]) (d) from hJ.base _ iQ) (show ai w' (LB) (.agg #[.bool pv.1, .slice pv.2.1 pv.2.2.1 pv.2.2.2]) (ys[m]) from hJ.base _ vf) hLab).mono ?_;rintro e w4 ⟨⟨v5, rfl, h5⟩, hb4⟩;try dsimp only
            exact hK _ _ ⟨_, by kernel_rfl, hJ.gC 10 rfl (by kernel_rfl) hb4 (aj.mono h5 (Nat.zero_le _)) (by omega)⟩
          · intro L fx w' hJ hL hp hcl;have e10 := hJ.slot 10 (by show 10 < 13; decide) (hp 10 (by decide));have e4 := hJ.pt 4 39 (.agg #[.bool r.1, .slice r.2.1 r.2.2.1 r.2.2.2]) rfl rfl rfl (hp 4 (by decide));rw [e4] at hJ ⊢; clear e4;have e5 := hJ.pt 5 40 (.agg #[.bool pu.1, .slice pu.2.1 pu.2.2.1 pu.2.2.2]) rfl rfl rfl (hp 5 (by decide));rw [e5] at hJ ⊢; clear e5;refine aP rfl fun K hK => ?_;go_simp;go_at_call 94;refine (gP _ _ _ c xs[m] (d * ys[m]) LA LB _ (show ai w' (LA) (.agg #[.bool r.1, .slice r.2.1 r.2.2.1 r.2.2.2]) (c) from hJ.base _ fL) (show ai w' (LB) (.agg #[.bool pu.1, .slice pu.2.1 pu.2.2.1 pu.2.2.2]) (xs[m]) from hJ.base _ qc) (aj.int (show aj w' _ (fx 45) _ from e10) (by rw [Int.natAbs_mul]; exact Nat.le_trans (cP _ _) (Nat.le_trans (Nat.add_le_add hwd hyw) hLab))) hLab).mono ?_;rintro e w4 ⟨⟨v5, rfl, h5⟩, hb4⟩;try dsimp only
            exact hK _ _ ⟨_, by kernel_rfl, hJ.gC 11 rfl (by kernel_rfl) hb4 (aj.mono h5 (Nat.zero_le _)) (by omega)⟩
          · intro L fx w' hJ hL hp hcl;have e0 := hJ.pt 0 35 (.slice (some ⟨by_, 0, none⟩) ys.length cy) rfl rfl rfl (hp 0 (by decide));rw [e0] at hJ ⊢; clear e0;have e1 := hJ.pt 1 36 (.int .i64 (m : Int)) rfl rfl rfl (hp 1 (by decide));rw [e1] at hJ ⊢; clear e1;refine aP rfl fun K hK => ?_;go_simp;exact hJ.q hK (by kernel_rfl) rfl
        · intro L x' w5b hL hJ;have hfr : Below w5.drew.heap.size w5.drew w5b := hJ.fr;have e11 : aj w5b 0 (x' 46) (c * xs[m] + d * ys[m]) := hJ.slot 11 (by show 11 < 13; decide) (hL 11 (by show 11 < 13; decide));have e12 : x' 47 = .pointer (some ⟨by_, m * 2, none⟩) := hJ.slot 12 (by show 12 < 13; decide) (hL 12 (by show 12 < 13; decide));obtain ⟨pz6, hpz⟩ := aH.parts e11.num;rw [hpz] at e11;unfold av at hpz;rw [aC (x := x') (d := 46) hpz];rw [aC (x := bf x' 46 (.agg #[.bool pz6.1, .slice pz6.2.1 pz6.2.2.1 pz6.2.2.2])) (d := 47) (v := .pointer (some ⟨by_, m * 2, none⟩)) e12];clear hJ hL;have X7 := hi_ (aK.below (w := w5.drew) X6.out hfr);have Y7 := hi_ (aK.below (w := w5.drew) Y6.out hfr);have R7 := hi_ (aa.below (w := w5.drew) R6.out hfr R6.out.lt);have RG := hi_ (aa.below (w := w5.drew) RG.out hfr RG.out.lt);have RH := hi_ (aa.below (w := w5.drew) RH.out hfr RH.out.lt);have A7 := hi_ (ai.below (w := w5.drew) A6.out hfr);have B7 := hi_ (ai.below (w := w5.drew) B6.out hfr);have D7 := hi_ (ai.below (w := w5.drew) D6.out hfr);have E7 := hi_ (ai.below (w := w5.drew) E6.out hfr);have U7 := hi_ (ai.below (w := w5.drew) U6.out hfr);have V7 := hi_ (ai.below (w := w5.drew) V6.out hfr);have C7 := hi_ (C6.out.drew.below hfr);have hsz7 := hfr.size;have hsz7' : w5.drew.heap.size = w5.heap.size := rfl;clear X6 Y6 R6 A6 B6 D6 E6 U6 V6 C6;obtain ⟨pq, q0, q1, _⟩ := Y7.out.get hmv;have q2 := Y7.out.free (m * 2);have q3 := Y7.out.free (m * 2 + 1);refine aP rfl fun K hK => ?_;go_simp;refine hK _ _ ⟨⟨bf (bf x' 46 (.agg #[.bool pz6.1, .slice pz6.2.1 pz6.2.2.1 pz6.2.2.2])) 47 (.pointer (some ⟨by_, m * 2, none⟩)), by kernel_rfl⟩, ?_⟩;clear hK q0 q1 q2 q3;have ZY := hi_ (Y7.out.set m e11.num);have ZX := hi_ (Y7.out.qa X7.out (fun e => hne e) m pz6);have ZR := hi_ ((R7.out.other (p := ⟨by_, m * 2, none⟩) (by show w.heap.size ≠ by_; omega) (.bool pz6.1)).other (p := ⟨by_, m * 2 + 1, none⟩) (by show w.heap.size ≠ by_; omega) (.slice pz6.2.1 pz6.2.2.1 pz6.2.2.2));have Z7 := hi_ ((RG.out.other (p := ⟨by_, m * 2, none⟩) (by show g7 ≠ by_; omega) (.bool pz6.1)).other (p := ⟨by_, m * 2 + 1, none⟩) (by show g7 ≠ by_; omega) (.slice pz6.2.1 pz6.2.2.1 pz6.2.2.2));have Z8 := hi_ ((RH.out.other (p := ⟨by_, m * 2, none⟩) (by show g8 ≠ by_; omega) (.bool pz6.1)).other (p := ⟨by_, m * 2 + 1, none⟩) (by show g8 ≠ by_; omega) (.slice pz6.2.1 pz6.2.2.1 pz6.2.2.2));have ZA := hi_ (Y7.out.dP A7.out m pz6);have ZB := hi_ (Y7.out.dP B7.out m pz6);have ZD := hi_ (Y7.out.dP D7.out m pz6);have ZE := hi_ (Y7.out.dP E7.out m pz6);have ZU := hi_ (Y7.out.dP U7.out m pz6);have ZV := hi_ (Y7.out.dP V7.out m pz6);have ZC := hi_ ((C7.out.set (p := ⟨by_, m * 2, none⟩) (Or.inr rfl) (.bool pz6.1)).set (p := ⟨by_, m * 2 + 1, none⟩) (Or.inr rfl) (.slice pz6.2.1 pz6.2.2.1 pz6.2.2.2));clear X7 Y7 R7 RG RH A7 B7 D7 E7 U7 V7 C7 e11 e12;go_wp2;go_roundw
          case rel =>
           exact ⟨m + 1, _, _, by omega, by go_num, HU.out.next hml hmy, HV.out.next hml hmy, ZX, ZY, ZR, hi_ ⟨ZA.out, ZB.out, ZD.out, ZE.out⟩, ZC⟩
          case measure => simp [intOf]; omega
  · obtain rfl : m = xs.length := by omega
    have he := HU.out.all Hl.out rfl;have he2 := HV.out.all Hl.out Hl.out;have HE := hi_ he;have HE2 := hi_ he2;clear he he2;go_wp2;refine bodyPost_end (results_none (by kernel_rfl) _ _ _) rfl ?_;rw [<- HE.out, <- HE2.out];exact ⟨rfl, hX.out, hY.out, hC.out⟩
theorem ki : ∀ R : List Hd, aI (R.map Hd.cF)
 | [] => aI.nil
 | h :: R => aI.slice (ki R)
def ef (w : World) (b : Nat) (t : TypeId) (cs : List Value) : Prop := ∃ tl, aI tl /\ aa w b t (cs ++ tl)
theorem aa.pre {w : World} {b : Nat} {t : TypeId} {cs : List Value} (h : aa w b t cs) : ef w b t cs := ⟨[], aI.nil, by rw [List.append_nil]; exact h⟩
theorem ef.lt {w : World} {b : Nat} {t : TypeId} {cs : List Value} (h : ef w b t cs) : b < w.heap.size := by obtain ⟨_, _, h⟩ := h; exact h.lt
theorem ef.free {w : World} {b : Nat} {t : TypeId} {cs : List Value} (h : ef w b t cs) (i : Nat) : w.frozen? ⟨b, i, none⟩ = false := by obtain ⟨_, _, h⟩ := h; exact h.free i
theorem ef.below {w w' : World} {b B : Nat} {t : TypeId} {cs : List Value} (h : ef w b t cs) (hb : Below B w w') (hB : b < B) : ef w' b t cs := by obtain ⟨tl, n, h⟩ := h; exact ⟨tl, n, h.below hb hB⟩
theorem ef.other {w : World} {b : Nat} {t : TypeId} {cs : List Value} (h : ef w b t cs) {p : Addr} (hp : b ≠ p.block) (v : Value) : ef (w.setCell p v) b t cs := by obtain ⟨tl, n, h⟩ := h; exact ⟨tl, n, h.other hp v⟩
theorem ef.set {w : World} {b : Nat} {t : TypeId} {cs : List Value} (h : ef w b t cs) {i : Nat} (hi : i < cs.length) (v : Value) : ef (w.setCell ⟨b, i, none⟩ v) b t (cs.set i v) := by
 obtain ⟨tl, n, h⟩ := h;have := h.set i v;rw [List.set_append_left _ _ hi] at this;exact ⟨tl, n, this⟩
theorem ef.cell {w : World} {b : Nat} {t : TypeId} {cs : List Value} (h : ef w b t cs) {i : Nat} (hi : i < cs.length) : w.cell? ⟨b, i, none⟩ = cs[i]? := by
 obtain ⟨tl, n, h⟩ := h; rw [h.cell, List.getElem?_append_left hi]
theorem ef.qb {S : Nat -> Prop} {w w' : World} {b : Nat} {t : TypeId} {cs : List Value} (h : ef w b t cs) (hc : aN S w w') (hb : ¬ S b) : ef w' b t cs := by obtain ⟨tl, n, h⟩ := h; exact ⟨tl, n, hc.row h hb⟩
structure dv (w : World) (o : Nat) (R : List Hd) : Prop where
 out : ef w o 22 (R.map Hd.cF)
 row : ∀ h ∈ R, aK w h.blk h.xs
 nd : (R.map Hd.blk).Nodup
theorem dv.below {w w' : World} {o : Nat} {R : List Hd} (h : dv w o R) (hb : Below w.heap.size w w') : dv w' o R :=
 ⟨h.out.below hb h.out.lt, fun r hr => (h.row r hr).below hb, h.nd⟩
theorem dv.ne {w : World} {o : Nat} {R : List Hd} (h : dv w o R) {r : Hd} (hr : r ∈ R) : r.blk ≠ o := by
 intro e;obtain ⟨ps, tl, nt, hp, _⟩ := h.row r hr;obtain ⟨tl, _, ho⟩ := h.out;unfold aa at hp ho;rw [e, ho] at hp;simp only [Option.some.injEq, Obj.cells.injEq] at hp;exact absurd hp.2.1 (by decide)
theorem dv.cF {w : World} {o : Nat} {R : List Hd} (h : dv w o R) {i : Nat} (hi : i < R.length) : w.cell? ⟨o, i, none⟩ = some (R[i]).cF := by
 rw [h.out.cell (by simpa using hi)]; simp [hi]
theorem dv.lt {w : World} {o : Nat} {R : List Hd} (h : dv w o R) : o < w.heap.size := h.out.lt
theorem dv.fh {w : World} {o : Nat} {R : List Hd} (h : dv w o R) {g : Nat} {t : TypeId} {cs : List Value} (hr : aa w g t cs) (hn : aI cs) (ho : o ≠ g) (hb : ∀ r ∈ R, r.blk ≠ g) (i : Nat) (u : Value) : dv (w.setCell ⟨g, i, none⟩ u) o R :=
 ⟨h.out.other ho u, fun r hr' => (h.row r hr').other (hb r hr') hr hn i u, h.nd⟩
structure u9 where
 o : Nat
 g : Nat
 g3 : Nat
 cap : Nat
 cs : Nat
 own : Nat -> Prop
 fit : List Hd -> Prop
 rel : List Hd -> List Hd -> Prop
structure ct where
 lb : Nat
 o : Nat
 sb : Nat
 g : Nat
 cap : Nat
 R : List Hd
 two : Option u9
def ct.rws (S : ct) (k : Nat) : Prop := k = S.o ∨ ∃ h ∈ S.R, h.blk = k
def ct.own (S : ct) (k : Nat) : Prop := S.rws k ∨ ∃ t, S.two = some t /\ t.own k
def ct.az (S : ct) (R : List Hd) : ct := ⟨S.lb, S.o, S.sb, S.g, S.cap, R, S.two⟩
def ct.ns (S : ct) : Nat := match S.two with | none => 1 | some _ => 2
def ct.cs (S : ct) : Nat := match S.two with | none => 1 | some t => t.cs
def u9.st (t : u9) (V : List Hd) : ct := ⟨0, t.o, 0, t.g, t.cap, V, none⟩
def ct.cF (S : ct) : Value := .slice (some ⟨S.o, 0, none⟩) S.R.length S.cap
def gm (g : Nat) : List Value := [.func (.func 111) #[] #[.pointer (some ⟨g, 0, none⟩)], .func (.func 112) #[] #[.pointer (some ⟨g, 0, none⟩)], .func (.func 113) #[] #[.pointer (some ⟨g, 0, none⟩)], .func (.func 115) #[] #[.pointer (some ⟨g, 0, none⟩)]]
def agF (g g3 : Nat) : List Value := [.func (.func 111) #[] #[.pointer (some ⟨g, 0, none⟩)], .func (.func 112) #[] #[.pointer (some ⟨g, 0, none⟩)], .func (.func 113) #[] #[.pointer (some ⟨g3, 0, none⟩)], .func (.func 115) #[] #[.pointer (some ⟨g3, 0, none⟩)]]
def ct.more (S : ct) : List Value := match S.two with | none => [] | some t => agF t.g t.g3
theorem il (P : Program) (w : World) (p : Addr) (f : Fn) (a b : Array Value) (m : Mode) : (store p (.func f a b) m).run P w = stored P w p (.func f a b) m := run_store P w p _ m rfl
attribute [local go_sem] il
theorem pZ {fn : Func} {p : Tmp} (h : fn.results = #[.cell p 125]) (tmps : Array Value) (w : World) (g : Nat) (a b c d : Value) (hp : tmps.getD p undef = .pointer (some ⟨g, 0, none⟩)) (hr : aa w g 125 [a, b, c, d]) :
 (results fn tmps).run Tryz.prog w = .ok (.agg #[a, b, c, d]) w :=
 results_cell_row h tmps w g 125 #[a, b, c, d] (0, 0) _ hp hr Tryz.underlying125 rfl (by kernel_rfl)
theorem zQ (ao : Option Addr) (n cap : Nat) (w : World) :
 Calls Tryz.prog 98 #[.slice ao n cap] w fun e w' => e = .returned (.agg (gm w.heap.size).toArray) /\ aa w' w.heap.size 70 [.slice ao n cap] /\ Below w.heap.size w w' := by
 go_enter Tryz.func98, Tryz.ntmps98;go_wp2;obtain ⟨r1, r2, hb⟩ := fe w #[.slice ao n cap] (gm w.heap.size).toArray 70 125;simp only [gm] at r1 r2 hb;refine bodyPost_ret (pZ (p := 2) (by kernel_rfl) _ _ (w.heap.size + 1) _ _ _ _ rfl r2) rfl ?_;exact ⟨rfl, r1, hb⟩
structure ed (w : World) (S : ct) : Prop where
 box : aa w S.g 70 [S.cF]
 dJ : dv w S.o S.R
theorem ed.below {w w' : World} {S : ct} (h : ed w S) (hb : Below w.heap.size w w') : ed w' S := ⟨h.box.below hb h.box.lt, h.dJ.below hb⟩
structure TwoAt (w : World) (S : ct) (t : u9) (V : List Hd) : Prop where
 sd : ed w (t.st V)
 box3 : aa w t.g3 70 [(t.st V).cF]
 rel : t.rel S.R V
 own : ∀ k, t.own k ↔ (t.st V).rws k
 apart : ∀ k, t.own k -> ¬ S.rws k
structure aD (w : World) (S : ct) : Prop where
 lad : aa w S.lb 109 [S.cF, .slice (some ⟨S.sb, 0, none⟩) S.ns S.cs]
 sides : ef w S.sb 125 (gm S.g ++ S.more)
 box : aa w S.g 70 [S.cF]
 dJ : dv w S.o S.R
 ext : ∀ t, S.two = some t -> ∃ V, TwoAt w S t V
theorem aD.sd {w : World} {S : ct} (h : aD w S) : ed w S := ⟨h.box, h.dJ⟩
theorem New_c (o cap : Nat) (R : List Hd) (w : World) (hM : dv w o R) :
 Calls Tryz.prog 77 #[.slice (some ⟨o, 0, none⟩) R.length cap] w fun e w' => (∃ lb sb g, e = .returned (.pointer (some ⟨lb, 0, none⟩)) /\ aD w' ⟨lb, o, sb, g, cap, R, none⟩ /\ w.heap.size <= lb /\ w.heap.size <= sb /\ w.heap.size <= g) /\ Below w.heap.size w w' := by
 have HM := hi_ hM;have HM0 := hi_ hM; clear hM;go_enter Tryz.func77, Tryz.ntmps77;go_wp2_with fail
 have hb1 : Below w.heap.size w (w.alloc (.cells #[.slice (some ⟨o, 0, none⟩) R.length cap, .slice none 0 0] 109)) := (Below.refl _ _).alloc (Nat.le_refl _) _;have hr1 := aa.new w #[.slice (some ⟨o, 0, none⟩) R.length cap, .slice none 0 0] 109;generalize w.alloc (.cells #[.slice (some ⟨o, 0, none⟩) R.length cap, .slice none 0 0] 109) = w1 at *;refine (zQ _ _ _ _).mono ?_;rintro e w2 ⟨rfl, hbox, hb2⟩;simp only [gm];have hr2 := hr1.below hb2 hr1.lt;have hM2 := (HM.out.below hb1).below hb2;have hbw : Below w.heap.size w w2 := hb1.trans (hb2.mono hb1.size);have hs1 : w.heap.size < w1.heap.size := hr1.lt;have hs2 : w1.heap.size < w2.heap.size := hbox.lt;have hb3 : Below w2.heap.size w2 (w2.alloc (.cells (gm w1.heap.size).toArray 125)) := (Below.refl _ _).alloc (Nat.le_refl _) _;have hr3 := aa.new w2 (gm w1.heap.size).toArray 125;have hr4 := hr2.below hb3 hr2.lt;have hbox3 := hbox.below hb3 hbox.lt;have hM3 := hM2.below hb3;have hbw3 := hbw.trans (hb3.mono hbw.size);have f1 := hr4.free 1;have c1 := hr4.cell 1;simp only [gm] at hr3 f1 c1;have HR3 := hi_ hr3;have HR4 := hi_ hr4;have HM3 := hi_ hM3;have HB3 := hi_ hbw3;have HX3 := hi_ hbox3;clear hr1 hr2 hr3 hr4 hM2 hM3 hbw hbw3 hb1 hb2 hb3 hbox hbox3 HM;go_wp2;go_ret;have ho := HM0.out.lt;refine ⟨⟨w.heap.size, rfl, w2.heap.size, w1.heap.size, ⟨?_, ?_, ?_, ?_, fun t h => by cases h⟩, Nat.le_refl _, by omega, by omega⟩, ?_⟩
 · exact HR4.out.set 1 (.slice (some ⟨w2.heap.size, 0, none⟩) 1 1)
 · exact (aa.other (p := ⟨w.heap.size, 1, none⟩) HR3.out (by show w2.heap.size ≠ w.heap.size; omega) _).pre
 · exact aa.other (p := ⟨w.heap.size, 1, none⟩) HX3.out (by show w1.heap.size ≠ w.heap.size; omega) _
 · exact HM3.out.fh HR4.out (aI.slice (aI.slice aI.nil)) (by show o ≠ w.heap.size; omega) (fun r hr => by have := (HM0.out.row r hr).lt; omega) 1 _
 · exact HB3.out.setCell (p := ⟨w.heap.size, 1, none⟩) (Nat.le_refl _) _
theorem aa.neP {w : World} {a b : Nat} {t t' : TypeId} {cs cs' : List Value} (h : aa w a t cs) (h' : ef w b t' cs') (ht : t ≠ t') : a ≠ b := by obtain ⟨_, _, h'⟩ := h'; exact h.ne h' ht
def dh (R : List Hd) (i : Nat) (xs : List Int) : List Hd := R.modify i (fun h => ⟨h.blk, h.cap, xs⟩)
theorem aB (R : List Hd) (i : Nat) (xs : List Int) : (dh R i xs).length = R.length := by simp [dh]
theorem dr {R : List Hd} {i : Nat} {xs : List Int} {j : Nat} (hj : j < R.length) : (dh R i xs)[j]'(by rw [aB]; exact hj) = if i = j then ⟨R[j].blk, R[j].cap, xs⟩ else R[j] := by
 unfold dh; rw [List.getElem_modify]
theorem eY (R : List Hd) (i : Nat) (xs : List Int) : (dh R i xs).map Hd.blk = R.map Hd.blk := by
 refine List.ext_getElem (by simp [aB]) fun j h1 h2 => ?_;simp only [List.getElem_map];rw [dr (by simpa using h2)];split <;> rfl
theorem lf {R : List Hd} {i : Nat} {xs : List Int} (hi : i < R.length) (hl : xs.length = R[i].xs.length) : (dh R i xs).map Hd.cF = R.map Hd.cF := by
 refine List.ext_getElem (by simp [aB]) fun j h1 h2 => ?_;simp only [List.getElem_map];rw [dr (by simpa using h2)];split
 · rename_i e; subst e; unfold Hd.cF; rw [hl]
 · rfl
theorem kX {R : List Hd} (hn : (R.map Hd.blk).Nodup) {i j : Nat} (hi : i < R.length) (hj : j < R.length) (h : i ≠ j) : R[i].blk ≠ R[j].blk := by
 intro e;have h1 : (R.map Hd.blk)[i]'(by simpa using hi) = (R.map Hd.blk)[j]'(by simpa using hj) := by simpa using e
 have hp := List.pairwise_iff_getElem.1 hn;rcases Nat.lt_or_gt_of_ne h with hlt | hlt
 · exact hp i j (by simpa using hi) (by simpa using hj) hlt h1
 · exact hp j i (by simpa using hj) (by simpa using hi) hlt h1.symm
theorem dv.dh {w w' : World} {o : Nat} {R : List Hd} (h : dv w o R) {i : Nat} (hi : i < R.length) {xs : List Int} (hl : xs.length = R[i].xs.length) (hc : aN (· = R[i].blk) w w') (hr : aK w' R[i].blk xs) : dv w' o (dh R i xs) := by
 have hw : dq (· = R[i].blk) w := (h.row _ (List.getElem_mem hi)).bI;refine ⟨by rw [lf hi hl]; exact h.out.qb hc (fun e => h.ne (List.getElem_mem hi) e.symm), fun r hr' => ?_, by rw [eY]; exact h.nd⟩;obtain ⟨j, hj, rfl⟩ := List.getElem_of_mem hr';rw [aB] at hj;rw [dr hj];split
 · rename_i e; subst e; exact hr
 · rename_i e; exact hc.uJ hw (h.row _ (List.getElem_mem hj)) (kX h.nd hj hi (fun e' => e e'.symm))
theorem nF {k : Int} {xs ys : List Int} (h : xs.length = ys.length) : (fs k xs ys).length = xs.length := by simp [fs, h]
theorem jF {a b : Int} {xs ys : List Int} (h : xs.length = ys.length) : (fX a b xs ys).length = xs.length := by simp [fX, h]
theorem ed.gR {w w' : World} {S : ct} (h : ed w S) (hc : aN S.rws w w') {b : Nat} {t : TypeId} {cs : List Value} (hb : aa w b t cs) (h1 : t ≠ 37) (h2 : t ≠ 22) : aa w' b t cs := by
 refine hc.row hb ?_;rintro (rfl | ⟨r, hr, rfl⟩)
 · exact hb.neP h.dJ.out h2 rfl
 · obtain ⟨ps, tl, nt, hp, _⟩ := h.dJ.row r hr;exact hb.ne hp h1 rfl
theorem ed.rows {w w' : World} {S : ct} (h : ed w S) {R : List Hd} (hc : aN S.rws w w') (hM : dv w' S.o R) (hl : R.length = S.R.length) : ed w' (S.az R) := by
 have e : ct.cF (S.az R) = S.cF := by unfold ct.cF ct.az; rw [hl]
 exact ⟨by rw [e]; exact h.gR hc h.box (by decide) (by decide), hM⟩
def iP (R : List Hd) (i j : Nat) (k : Int) (hi : i < R.length) (hj : j < R.length) : List Hd := dh R i (fs k R[i].xs R[j].xs)
theorem uu (S : ct) (i j : Nat) (kv : Value) (k : Int) (LA LB : Nat) (w : World) (h : ed w S) (hi : i < S.R.length) (hj : j < S.R.length) (hij : i ≠ j) (hK : ai w LA kv k) (hl : S.R[i].xs.length = S.R[j].xs.length)
 (hxL : ∀ x ∈ S.R[i].xs, ag x.natAbs <= 17592186044415) (hyL : ∀ y ∈ S.R[j].xs, ag y.natAbs <= LB) (hLab : LA + LB <= 17592186044415) (hlen : S.R[i].xs.length <= 4611686018427387903) :
 Calls Tryz.prog 113 #[.int .i64 (i : Int), .int .i64 (j : Int), kv, .pointer (some ⟨S.g, 0, none⟩)] w fun e w' => e = .returned (.tuple #[]) /\ ed w' (S.az (iP S.R i j k hi hj)) /\ aN S.rws w w' := by
 obtain ⟨kp, rfl⟩ := hK.parts;have HL := hi_ h; clear h;have HK := hi_ hK; clear hK;have HXL := hi_ hxL; clear hxL;have HYL := hi_ hyL; clear hyL;have Hl := hi_ hl; clear hl;go_enter Tryz.func113, Tryz.ntmps113;unfold av at *;go_wp2;have hb1 : Below w.heap.size w (w.alloc (.cells #[.bool kp.1, .slice kp.2.1 kp.2.2.1 kp.2.2.2] 37)) := (Below.refl _ _).alloc (Nat.le_refl _) _;have hr1 := aa.new w #[.bool kp.1, .slice kp.2.1 kp.2.2.1 kp.2.2.2] 37;generalize w.alloc (.cells #[.bool kp.1, .slice kp.2.1 kp.2.2.1 kp.2.2.2] 37) = w1 at *;have hbox := HL.out.box.below hb1 HL.out.box.lt;have hM1 := HL.out.dJ.below hb1;have hK1 := HK.out.below hb1;have HX1 := hi_ (hM1.row _ (List.getElem_mem hi));have HY1 := hi_ (hM1.row _ (List.getElem_mem hj));have hne := kX hM1.nd hi hj hij;have cg : w1.cell? ⟨S.g, 0, none⟩ = some (.slice (some ⟨S.o, 0, none⟩) S.R.length S.cap) := hbox.cell 0;have ci : w1.cell? ⟨S.o, i, none⟩ = some (.slice (some ⟨S.R[i].blk, 0, none⟩) S.R[i].xs.length S.R[i].cap) := hM1.cF hi;have cj : w1.cell? ⟨S.o, j, none⟩ = some (.slice (some ⟨S.R[j].blk, 0, none⟩) S.R[j].xs.length S.R[j].cap) := hM1.cF hj;have ck0 : w1.cell? ⟨w.heap.size, 0, none⟩ = some (.bool kp.1) := hr1.cell 0;have ck1 : w1.cell? ⟨w.heap.size, 1, none⟩ = some (.slice kp.2.1 kp.2.2.1 kp.2.2.2) := hr1.cell 1;have hs0 : S.g < w1.heap.size := hbox.lt;have hs1 : S.o < w1.heap.size := hM1.out.lt;have hs2 : w.heap.size < w1.heap.size := hr1.lt;have hi' : (i : Int) < (S.R.length : Int) := by omega
 have hj' : (j : Int) < (S.R.length : Int) := by omega
 have HM1 := hi_ hM1; clear hM1;have HK1 := hi_ hK1; clear hK1;have HB1 := hi_ hb1; clear hb1;clear hr1 hbox;refine dM ⟨9, fun q_ => [7, 8, 9, 10, 11, 12, 13, 14, 15].getD q_ 0,
  fun q_ => [.val (.slice (some ⟨S.o, 0, none⟩) S.R.length S.cap), .val (.int .i64 (i : Int)), .val (.pointer (some ⟨S.o, i, none⟩)), .val (.slice (some ⟨S.R[i].blk, 0, none⟩) S.R[i].xs.length S.R[i].cap), .val (.slice (some ⟨S.o, 0, none⟩) S.R.length S.cap), .val (.int .i64 (j : Int)), .val (.pointer (some ⟨S.o, j, none⟩)), .val (.slice (some ⟨S.R[j].blk, 0, none⟩) S.R[j].xs.length S.R[j].cap), .val (.agg #[.bool kp.1, .slice kp.2.1 kp.2.2.1 kp.2.2.2])].getD q_ .any,
  [],
  [],
  [],
  [], [(⟨S.g, 0, none⟩, .slice (some ⟨S.o, 0, none⟩) S.R.length S.cap), (⟨S.o, i, none⟩, .slice (some ⟨S.R[i].blk, 0, none⟩) S.R[i].xs.length S.R[i].cap), (⟨S.o, j, none⟩, .slice (some ⟨S.R[j].blk, 0, none⟩) S.R[j].xs.length S.R[j].cap), (⟨w.heap.size, 0, none⟩, .bool kp.1), (⟨w.heap.size, 1, none⟩, .slice kp.2.1 kp.2.2.1 kp.2.2.2)], []⟩ [7, 8, 9, 10, 11, 12, 13, 14, 15, 16] (w1.heap.size) (by kernel_rfl) (by kernel_rfl) (by kernel_rfl) (by kernel_rfl) (by kernel_rfl) ?_ ?_ ?_ ?_ ?_ ?_
 · intro p hp;cases hp
 · intro p hp;cases hp
 · intro p hp;rcases mc hp with rfl | hp
   · refine ⟨cg, by show S.g < w1.heap.size; omega, ?_⟩;intro t ht;cases ht
   rcases mc hp with rfl | hp
   · refine ⟨ci, by show S.o < w1.heap.size; omega, ?_⟩;intro t ht;cases ht
   rcases mc hp with rfl | hp
   · refine ⟨cj, by show S.o < w1.heap.size; omega, ?_⟩;intro t ht;cases ht
   rcases mc hp with rfl | hp
   · refine ⟨ck0, by show w.heap.size < w1.heap.size; omega, ?_⟩;intro t ht;cases ht
   rcases mc hp with rfl | hp
   · refine ⟨ck1, by show w.heap.size < w1.heap.size; omega, ?_⟩;intro t ht;cases ht
   cases hp
 · intro t ht;cases ht
 · refine ak ?_ (ak ?_ (ak ?_ (ak ?_ (ak ?_ (ak ?_ (ak ?_ (ak ?_ (ak ?_ kj))))))));any_goals (first | (intro L fx w' hJ hL hp hcl; have _ := sr hp (by decide +kernel); refine aP rfl fun K hK => ?_; go_simp; exact hJ.q hK (by kernel_rfl) rfl) | fail)
   · intro L fx w' hJ hL hp hcl;refine aP rfl fun K hK => ?_;have cl0 := (hJ.cells _ fL).1;try dsimp only at cl0
     go_simp;exact hJ.q hK (by kernel_rfl) rfl
   · intro L fx w' hJ hL hp hcl;have e0 := hJ.pt 0 7 (.slice (some ⟨S.o, 0, none⟩) S.R.length S.cap) rfl rfl rfl (hp 0 (by decide));rw [e0] at hJ ⊢; clear e0;have e1 := hJ.pt 1 8 (.int .i64 (i : Int)) rfl rfl rfl (hp 1 (by decide));rw [e1] at hJ ⊢; clear e1;refine aP rfl fun K hK => ?_;go_simp;exact hJ.q hK (by kernel_rfl) rfl
   · intro L fx w' hJ hL hp hcl;have e2 := hJ.pt 2 9 (.pointer (some ⟨S.o, i, none⟩)) rfl rfl rfl (hp 2 (by decide));rw [e2] at hJ ⊢; clear e2;refine aP rfl fun K hK => ?_;have cl0 := (hJ.cells _ iQ).1;try dsimp only at cl0
     go_simp;exact hJ.q hK (by kernel_rfl) rfl
   · intro L fx w' hJ hL hp hcl;refine aP rfl fun K hK => ?_;have cl0 := (hJ.cells _ fL).1;try dsimp only at cl0
     go_simp;exact hJ.q hK (by kernel_rfl) rfl
   · intro L fx w' hJ hL hp hcl;have e4 := hJ.pt 4 11 (.slice (some ⟨S.o, 0, none⟩) S.R.length S.cap) rfl rfl rfl (hp 4 (by decide));rw [e4] at hJ ⊢; clear e4;have e5 := hJ.pt 5 12 (.int .i64 (j : Int)) rfl rfl rfl (hp 5 (by decide));rw [e5] at hJ ⊢; clear e5;refine aP rfl fun K hK => ?_;go_simp;exact hJ.q hK (by kernel_rfl) rfl
   · intro L fx w' hJ hL hp hcl;have e6 := hJ.pt 6 13 (.pointer (some ⟨S.o, j, none⟩)) rfl rfl rfl (hp 6 (by decide));rw [e6] at hJ ⊢; clear e6;refine aP rfl fun K hK => ?_;have cl0 := (hJ.cells _ qc).1;try dsimp only at cl0
     go_simp;exact hJ.q hK (by kernel_rfl) rfl
   · intro L fx w' hJ hL hp hcl;refine aP rfl fun K hK => ?_;have cl0 := (hJ.cells _ vf).1;have cl1 := (hJ.cells _ mm4).1;try dsimp only at cl0 cl1
     go_simp;exact hJ.q hK (by kernel_rfl) rfl
 · intro L x' w3 hL hJ;have hfr : Below w1.drew.heap.size w1.drew w3 := hJ.fr;have e3 : x' 10 = .slice (some ⟨S.R[i].blk, 0, none⟩) S.R[i].xs.length S.R[i].cap := hJ.slot 3 (by show 3 < 9; decide) (hL 3 (by show 3 < 9; decide));have e7 : x' 14 = .slice (some ⟨S.R[j].blk, 0, none⟩) S.R[j].xs.length S.R[j].cap := hJ.slot 7 (by show 7 < 9; decide) (hL 7 (by show 7 < 9; decide));have e8 : x' 15 = .agg #[.bool kp.1, .slice kp.2.1 kp.2.2.1 kp.2.2.2] := hJ.slot 8 (by show 8 < 9; decide) (hL 8 (by show 8 < 9; decide));rw [aC (x := x') (d := 10) (v := .slice (some ⟨S.R[i].blk, 0, none⟩) S.R[i].xs.length S.R[i].cap) e3];rw [aC (x := (bf x' 10 (.slice (some ⟨S.R[i].blk, 0, none⟩) S.R[i].xs.length S.R[i].cap))) (d := 14) (v := .slice (some ⟨S.R[j].blk, 0, none⟩) S.R[j].xs.length S.R[j].cap) e7];rw [aC (x := (bf (bf x' 10 (.slice (some ⟨S.R[i].blk, 0, none⟩) S.R[i].xs.length S.R[i].cap)) 14 (.slice (some ⟨S.R[j].blk, 0, none⟩) S.R[j].xs.length S.R[j].cap))) (d := 15) (v := .agg #[.bool kp.1, .slice kp.2.1 kp.2.2.1 kp.2.2.2]) e8];clear hJ hL e3 e7 e8 cg ci cj ck0 ck1;refine aP rfl fun K hK => ?_;go_simp;go_at_call 114;refine (Ay _ _ _ _ LA LB _ _ _ k _ (aK.below (w := w1.drew) HX1.out hfr) (aK.below (w := w1.drew) HY1.out hfr) (ai.below (w := w1.drew) HK1.out hfr) hne Hl.out HXL.out HYL.out hLab hlen).mono ?_;rintro e w4 ⟨rfl, hR4, hC4⟩;try dsimp only
   refine hK _ _ ⟨⟨bf (bf (bf (bf x' 10 (.slice (some ⟨S.R[i].blk, 0, none⟩) S.R[i].xs.length S.R[i].cap)) 14 (.slice (some ⟨S.R[j].blk, 0, none⟩) S.R[j].xs.length S.R[j].cap)) 15 (.agg #[.bool kp.1, .slice kp.2.1 kp.2.2.1 kp.2.2.2])) 16 (.tuple #[]), by kernel_rfl⟩, ?_⟩;clear hK;go_wp2;refine bodyPost_end (results_none (by kernel_rfl) _ _ _) rfl ?_;have hC0 : aN S.rws w w3 := (aN.aU HB1.out).drew.below hfr;have hs3 := hfr.size;have hs4 : w1.drew.heap.size = w1.heap.size := rfl;have hCs : aN (· = S.R[i].blk) w w4 := ((aN.aU HB1.out).drew.below hfr).trans (hC4.mono (fun k _ e => e));have hCo : aN S.rws w w4 := hCs.mono (fun k _ e => .inr ⟨S.R[i], List.getElem_mem hi, e.symm⟩);have hM4 := HL.out.dJ.dh hi (nF Hl.out) hCs hR4;exact ⟨rfl, HL.out.rows hCo hM4 (by unfold iP; rw [aB]), hCo⟩
theorem qh {w w' : World} {o : Nat} {R : List Hd} (h : dv w o R) {i j : Nat} (hi : i < R.length) (hj : j < R.length) (hij : i ≠ j) {xs ys : List Int} (hl : xs.length = R[i].xs.length) (hl2 : ys.length = R[j].xs.length) (hc : aN (fun k => k = R[i].blk ∨ k = R[j].blk) w w') (hr : aK w' R[i].blk xs) (hr2 : aK w' R[j].blk ys) : dv w' o (dh (dh R i xs) j ys) := by
 have hw : dq (fun k => k = R[i].blk ∨ k = R[j].blk) w := by
  rintro g (rfl | rfl)
  · exact (h.row _ (List.getElem_mem hi)).bI _ rfl
  · exact (h.row _ (List.getElem_mem hj)).bI _ rfl
 have hj' : j < (dh R i xs).length := by rw [aB]; exact hj
 have ej : (dh R i xs)[j].xs = R[j].xs := by rw [dr hj, if_neg hij]
 refine ⟨?_, fun r hr' => ?_, by rw [eY, eY]; exact h.nd⟩
 · rw [lf hj' (by rw [ej]; exact hl2), lf hi hl];exact h.out.qb hc (fun e => e.elim (fun e => h.ne (List.getElem_mem hi) e.symm) (fun e => h.ne (List.getElem_mem hj) e.symm))
 · obtain ⟨m, hm, rfl⟩ := List.getElem_of_mem hr';rw [aB] at hm;have hm2 : m < R.length := by rw [aB] at hm; exact hm
   rw [dr hm];split
   · rename_i e;subst e;have : (dh R i xs)[j].blk = R[j].blk := by rw [dr hj, if_neg hij]
     simp only [this]; exact hr2
   · rename_i hjm;rw [dr hm2];split
     · rename_i e; subst e; exact hr
     · rename_i him;exact hc.uJ hw (h.row _ (List.getElem_mem hm2)) (fun e => e.elim (kX h.nd hm2 hi (fun e' => him e'.symm)) (kX h.nd hm2 hj (fun e' => hjm e'.symm)))
def kd (R : List Hd) (i j : Nat) (a b c d : Int) (hi : i < R.length) (hj : j < R.length) : List Hd := dh (dh R i (fX a b R[i].xs R[j].xs)) j (fX c d R[i].xs R[j].xs)
theorem uW (S : ct) (i j : Nat) (mp mq mr ms : P4) (a b c d : Int) (LA LB : Nat) (w : World) (h : ed w S) (hi : i < S.R.length) (hj : j < S.R.length) (hij : i ≠ j) (hA : ai w LA (av mp) a) (hB : ai w LA (av mq) b) (hC : ai w LA (av mr) c) (hD : ai w LA (av ms) d) (hl : S.R[i].xs.length = S.R[j].xs.length)
 (hxL : ∀ x ∈ S.R[i].xs, ag x.natAbs <= LB) (hyL : ∀ y ∈ S.R[j].xs, ag y.natAbs <= LB) (hLab : LA + LB <= 17592186044415) (hlen : S.R[i].xs.length <= 4611686018427387903) :
 Calls Tryz.prog 115 #[.int .i64 (i : Int), .int .i64 (j : Int), .agg #[.bool mp.1, .slice mp.2.1 mp.2.2.1 mp.2.2.2, .bool mq.1, .slice mq.2.1 mq.2.2.1 mq.2.2.2, .bool mr.1, .slice mr.2.1 mr.2.2.1 mr.2.2.2, .bool ms.1, .slice ms.2.1 ms.2.2.1 ms.2.2.2], .pointer (some ⟨S.g, 0, none⟩)] w fun e w' => e = .returned (.tuple #[]) /\ ed w' (S.az (kd S.R i j a b c d hi hj)) /\ aN S.rws w w' := by
 have HL := hi_ h; clear h;have HA := hi_ hA; clear hA;have HB := hi_ hB; clear hB;have HC := hi_ hC; clear hC;have HD := hi_ hD; clear hD;have HXL := hi_ hxL; clear hxL;have HYL := hi_ hyL; clear hyL;have Hl := hi_ hl; clear hl;go_enter Tryz.func115, Tryz.ntmps115;unfold av at *;go_wp2;have hb1 : Below w.heap.size w (w.alloc (.cells #[.bool mp.1, .slice mp.2.1 mp.2.2.1 mp.2.2.2, .bool mq.1, .slice mq.2.1 mq.2.2.1 mq.2.2.2, .bool mr.1, .slice mr.2.1 mr.2.2.1 mr.2.2.2, .bool ms.1, .slice ms.2.1 ms.2.2.1 ms.2.2.2] 138)) := (Below.refl _ _).alloc (Nat.le_refl _) _;have hr1 := aa.new w #[.bool mp.1, .slice mp.2.1 mp.2.2.1 mp.2.2.2, .bool mq.1, .slice mq.2.1 mq.2.2.1 mq.2.2.2, .bool mr.1, .slice mr.2.1 mr.2.2.1 mr.2.2.2, .bool ms.1, .slice ms.2.1 ms.2.2.1 ms.2.2.2] 138;generalize w.alloc (.cells #[.bool mp.1, .slice mp.2.1 mp.2.2.1 mp.2.2.2, .bool mq.1, .slice mq.2.1 mq.2.2.1 mq.2.2.2, .bool mr.1, .slice mr.2.1 mr.2.2.1 mr.2.2.2, .bool ms.1, .slice ms.2.1 ms.2.2.1 ms.2.2.2] 138) = w1 at *;have hbox := HL.out.box.below hb1 HL.out.box.lt;have hM1 := HL.out.dJ.below hb1;have HA1 := hi_ (HA.out.below hb1);have HB1' := hi_ (HB.out.below hb1);have HC1 := hi_ (HC.out.below hb1);have HD1 := hi_ (HD.out.below hb1);have HX1 := hi_ (hM1.row _ (List.getElem_mem hi));have HY1 := hi_ (hM1.row _ (List.getElem_mem hj));have hne := kX hM1.nd hi hj hij;have cg : w1.cell? ⟨S.g, 0, none⟩ = some (.slice (some ⟨S.o, 0, none⟩) S.R.length S.cap) := hbox.cell 0;have ci : w1.cell? ⟨S.o, i, none⟩ = some (.slice (some ⟨S.R[i].blk, 0, none⟩) S.R[i].xs.length S.R[i].cap) := hM1.cF hi;have cj : w1.cell? ⟨S.o, j, none⟩ = some (.slice (some ⟨S.R[j].blk, 0, none⟩) S.R[j].xs.length S.R[j].cap) := hM1.cF hj;have HR1 := hi_ hr1;have hs0 : S.g < w1.heap.size := hbox.lt;have hs1 : S.o < w1.heap.size := hM1.out.lt;have hs2 : w.heap.size < w1.heap.size := hr1.lt;have hi' : (i : Int) < (S.R.length : Int) := by omega
 have hj' : (j : Int) < (S.R.length : Int) := by omega
 have HM1 := hi_ hM1; clear hM1;have HB1 := hi_ hb1; clear hb1;clear hr1 hbox;refine dM ⟨9, fun q_ => [7, 8, 9, 10, 11, 12, 13, 14, 15].getD q_ 0,
  fun q_ => [.val (.slice (some ⟨S.o, 0, none⟩) S.R.length S.cap), .val (.int .i64 (i : Int)), .val (.pointer (some ⟨S.o, i, none⟩)), .val (.slice (some ⟨S.R[i].blk, 0, none⟩) S.R[i].xs.length S.R[i].cap), .val (.slice (some ⟨S.o, 0, none⟩) S.R.length S.cap), .val (.int .i64 (j : Int)), .val (.pointer (some ⟨S.o, j, none⟩)), .val (.slice (some ⟨S.R[j].blk, 0, none⟩) S.R[j].xs.length S.R[j].cap), .val (.agg #[.bool mp.1, .slice mp.2.1 mp.2.2.1 mp.2.2.2, .bool mq.1, .slice mq.2.1 mq.2.2.1 mq.2.2.2, .bool mr.1, .slice mr.2.1 mr.2.2.1 mr.2.2.2, .bool ms.1, .slice ms.2.1 ms.2.2.1 ms.2.2.2])].getD q_ .any,
  [],
  [],
  [(w.heap.size, 138, [.bool mp.1, .slice mp.2.1 mp.2.2.1 mp.2.2.2, .bool mq.1, .slice mq.2.1 mq.2.2.1 mq.2.2.2, .bool mr.1, .slice mr.2.1 mr.2.2.1 mr.2.2.2, .bool ms.1, .slice ms.2.1 ms.2.2.1 ms.2.2.2])],
  [], [(⟨S.g, 0, none⟩, .slice (some ⟨S.o, 0, none⟩) S.R.length S.cap), (⟨S.o, i, none⟩, .slice (some ⟨S.R[i].blk, 0, none⟩) S.R[i].xs.length S.R[i].cap), (⟨S.o, j, none⟩, .slice (some ⟨S.R[j].blk, 0, none⟩) S.R[j].xs.length S.R[j].cap)], []⟩ [7, 8, 9, 10, 11, 12, 13, 14, 15, 16] (w1.heap.size) (by kernel_rfl) (by kernel_rfl) (by kernel_rfl) (by kernel_rfl) (by kernel_rfl) ?_ ?_ ?_ ?_ ?_ ?_
 · intro p hp;cases hp
 · intro p hp;rcases mc hp with rfl | hp
   · refine ⟨HR1.out, by show w.heap.size < w1.heap.size; omega, ?_⟩;intro t ht;cases ht
   cases hp
 · intro p hp;rcases mc hp with rfl | hp
   · refine ⟨cg, by show S.g < w1.heap.size; omega, ?_⟩;intro t ht;cases ht
   rcases mc hp with rfl | hp
   · refine ⟨ci, by show S.o < w1.heap.size; omega, ?_⟩;intro t ht;cases ht
   rcases mc hp with rfl | hp
   · refine ⟨cj, by show S.o < w1.heap.size; omega, ?_⟩;intro t ht;cases ht
   cases hp
 · intro t ht;cases ht
 · refine ak ?_ (ak ?_ (ak ?_ (ak ?_ (ak ?_ (ak ?_ (ak ?_ (ak ?_ (ak ?_ kj))))))));any_goals (first | (intro L fx w' hJ hL hp hcl; have _ := sr hp (by decide +kernel); refine aP rfl fun K hK => ?_; go_simp; exact hJ.q hK (by kernel_rfl) rfl) | fail)
   · intro L fx w' hJ hL hp hcl;refine aP rfl fun K hK => ?_;have cl0 := (hJ.cells _ fL).1;try dsimp only at cl0
     go_simp;exact hJ.q hK (by kernel_rfl) rfl
   · intro L fx w' hJ hL hp hcl;have e0 := hJ.pt 0 7 (.slice (some ⟨S.o, 0, none⟩) S.R.length S.cap) rfl rfl rfl (hp 0 (by decide));rw [e0] at hJ ⊢; clear e0;have e1 := hJ.pt 1 8 (.int .i64 (i : Int)) rfl rfl rfl (hp 1 (by decide));rw [e1] at hJ ⊢; clear e1;refine aP rfl fun K hK => ?_;go_simp;exact hJ.q hK (by kernel_rfl) rfl
   · intro L fx w' hJ hL hp hcl;have e2 := hJ.pt 2 9 (.pointer (some ⟨S.o, i, none⟩)) rfl rfl rfl (hp 2 (by decide));rw [e2] at hJ ⊢; clear e2;refine aP rfl fun K hK => ?_;have cl0 := (hJ.cells _ iQ).1;try dsimp only at cl0
     go_simp;exact hJ.q hK (by kernel_rfl) rfl
   · intro L fx w' hJ hL hp hcl;refine aP rfl fun K hK => ?_;have cl0 := (hJ.cells _ fL).1;try dsimp only at cl0
     go_simp;exact hJ.q hK (by kernel_rfl) rfl
   · intro L fx w' hJ hL hp hcl;have e4 := hJ.pt 4 11 (.slice (some ⟨S.o, 0, none⟩) S.R.length S.cap) rfl rfl rfl (hp 4 (by decide));rw [e4] at hJ ⊢; clear e4;have e5 := hJ.pt 5 12 (.int .i64 (j : Int)) rfl rfl rfl (hp 5 (by decide));rw [e5] at hJ ⊢; clear e5;refine aP rfl fun K hK => ?_;go_simp;exact hJ.q hK (by kernel_rfl) rfl
   · intro L fx w' hJ hL hp hcl;have e6 := hJ.pt 6 13 (.pointer (some ⟨S.o, j, none⟩)) rfl rfl rfl (hp 6 (by decide));rw [e6] at hJ ⊢; clear e6;refine aP rfl fun K hK => ?_;have cl0 := (hJ.cells _ qc).1;try dsimp only at cl0
     go_simp;exact hJ.q hK (by kernel_rfl) rfl
   · intro L fx w' hJ hL hp hcl;refine aP rfl fun K hK => ?_;have rw0 := (hJ.rows _ fL).1;have cl0 : w'.cell? ⟨w.heap.size, 0, none⟩ = some (.bool mp.1) := rw0.cell 0;have cl1 : w'.cell? ⟨w.heap.size, 1, none⟩ = some (.slice mp.2.1 mp.2.2.1 mp.2.2.2) := rw0.cell 1;have cl2 : w'.cell? ⟨w.heap.size, 2, none⟩ = some (.bool mq.1) := rw0.cell 2;have cl3 : w'.cell? ⟨w.heap.size, 3, none⟩ = some (.slice mq.2.1 mq.2.2.1 mq.2.2.2) := rw0.cell 3;have cl4 : w'.cell? ⟨w.heap.size, 4, none⟩ = some (.bool mr.1) := rw0.cell 4;have cl5 : w'.cell? ⟨w.heap.size, 5, none⟩ = some (.slice mr.2.1 mr.2.2.1 mr.2.2.2) := rw0.cell 5;have cl6 : w'.cell? ⟨w.heap.size, 6, none⟩ = some (.bool ms.1) := rw0.cell 6;have cl7 : w'.cell? ⟨w.heap.size, 7, none⟩ = some (.slice ms.2.1 ms.2.2.1 ms.2.2.2) := rw0.cell 7;go_simp;exact hJ.q hK (by kernel_rfl) rfl
 · intro L x' w3 hL hJ;have hfr : Below w1.drew.heap.size w1.drew w3 := hJ.fr;have e3 : x' 10 = .slice (some ⟨S.R[i].blk, 0, none⟩) S.R[i].xs.length S.R[i].cap := hJ.slot 3 (by show 3 < 9; decide) (hL 3 (by show 3 < 9; decide));have e7 : x' 14 = .slice (some ⟨S.R[j].blk, 0, none⟩) S.R[j].xs.length S.R[j].cap := hJ.slot 7 (by show 7 < 9; decide) (hL 7 (by show 7 < 9; decide));have e8 : x' 15 = .agg #[.bool mp.1, .slice mp.2.1 mp.2.2.1 mp.2.2.2, .bool mq.1, .slice mq.2.1 mq.2.2.1 mq.2.2.2, .bool mr.1, .slice mr.2.1 mr.2.2.1 mr.2.2.2, .bool ms.1, .slice ms.2.1 ms.2.2.1 ms.2.2.2] := hJ.slot 8 (by show 8 < 9; decide) (hL 8 (by show 8 < 9; decide));rw [aC (x := x') (d := 10) (v := .slice (some ⟨S.R[i].blk, 0, none⟩) S.R[i].xs.length S.R[i].cap) e3];rw [aC (x := (bf x' 10 (.slice (some ⟨S.R[i].blk, 0, none⟩) S.R[i].xs.length S.R[i].cap))) (d := 14) (v := .slice (some ⟨S.R[j].blk, 0, none⟩) S.R[j].xs.length S.R[j].cap) e7];rw [aC (x := (bf (bf x' 10 (.slice (some ⟨S.R[i].blk, 0, none⟩) S.R[i].xs.length S.R[i].cap)) 14 (.slice (some ⟨S.R[j].blk, 0, none⟩) S.R[j].xs.length S.R[j].cap))) (d := 15) (v := .agg #[.bool mp.1, .slice mp.2.1 mp.2.2.1 mp.2.2.2, .bool mq.1, .slice mq.2.1 mq.2.2.1 mq.2.2.2, .bool mr.1, .slice mr.2.1 mr.2.2.1 mr.2.2.2, .bool ms.1, .slice ms.2.1 ms.2.2.1 ms.2.2.2]) e8];clear hJ hL e3 e7 e8 cg ci cj;refine aP rfl fun K hK => ?_;go_simp;go_at_call 116;refine (AB _ _ _ _ LA LB _ _ mp mq mr ms a b c d _ (aK.below (w := w1.drew) HX1.out hfr) (aK.below (w := w1.drew) HY1.out hfr) (ai.below (w := w1.drew) HA1.out hfr) (ai.below (w := w1.drew) HB1'.out hfr) (ai.below (w := w1.drew) HC1.out hfr) (ai.below (w := w1.drew) HD1.out hfr) hne Hl.out HXL.out HYL.out hLab hlen).mono ?_;rintro e w4 ⟨rfl, hR4, hR4', hC4⟩;try dsimp only
   refine hK _ _ ⟨⟨bf (bf (bf (bf x' 10 (.slice (some ⟨S.R[i].blk, 0, none⟩) S.R[i].xs.length S.R[i].cap)) 14 (.slice (some ⟨S.R[j].blk, 0, none⟩) S.R[j].xs.length S.R[j].cap)) 15 (.agg #[.bool mp.1, .slice mp.2.1 mp.2.2.1 mp.2.2.2, .bool mq.1, .slice mq.2.1 mq.2.2.1 mq.2.2.2, .bool mr.1, .slice mr.2.1 mr.2.2.1 mr.2.2.2, .bool ms.1, .slice ms.2.1 ms.2.2.1 ms.2.2.2])) 16 (.tuple #[]), by kernel_rfl⟩, ?_⟩;clear hK;go_wp2;refine bodyPost_end (results_none (by kernel_rfl) _ _ _) rfl ?_;have hC0 : aN S.rws w w3 := (aN.aU HB1.out).drew.below hfr;have hs3 := hfr.size;have hs4 : w1.drew.heap.size = w1.heap.size := rfl;have hCs : aN (fun k => k = S.R[i].blk ∨ k = S.R[j].blk) w w4 := ((aN.aU HB1.out).drew.below hfr).trans (hC4.mono (fun k _ e => e));have hCo : aN S.rws w w4 := hCs.mono (fun k _ e => .inr (e.elim (fun e => ⟨S.R[i], List.getElem_mem hi, e.symm⟩) (fun e => ⟨S.R[j], List.getElem_mem hj, e.symm⟩)));have hM4 := qh HL.out.dJ hi hj hij (jF Hl.out) ((jF Hl.out).trans Hl.out) hCs hR4 hR4';exact ⟨rfl, HL.out.rows hCo hM4 (by unfold kd; rw [aB, aB]), hCo⟩
theorem dv.drew {w : World} {o : Nat} {R : List Hd} (h : dv w o R) : dv w.drew o R := ⟨h.out, h.row, h.nd⟩
theorem ed.drew {w : World} {S : ct} (h : ed w S) : ed w.drew S := ⟨h.box, h.dJ.drew⟩
theorem aD.drew {w : World} {S : ct} (h : aD w S) : aD w.drew S := ⟨h.lad, h.sides, h.box, h.dJ.drew, fun t ht => by obtain ⟨V, hV⟩ := h.ext t ht; exact ⟨V, hV.sd.drew, hV.box3, hV.rel, hV.own, hV.apart⟩⟩
def ff (R : List Hd) (i j : Nat) (hi : i < R.length) (hj : j < R.length) : List Hd := (R.set i R[j]).set j R[i]
def swp (i j m : Nat) : Nat := if m = j then i else if m = i then j else m
theorem kR {i j m n : Nat} (hi : i < n) (hj : j < n) (hm : m < n) : swp i j m < n := by unfold swp; (repeat' split) <;> assumption
theorem yu {i j a b : Nat} (h : swp i j a = swp i j b) : a = b := by unfold swp at h; (repeat' split at h) <;> omega
theorem bM {R : List Hd} {i j : Nat} (hi : i < R.length) (hj : j < R.length) : (ff R i j hi hj).length = R.length := by simp [ff]
theorem fa {R : List Hd} {i j m : Nat} (hi : i < R.length) (hj : j < R.length) (hm : m < R.length) : (ff R i j hi hj)[m]'(by rw [bM]; exact hm) = R[swp i j m]'(kR hi hj hm) := by
 unfold ff;rw [List.getElem_set];split
 · rename_i e; subst e; congr 1; unfold swp; rw [if_pos rfl]
 · rename_i e;rw [List.getElem_set];split
   · rename_i e'; subst e'; congr 1; unfold swp; rw [if_neg (fun h => e h.symm), if_pos rfl]
   · rename_i e'; congr 1; unfold swp; rw [if_neg (fun h => e h.symm), if_neg (fun h => e' h.symm)]
theorem uV {R : List Hd} {i j : Nat} (hi : i < R.length) (hj : j < R.length) : (ff R i j hi hj).map Hd.cF = ((R.map Hd.cF).set i (R[j]).cF).set j (R[i]).cF := by
 unfold ff; rw [List.map_set, List.map_set]
theorem uU {w w' : World} {o : Nat} {R : List Hd} (h : dv w o R) {i j : Nat} (hi : i < R.length) (hj : j < R.length) (hc : aN (· = o) w w') (hr : ef w' o 22 (((R.map Hd.cF).set i (R[j]).cF).set j (R[i]).cF)) : dv w' o (ff R i j hi hj) := by
 have hw : dq (· = o) w := by rintro g rfl; obtain ⟨tl, n, ho⟩ := h.out; exact ⟨_, _, ho, aI.append (ki _) n⟩
 refine ⟨by rw [uV]; exact hr, fun r hr' => ?_, ?_⟩
 · obtain ⟨m, hm, rfl⟩ := List.getElem_of_mem hr';rw [bM] at hm;rw [fa hi hj hm];have hmem := List.getElem_mem (l := R) (kR hi hj hm);exact hc.uJ hw (h.row _ hmem) (h.ne hmem)
 · refine List.pairwise_iff_getElem.2 fun a b ha hb hab => ?_;have ha' : a < R.length := by simpa [bM] using ha
   have hb' : b < R.length := by simpa [bM] using hb
   simp only [List.getElem_map];rw [fa hi hj ha', fa hi hj hb'];exact kX h.nd (kR hi hj ha') (kR hi hj hb') (fun e => by have := yu e; omega)
theorem rG (J : (Nat -> Bool) -> (Nat -> Value) -> World -> Prop) (ds : List Nat) {P : Program} {ops : Array Oper} {Q : Exit -> Act -> World -> Prop} {id n : Nat} {a : Act} {w : World} (hm : P.follows .mixedOrders = true) (hn : ops.size = n)
 (hb : ((List.range n).all fun i => ((ops[i]?).map (·.after.all fun e => !Region.binds .any e || decide (e.on < i))).getD false) = true)
 (hF : a = cC a (fun k => a.tmps.getD k undef) ds) (h0 : ∀ x, J (fun _ => false) x w.drew)
 (hs : ∀ i ∈ List.range n, ∀ L x w', J L x w' -> (∀ k < n, L k = true -> ∀ j ∈ dm ops k, L j = true) -> L i = false -> (∀ j ∈ dm ops i, L j = true) -> wpOp P ops Q i (fun a' w'' => ∃ x', a' = cC a x' ds /\ J (eL L i) x' w'') (cC a x ds) w')
 (hend : ∀ L x w', (∀ i < n, L i = true) -> J L x w' -> Q .normal (cC a x ds) w') : (Code.region id ops true).wp P Q a w :=
 gK hm hn hb (fun x => cC a x ds) J (fun k => a.tmps.getD k undef) hF (h0 _) (fun i hi L x w' hJ hG hL hp => hs i (List.mem_range.2 hi) L x w' hJ (fun k hk hLk => cH L k (hG k hk hLk)) hL (cH L i hp)) hend
def swD (k : Nat) : Nat := if k < 13 then k + 5 else 18
def swV (S : ct) (i j : Nat) (hi : i < S.R.length) (hj : j < S.R.length) (k : Nat) : Value := [.slice (some ⟨S.o, 0, none⟩) S.R.length S.cap, .int .i64 (i : Int), .slice (some ⟨S.o, 0, none⟩) S.R.length S.cap, .int .i64 (j : Int), .slice (some ⟨S.o, 0, none⟩) S.R.length S.cap, .int .i64 (j : Int), .pointer (some ⟨S.o, j, none⟩), .slice (some ⟨(S.R[j]'hj).blk, 0, none⟩) (S.R[j]'hj).xs.length (S.R[j]'hj).cap, .slice (some ⟨S.o, 0, none⟩) S.R.length S.cap, .int .i64 (i : Int), .pointer (some ⟨S.o, i, none⟩), .slice (some ⟨(S.R[i]'hi).blk, 0, none⟩) (S.R[i]'hi).xs.length (S.R[i]'hi).cap, .pointer (some ⟨S.o, i, none⟩), undef, .pointer (some ⟨S.o, j, none⟩), undef].getD k undef
def swW (S : ct) (i j : Nat) (hi : i < S.R.length) (hj : j < S.R.length) (w : World) : Bool -> Bool -> World
 | true, true => (w.setCell ⟨S.o, i, none⟩ (.slice (some ⟨(S.R[j]'hj).blk, 0, none⟩) (S.R[j]'hj).xs.length (S.R[j]'hj).cap)).setCell ⟨S.o, j, none⟩ (.slice (some ⟨(S.R[i]'hi).blk, 0, none⟩) (S.R[i]'hi).xs.length (S.R[i]'hi).cap)
 | true, false => w.setCell ⟨S.o, i, none⟩ (.slice (some ⟨(S.R[j]'hj).blk, 0, none⟩) (S.R[j]'hj).xs.length (S.R[j]'hj).cap)
 | false, _ => w
def swJ (S : ct) (i j : Nat) (hi : i < S.R.length) (hj : j < S.R.length) (w : World) (L : Nat -> Bool) (x : Nat -> Value) (w' : World) : Prop :=
 (∀ k, k < 16 -> k ≠ 13 -> k ≠ 15 -> L k = true -> x (swD k) = swV S i j hi hj k) /\ w' = swW S i j hi hj w (L 13) (L 15)
theorem swJ.pure {S : ct} {i j : Nat} {hi : i < S.R.length} {hj : j < S.R.length} {w w' : World} {L : Nat -> Bool} {x : Nat -> Value} (h : swJ S i j hi hj w L x w') (k : Nat) (hk : Nat.blt k 16 = true) (h1 : Nat.beq k 13 = false) (h2 : Nat.beq k 15 = false) :
 swJ S i j hi hj w (eL L k) (bf x (swD k) (swV S i j hi hj k)) w' := by
 have hk := Nat.le_of_ble_eq_true hk;have h1 : k ≠ 13 := fun e => by subst e; cases h1
 have h2 : k ≠ 15 := fun e => by subst e; cases h2
 refine ⟨fun m hm hm1 hm2 hL => ?_, ?_⟩
 · unfold bf;by_cases e : m = k
   · subst e; rw [if_pos rfl]
   · rw [if_neg (by unfold swD; split <;> split <;> omega)];unfold eL at hL;rw [if_neg e] at hL;exact h.1 m hm hm1 hm2 hL
 · show w' = swW S i j hi hj w (eL L k 13) (eL L k 15);unfold eL;rw [if_neg (Ne.symm h1), if_neg (Ne.symm h2)];exact h.2
theorem sD (S : ct) (i j : Nat) (w : World) (h : ed w S) (hi : i < S.R.length) (hj : j < S.R.length) (hij : i ≠ j) :
 Calls Tryz.prog 111 #[.int .i64 (i : Int), .int .i64 (j : Int), .pointer (some ⟨S.g, 0, none⟩)] w fun e w' => e = .returned (.tuple #[]) /\ ed w' (S.az (ff S.R i j hi hj)) /\ aN S.rws w w' := by
 have hgo : S.g ≠ S.o := h.box.neP h.dJ.out (by decide);have hog : ¬ S.o = S.g := fun e => hgo e.symm;have cg : w.cell? ⟨S.g, 0, none⟩ = some (.slice (some ⟨S.o, 0, none⟩) S.R.length S.cap) := h.box.cell 0;have ci : w.cell? ⟨S.o, i, none⟩ = some (.slice (some ⟨S.R[i].blk, 0, none⟩) S.R[i].xs.length S.R[i].cap) := h.dJ.cF hi;have cj : w.cell? ⟨S.o, j, none⟩ = some (.slice (some ⟨S.R[j].blk, 0, none⟩) S.R[j].xs.length S.R[j].cap) := h.dJ.cF hj;have fi := h.dJ.out.free i;have fj := h.dJ.out.free j;have hi' : (i : Int) < (S.R.length : Int) := by omega
 have hj' : (j : Int) < (S.R.length : Int) := by omega
 have hji : ¬ j = i := fun e => hij e.symm;have HL := hi_ h; clear h;go_enter Tryz.func111, Tryz.ntmps111;go_wp2;have hcell : ∀ a b, (swW S i j hi hj w.drew a b).cell? ⟨S.g, 0, none⟩ = some (.slice (some ⟨S.o, 0, none⟩) S.R.length S.cap) := by
  intro a b;cases a
  · exact cg
  · cases b
    · exact (World.cell?_setCell_far _ _ _ _ hog).trans cg
    · exact (World.cell?_setCell_far _ _ _ _ hog).trans ((World.cell?_setCell_far _ _ _ _ hog).trans cg)
 have HC := hi_ hcell;clear hcell;refine rG (swJ S i j hi hj w.drew) [5, 6, 7, 8, 9, 10, 11, 12, 13, 14, 15, 16, 17, 18] (n := 16) (by kernel_rfl) (by kernel_rfl) (by kernel_rfl) (by kernel_rfl) ?_ ?_ ?_
 · exact fun _ => ⟨fun _ _ _ _ h => by simp at h, rfl⟩
 · refine ak ?_ (ak ?_ (ak ?_ (ak ?_ (ak ?_ (ak ?_ (ak ?_ (ak ?_ (ak ?_ (ak ?_ (ak ?_ (ak ?_ (ak ?_ (ak ?_ (ak ?_ (ak ?_ kj)))))))))))))))
   · intro L x w' hJ hG hL hp;have c0 : w'.cell? ⟨S.g, 0, none⟩ = some (.slice (some ⟨S.o, 0, none⟩) S.R.length S.cap) := by rw [hJ.2]; exact HC.out _ _
     refine wpOp_step rfl (fun K hK => ?_);simp only [pN, Nat.reduceEqDiff, ↓reduceIte];go_simp;exact hK _ _ ⟨_, by kernel_rfl, hJ.pure 0 rfl rfl rfl⟩
   · intro L x w' hJ hG hL hp;refine wpOp_step rfl (fun K hK => ?_);simp only [pN, Nat.reduceEqDiff, ↓reduceIte];go_simp;exact hK _ _ ⟨_, by kernel_rfl, hJ.pure 1 rfl rfl rfl⟩
   · intro L x w' hJ hG hL hp;have c0 : w'.cell? ⟨S.g, 0, none⟩ = some (.slice (some ⟨S.o, 0, none⟩) S.R.length S.cap) := by rw [hJ.2]; exact HC.out _ _
     refine wpOp_step rfl (fun K hK => ?_);simp only [pN, Nat.reduceEqDiff, ↓reduceIte];go_simp;exact hK _ _ ⟨_, by kernel_rfl, hJ.pure 2 rfl rfl rfl⟩
   · intro L x w' hJ hG hL hp;refine wpOp_step rfl (fun K hK => ?_);simp only [pN, Nat.reduceEqDiff, ↓reduceIte];go_simp;exact hK _ _ ⟨_, by kernel_rfl, hJ.pure 3 rfl rfl rfl⟩
   · intro L x w' hJ hG hL hp;have c0 : w'.cell? ⟨S.g, 0, none⟩ = some (.slice (some ⟨S.o, 0, none⟩) S.R.length S.cap) := by rw [hJ.2]; exact HC.out _ _
     refine wpOp_step rfl (fun K hK => ?_);simp only [pN, Nat.reduceEqDiff, ↓reduceIte];go_simp;exact hK _ _ ⟨_, by kernel_rfl, hJ.pure 4 rfl rfl rfl⟩
   · intro L x w' hJ hG hL hp;refine wpOp_step rfl (fun K hK => ?_);simp only [pN, Nat.reduceEqDiff, ↓reduceIte];go_simp;exact hK _ _ ⟨_, by kernel_rfl, hJ.pure 5 rfl rfl rfl⟩
   · intro L x w' hJ hG hL hp;have e4 : x 9 = (.slice (some ⟨S.o, 0, none⟩) S.R.length S.cap) := hJ.1 4 (by decide) (by decide) (by decide) (hp 4 (by decide));have e5 : x 10 = (.int .i64 (j : Int)) := hJ.1 5 (by decide) (by decide) (by decide) (hp 5 (by decide));rw [aC (x := x) (d := 9) e4] at hJ ⊢;rw [aC (x := (bf x 9 (.slice (some ⟨S.o, 0, none⟩) S.R.length S.cap))) (d := 10) e5] at hJ ⊢;refine wpOp_step rfl (fun K hK => ?_);simp only [pN, Nat.reduceEqDiff, ↓reduceIte];go_simp;exact hK _ _ ⟨_, by kernel_rfl, hJ.pure 6 rfl rfl rfl⟩
   · intro L x w' hJ hG hL hp;have e6 : x 11 = (.pointer (some ⟨S.o, j, none⟩)) := hJ.1 6 (by decide) (by decide) (by decide) (hp 6 (by decide));rw [aC (x := x) (d := 11) e6] at hJ ⊢;have h13 : L 13 = false := by cases h : L 13 with | false => rfl | true => have := hG 13 (by decide) h 7 (by decide); rw [hL] at this; cases this
     have hw : w' = w.drew := by rw [hJ.2, h13]; rfl
     rw [hw] at hJ ⊢;have cj' : w.drew.cell? ⟨S.o, j, none⟩ = some (.slice (some ⟨(S.R[j]'hj).blk, 0, none⟩) (S.R[j]'hj).xs.length (S.R[j]'hj).cap) := cj;refine wpOp_step rfl (fun K hK => ?_);simp only [pN, Nat.reduceEqDiff, ↓reduceIte];go_simp;exact hK _ _ ⟨_, by kernel_rfl, hJ.pure 7 rfl rfl rfl⟩
   · intro L x w' hJ hG hL hp;have c0 : w'.cell? ⟨S.g, 0, none⟩ = some (.slice (some ⟨S.o, 0, none⟩) S.R.length S.cap) := by rw [hJ.2]; exact HC.out _ _
     refine wpOp_step rfl (fun K hK => ?_);simp only [pN, Nat.reduceEqDiff, ↓reduceIte];go_simp;exact hK _ _ ⟨_, by kernel_rfl, hJ.pure 8 rfl rfl rfl⟩
   · intro L x w' hJ hG hL hp;refine wpOp_step rfl (fun K hK => ?_);simp only [pN, Nat.reduceEqDiff, ↓reduceIte];go_simp;exact hK _ _ ⟨_, by kernel_rfl, hJ.pure 9 rfl rfl rfl⟩
   · intro L x w' hJ hG hL hp;have e8 : x 13 = (.slice (some ⟨S.o, 0, none⟩) S.R.length S.cap) := hJ.1 8 (by decide) (by decide) (by decide) (hp 8 (by decide));have e9 : x 14 = (.int .i64 (i : Int)) := hJ.1 9 (by decide) (by decide) (by decide) (hp 9 (by decide));rw [aC (x := x) (d := 13) e8] at hJ ⊢;rw [aC (x := (bf x 13 (.slice (some ⟨S.o, 0, none⟩) S.R.length S.cap))) (d := 14) e9] at hJ ⊢;refine wpOp_step rfl (fun K hK => ?_);simp only [pN, Nat.reduceEqDiff, ↓reduceIte];go_simp;exact hK _ _ ⟨_, by kernel_rfl, hJ.pure 10 rfl rfl rfl⟩
   · intro L x w' hJ hG hL hp;have e10 : x 15 = (.pointer (some ⟨S.o, i, none⟩)) := hJ.1 10 (by decide) (by decide) (by decide) (hp 10 (by decide));rw [aC (x := x) (d := 15) e10] at hJ ⊢;have h13 : L 13 = false := by cases h : L 13 with | false => rfl | true => have := hG 13 (by decide) h 11 (by decide); rw [hL] at this; cases this
     have hw : w' = w.drew := by rw [hJ.2, h13]; rfl
     rw [hw] at hJ ⊢;have ci' : w.drew.cell? ⟨S.o, i, none⟩ = some (.slice (some ⟨(S.R[i]'hi).blk, 0, none⟩) (S.R[i]'hi).xs.length (S.R[i]'hi).cap) := ci;refine wpOp_step rfl (fun K hK => ?_);simp only [pN, Nat.reduceEqDiff, ↓reduceIte];go_simp;exact hK _ _ ⟨_, by kernel_rfl, hJ.pure 11 rfl rfl rfl⟩
   · intro L x w' hJ hG hL hp;have e0 : x 5 = (.slice (some ⟨S.o, 0, none⟩) S.R.length S.cap) := hJ.1 0 (by decide) (by decide) (by decide) (hp 0 (by decide));have e1 : x 6 = (.int .i64 (i : Int)) := hJ.1 1 (by decide) (by decide) (by decide) (hp 1 (by decide));rw [aC (x := x) (d := 5) e0] at hJ ⊢;rw [aC (x := (bf x 5 (.slice (some ⟨S.o, 0, none⟩) S.R.length S.cap))) (d := 6) e1] at hJ ⊢;refine wpOp_step rfl (fun K hK => ?_);simp only [pN, Nat.reduceEqDiff, ↓reduceIte];go_simp;exact hK _ _ ⟨_, by kernel_rfl, hJ.pure 12 rfl rfl rfl⟩
   · intro L x w' hJ hG hL hp;have e12 : x 17 = (.pointer (some ⟨S.o, i, none⟩)) := hJ.1 12 (by decide) (by decide) (by decide) (hp 12 (by decide));have e7 : x 12 = (.slice (some ⟨(S.R[j]'hj).blk, 0, none⟩) (S.R[j]'hj).xs.length (S.R[j]'hj).cap) := hJ.1 7 (by decide) (by decide) (by decide) (hp 7 (by decide));rw [aC (x := x) (d := 17) e12] at hJ ⊢;rw [aC (x := (bf x 17 (.pointer (some ⟨S.o, i, none⟩)))) (d := 12) e7] at hJ ⊢;have hw : w' = w.drew := by rw [hJ.2, hL]; rfl
     rw [hw] at hJ ⊢;refine wpOp_step rfl (fun K hK => ?_);simp only [pN, Nat.reduceEqDiff, ↓reduceIte];go_simp;have h15 : L 15 = false := by cases h : L 15 with | false => rfl | true => have := hG 15 (by decide) h 13 (by decide); rw [hL] at this; cases this
     refine hK _ _ ⟨_, by kernel_rfl, fun m hm h1 h2 hLm => hJ.1 m hm h1 h2 (by unfold eL at hLm; rw [if_neg h1] at hLm; exact hLm), ?_⟩;have e1 : eL L 13 13 = true := rfl;have e2 : eL L 13 15 = false := h15;rw [e1, e2];rfl
   · intro L x w' hJ hG hL hp;have e2 : x 7 = (.slice (some ⟨S.o, 0, none⟩) S.R.length S.cap) := hJ.1 2 (by decide) (by decide) (by decide) (hp 2 (by decide));have e3 : x 8 = (.int .i64 (j : Int)) := hJ.1 3 (by decide) (by decide) (by decide) (hp 3 (by decide));rw [aC (x := x) (d := 7) e2] at hJ ⊢;rw [aC (x := (bf x 7 (.slice (some ⟨S.o, 0, none⟩) S.R.length S.cap))) (d := 8) e3] at hJ ⊢;refine wpOp_step rfl (fun K hK => ?_);simp only [pN, Nat.reduceEqDiff, ↓reduceIte];go_simp;exact hK _ _ ⟨_, by kernel_rfl, hJ.pure 14 rfl rfl rfl⟩
   · intro L x w' hJ hG hL hp;have e14 : x 18 = (.pointer (some ⟨S.o, j, none⟩)) := hJ.1 14 (by decide) (by decide) (by decide) (hp 14 (by decide));have e11 : x 16 = (.slice (some ⟨(S.R[i]'hi).blk, 0, none⟩) (S.R[i]'hi).xs.length (S.R[i]'hi).cap) := hJ.1 11 (by decide) (by decide) (by decide) (hp 11 (by decide));rw [aC (x := x) (d := 18) e14] at hJ ⊢;rw [aC (x := (bf x 18 (.pointer (some ⟨S.o, j, none⟩)))) (d := 16) e11] at hJ ⊢;have h13 : L 13 = true := hp 13 (by decide);have hw : w' = w.drew.setCell ⟨S.o, i, none⟩ (S.R[j]'hj).cF := by rw [hJ.2, h13, hL]; rfl
     rw [hw] at hJ ⊢;refine wpOp_step rfl (fun K hK => ?_);simp only [pN, Nat.reduceEqDiff, ↓reduceIte];go_simp;refine hK _ _ ⟨_, by kernel_rfl, fun m hm h1 h2 hLm => hJ.1 m hm h1 h2 (by unfold eL at hLm; rw [if_neg h2] at hLm; exact hLm), ?_⟩;have e1 : eL L 15 13 = true := h13;have e2 : eL L 15 15 = true := rfl;rw [e1, e2];rfl
 · intro L x w' hL hJ;have hw : w' = (w.drew.setCell ⟨S.o, i, none⟩ (S.R[j]'hj).cF).setCell ⟨S.o, j, none⟩ (S.R[i]'hi).cF := by rw [hJ.2, hL 13 (by decide), hL 15 (by decide)]; rfl
   rw [hw];simp only [pN, Nat.reduceEqDiff, ↓reduceIte];go_wp2;refine bodyPost_end (results_none (by kernel_rfl) _ _ _) rfl ?_;have hC : aN (· = S.o) w ((w.setCell ⟨S.o, i, none⟩ (S.R[j]).cF).setCell ⟨S.o, j, none⟩ (S.R[i]).cF) := ((aN.refl (· = S.o) w).set (p := ⟨S.o, i, none⟩) rfl _).set (p := ⟨S.o, j, none⟩) rfl _;have hR := (HL.out.dJ.out.set (i := i) (by simpa using hi) (S.R[j]).cF).set (i := j) (by simpa using hj) (S.R[i]).cF;have hM := uU HL.out.dJ hi hj hC hR;have hCo : aN S.rws w ((w.setCell ⟨S.o, i, none⟩ (S.R[j]).cF).setCell ⟨S.o, j, none⟩ (S.R[i]).cF) := hC.mono (fun k _ e => .inl e);have hL := HL.out.rows hCo hM (bM hi hj);exact ⟨rfl, ed.drew hL, hCo.drew⟩
def jS (xs : List Int) : List Int := xs.map (fun x => -x)
def kx (xs cu : List Int) (m : Nat) : Prop := cu.length = xs.length /\ (∀ j (h : j < cu.length) (h1 : j < xs.length), j < m -> cu[j] = -xs[j]) /\ (∀ j (h : j < cu.length) (h1 : j < xs.length), m <= j -> cu[j] = xs[j])
theorem kx.start (xs : List Int) : kx xs xs 0 := ⟨rfl, fun _ _ _ h => by omega, fun _ _ _ _ => rfl⟩
theorem kx.next {xs cu : List Int} {m : Nat} (h : kx xs cu m) (hm : m < xs.length) : kx xs (cu.set m (-xs[m])) (m + 1) := by
 obtain ⟨h1, h2, h3⟩ := h;refine ⟨by simpa using h1, fun j hj hx hjm => ?_, fun j hj hx hjm => ?_⟩
 · rw [List.getElem_set];split
   · rename_i e; subst e; rfl
   · exact h2 j (by simpa using hj) hx (by omega)
 · rw [List.getElem_set, if_neg (by omega)];exact h3 j (by simpa using hj) hx (by omega)
theorem kx.all {xs cu : List Int} (h : kx xs cu xs.length) : cu = jS xs := by
 obtain ⟨h1, h2, h3⟩ := h;refine List.ext_getElem (by simp [jS, h1]) fun j hj hj' => ?_;rw [h2 j hj (by omega) (by omega)];simp [jS]
def ie (R : List Hd) (i : Nat) (hi : i < R.length) : List Hd := dh R i (jS R[i].xs)
theorem ta (S : ct) (i : Nat) (w : World) (h : ed w S) (hi : i < S.R.length)
 (hxL : ∀ x ∈ S.R[i].xs, ag x.natAbs <= 17592186044415) (hlen : S.R[i].xs.length <= 4611686018427387903) :
 Calls Tryz.prog 112 #[.int .i64 (i : Int), .pointer (some ⟨S.g, 0, none⟩)] w fun e w' => e = .returned (.tuple #[]) /\ ed w' (S.az (ie S.R i hi)) /\ aN S.rws w w' := by
 have HXL := hi_ hxL; clear hxL;have cg : w.cell? ⟨S.g, 0, none⟩ = some (.slice (some ⟨S.o, 0, none⟩) S.R.length S.cap) := h.box.cell 0;have ci : w.cell? ⟨S.o, i, none⟩ = some (.slice (some ⟨S.R[i].blk, 0, none⟩) S.R[i].xs.length S.R[i].cap) := h.dJ.cF hi;have hi' : (i : Int) < (S.R.length : Int) := by omega
 have hX := hi_ (h.dJ.row _ (List.getElem_mem hi));have hG := hi_ h.box;have hO := hi_ h.dJ.out;have hob : S.o ≠ S.R[i].blk := fun e => h.dJ.ne (List.getElem_mem hi) e.symm;have hgb : S.g ≠ S.R[i].blk := by
  obtain ⟨ps, tl, nt, hp, _⟩ := h.dJ.row _ (List.getElem_mem hi);exact h.box.ne hp (by decide)
 have HL := hi_ h; clear h;go_enter Tryz.func112, Tryz.ntmps112;go_wp2;go_loopw [10] (fun c wr => ∃ (m : Nat) (cu : List Int), m <= S.R[i].xs.length /\ c = .int .i64 (m : Int) /\ Hid (kx S.R[i].xs cu m) /\ Hid (aK wr S.R[i].blk cu) /\ Hid (aa wr S.g 70 [S.cF]) /\ Hid (ef wr S.o 22 (S.R.map Hd.cF)) /\ Hid (aN (· = S.R[i].blk) w wr)) (fun c _ => S.R[i].xs.length - (intOf c).toNat)
 case atStart => exact ⟨0, _, Nat.zero_le _, rfl, kx.start _, hX, hG, hO, aN.refl ..⟩
 case round =>
  obtain ⟨m, cu, hm, rfl, HA, hX, hG, hO, hC⟩ := hrel;by_cases hml : m < S.R[i].xs.length
  · have hmx : m < cu.length := by rw [HA.out.1]; exact hml
    have hm2 : (m : Int) < (S.R[i].xs.length : Int) := by omega
    obtain ⟨px, cx0, cx1, hnx⟩ := hX.out.get hmx;have Hnx := hi_ hnx; clear hnx;clear cg ci;go_wp2;have hb1 : Below wr.heap.size wr (wr.alloc (.cells #[.bool px.1, .slice px.2.1 px.2.2.1 px.2.2.2] 37)) := (Below.refl _ _).alloc (Nat.le_refl _) _;have hr1 := aa.new wr #[.bool px.1, .slice px.2.1 px.2.2.1 px.2.2.2] 37;generalize wr.alloc (.cells #[.bool px.1, .slice px.2.1 px.2.2.1 px.2.2.2] 37) = w2 at *;have X2 := hi_ (hX.out.below hb1);have G2 := hi_ (hG.out.below hb1 hG.out.lt);have O2 := hi_ (hO.out.below hb1 hO.out.lt);have C2 := hi_ (hC.out.below hb1);have N2 := hi_ (Hnx.out.below hb1);have R2 := hi_ hr1;have hs1 : wr.heap.size < w2.heap.size := hr1.lt;have hxe : cu[m] = S.R[i].xs[m] := HA.out.2.2 m hmx hml (Nat.le_refl _);have hxw : ag (S.R[i].xs[m]).natAbs <= 17592186044415 := HXL.out _ (List.getElem_mem hml);have N3 := N2.out;rw [hxe] at N3;have N3 := hi_ (N3.int hxw);clear hX hG hO hC Hnx N2 hb1 hr1 cx0 cx1 hxe;have cg : w2.cell? ⟨S.g, 0, none⟩ = some (.slice (some ⟨S.o, 0, none⟩) S.R.length S.cap) := G2.out.cell 0;have ci : w2.cell? ⟨S.o, i, none⟩ = some (.slice (some ⟨S.R[i].blk, 0, none⟩) S.R[i].xs.length S.R[i].cap) := by rw [O2.out.cell (by simpa using hi)]; simp [hi, Hd.cF]
    have cx0 : w2.cell? ⟨wr.heap.size, 0, none⟩ = some (.bool px.1) := R2.out.cell 0;have cx1 : w2.cell? ⟨wr.heap.size, 1, none⟩ = some (.slice px.2.1 px.2.2.1 px.2.2.2) := R2.out.cell 1;have hg2 := G2.out.lt;have ho2 := O2.out.lt;refine dM ⟨8, fun q_ => [15, 16, 17, 18, 19, 20, 21, 22].getD q_ 0,
     fun q_ => [.val (.slice (some ⟨S.o, 0, none⟩) S.R.length S.cap), .val (.int .i64 (i : Int)), .val (.pointer (some ⟨S.o, i, none⟩)), .val (.slice (some ⟨S.R[i].blk, 0, none⟩) S.R[i].xs.length S.R[i].cap), .val (.int .i64 (m : Int)), .val (.agg #[.bool px.1, .slice px.2.1 px.2.2.1 px.2.2.2]), .int 0 (-S.R[i].xs[m]), .val (.pointer (some ⟨S.R[i].blk, m * 2, none⟩))].getD q_ .any,
     [],
     [(.agg #[.bool px.1, .slice px.2.1 px.2.2.1 px.2.2.2], .at_ 17592186044415 (S.R[i].xs[m]))],
     [],
     [], [(⟨S.g, 0, none⟩, .slice (some ⟨S.o, 0, none⟩) S.R.length S.cap), (⟨S.o, i, none⟩, .slice (some ⟨S.R[i].blk, 0, none⟩) S.R[i].xs.length S.R[i].cap), (⟨wr.heap.size, 0, none⟩, .bool px.1), (⟨wr.heap.size, 1, none⟩, .slice px.2.1 px.2.2.1 px.2.2.2)], []⟩ [15, 16, 17, 18, 19, 20, 21, 22] (w2.heap.size) (by kernel_rfl) (by kernel_rfl) (by kernel_rfl) (by kernel_rfl) (by kernel_rfl) ?_ ?_ ?_ ?_ ?_ ?_
    · intro p hp;rcases mc hp with rfl | hp
      · exact N3.out
      cases hp
    · intro p hp;cases hp
    · intro p hp;rcases mc hp with rfl | hp
      · refine ⟨cg, by show S.g < w2.heap.size; omega, ?_⟩;intro t ht;cases ht
      rcases mc hp with rfl | hp
      · refine ⟨ci, by show S.o < w2.heap.size; omega, ?_⟩;intro t ht;cases ht
      rcases mc hp with rfl | hp
      · refine ⟨cx0, by show wr.heap.size < w2.heap.size; omega, ?_⟩;intro t ht;cases ht
      rcases mc hp with rfl | hp
      · refine ⟨cx1, by show wr.heap.size < w2.heap.size; omega, ?_⟩;intro t ht;cases ht
      cases hp
    · intro t ht;cases ht
    · refine ak ?_ (ak ?_ (ak ?_ (ak ?_ (ak ?_ (ak ?_ (ak ?_ (ak ?_ kj)))))));any_goals (first | (intro L fx w' hJ hL hp hcl; have _ := sr hp (by decide +kernel); refine aP rfl fun K hK => ?_; go_simp; exact hJ.q hK (by kernel_rfl) rfl) | fail)
      · intro L fx w' hJ hL hp hcl;refine aP rfl fun K hK => ?_;have cl0 := (hJ.cells _ fL).1;try dsimp only at cl0
        go_simp;exact hJ.q hK (by kernel_rfl) rfl
      · intro L fx w' hJ hL hp hcl;have e0 := hJ.pt 0 15 (.slice (some ⟨S.o, 0, none⟩) S.R.length S.cap) rfl rfl rfl (hp 0 (by decide));rw [e0] at hJ ⊢; clear e0;have e1 := hJ.pt 1 16 (.int .i64 (i : Int)) rfl rfl rfl (hp 1 (by decide));rw [e1] at hJ ⊢; clear e1;refine aP rfl fun K hK => ?_;go_simp;exact hJ.q hK (by kernel_rfl) rfl
      · intro L fx w' hJ hL hp hcl;have e2 := hJ.pt 2 17 (.pointer (some ⟨S.o, i, none⟩)) rfl rfl rfl (hp 2 (by decide));rw [e2] at hJ ⊢; clear e2;refine aP rfl fun K hK => ?_;have cl0 := (hJ.cells _ iQ).1;try dsimp only at cl0
        go_simp;exact hJ.q hK (by kernel_rfl) rfl
      · intro L fx w' hJ hL hp hcl;refine aP rfl fun K hK => ?_;have cl0 := (hJ.cells _ qc).1;have cl1 := (hJ.cells _ vf).1;try dsimp only at cl0 cl1
        go_simp;exact hJ.q hK (by kernel_rfl) rfl
      · intro L fx w' hJ hL hp hcl;have e5 := hJ.pt 5 20 (.agg #[.bool px.1, .slice px.2.1 px.2.2.1 px.2.2.2]) rfl rfl rfl (hp 5 (by decide));rw [e5] at hJ ⊢; clear e5;refine aP rfl fun K hK => ?_;go_simp;go_at_call 61;refine (iT _ (S.R[i].xs[m]) _ (show ai w' _ _ _ from hJ.base _ fL)).mono ?_;rintro e w4 ⟨⟨v5, rfl, h5⟩, hb4⟩;try dsimp only
        exact hK _ _ ⟨_, by kernel_rfl, hJ.gC 6 rfl (by kernel_rfl) hb4 (aj.mono h5 (Nat.zero_le _)) (by omega)⟩
      · intro L fx w' hJ hL hp hcl;have e3 := hJ.pt 3 18 (.slice (some ⟨S.R[i].blk, 0, none⟩) S.R[i].xs.length S.R[i].cap) rfl rfl rfl (hp 3 (by decide));rw [e3] at hJ ⊢; clear e3;have e4 := hJ.pt 4 19 (.int .i64 (m : Int)) rfl rfl rfl (hp 4 (by decide));rw [e4] at hJ ⊢; clear e4;refine aP rfl fun K hK => ?_;go_simp;exact hJ.q hK (by kernel_rfl) rfl
    · intro L x' w3 hL hJ;have hfr : Below w2.drew.heap.size w2.drew w3 := hJ.fr;have e11 : aj w3 0 (x' 21) (-S.R[i].xs[m]) := hJ.slot 6 (by show 6 < 8; decide) (hL 6 (by show 6 < 8; decide));have e12 : x' 22 = .pointer (some ⟨S.R[i].blk, m * 2, none⟩) := hJ.slot 7 (by show 7 < 8; decide) (hL 7 (by show 7 < 8; decide));obtain ⟨pz, hpz⟩ := aH.parts e11.num;rw [hpz] at e11;unfold av at hpz;rw [aC (x := x') (d := 21) hpz];rw [aC (x := bf x' 21 (.agg #[.bool pz.1, .slice pz.2.1 pz.2.2.1 pz.2.2.2])) (d := 22) (v := .pointer (some ⟨S.R[i].blk, m * 2, none⟩)) e12];clear hJ hL cg ci cx0 cx1;have X3 := hi_ (aK.below (w := w2.drew) X2.out hfr);have G3 := hi_ (aa.below (w := w2.drew) G2.out hfr G2.out.lt);have O3 := hi_ (ef.below (w := w2.drew) O2.out hfr O2.out.lt);have C3 := hi_ (C2.out.drew.below hfr);obtain ⟨pq, q0, q1, _⟩ := X3.out.get hmx;have q2 := X3.out.free (m * 2);have q3 := X3.out.free (m * 2 + 1);refine aP rfl fun K hK => ?_;go_simp;refine hK _ _ ⟨⟨bf (bf x' 21 (.agg #[.bool pz.1, .slice pz.2.1 pz.2.2.1 pz.2.2.2])) 22 (.pointer (some ⟨S.R[i].blk, m * 2, none⟩)), by kernel_rfl⟩, ?_⟩;clear hK q0 q1 q2 q3;go_wp2;go_roundw
      case rel =>
       exact ⟨m + 1, _, by omega, by go_num, HA.out.next hml, hi_ (X3.out.set m e11.num), hi_ ((G3.out.other (by show S.g ≠ S.R[i].blk; exact hgb) _).other (by show S.g ≠ S.R[i].blk; exact hgb) _), hi_ ((O3.out.other (by show S.o ≠ S.R[i].blk; exact hob) _).other (by show S.o ≠ S.R[i].blk; exact hob) _), hi_ ((C3.out.set (p := ⟨S.R[i].blk, m * 2, none⟩) rfl _).set (p := ⟨S.R[i].blk, m * 2 + 1, none⟩) rfl _)⟩
      case measure => simp [intOf]; omega
  · obtain rfl : m = S.R[i].xs.length := by omega
    have he := HA.out.all;have HE := hi_ he;clear he;go_wp2;refine bodyPost_end (results_none (by kernel_rfl) _ _ _) rfl ?_;have hR4 := hX.out;rw [HE.out] at hR4;have hCo : aN S.rws w wr := hC.out.mono (fun k _ e => .inr ⟨S.R[i], List.getElem_mem hi, e.symm⟩);have hM4 := HL.out.dJ.dh hi (by simp [jS]) hC.out hR4;exact ⟨rfl, HL.out.rows hCo hM4 (by unfold ie; rw [aB]), hCo⟩
attribute [local go_sem] il
attribute [local go_sem] il
theorem aD.below {w w' : World} {S : ct} (h : aD w S) (hb : Below w.heap.size w w') : aD w' S :=
 ⟨h.lad.below hb h.lad.lt, h.sides.below hb h.sides.lt, h.box.below hb h.box.lt, h.dJ.below hb, fun t ht => by obtain ⟨V, hV⟩ := h.ext t ht; exact ⟨V, hV.sd.below hb, hV.box3.below hb hV.box3.lt, hV.rel, hV.own, hV.apart⟩⟩
theorem aN.oZ {S : ct} {w w' : World} (h : aN S.rws w w') : aN S.own w w' := h.mono (fun _ _ e => .inl e)
theorem ed.keepP {w w' : World} {S : ct} (h : ed w S) (hc : aN S.rws w w') {b : Nat} {t : TypeId} {cs : List Value} (hb : ef w b t cs) (h1 : t ≠ 37) (h2 : t ≠ 22) : ef w' b t cs := by
 obtain ⟨tl, n, hr⟩ := hb;exact ⟨tl, n, h.gR hc hr h1 h2⟩
theorem ct.yw {S : ct} {R : List Hd} (h : R.length = S.R.length) : (S.az R).cF = S.cF := by unfold ct.cF ct.az; rw [h]
theorem aD.pH {w : World} {S : ct} (h : aD w S) (k : Nat) (hk : S.own k) : k < w.heap.size := by
 have key : ∀ {S : ct}, ed w S -> S.rws k -> k < w.heap.size := fun hs e => by
  rcases e with rfl | ⟨r, hr, rfl⟩
  · exact hs.dJ.out.lt
  · exact (hs.dJ.row r hr).lt
 rcases hk with e | ⟨t, ht, e⟩
 · exact key h.sd e
 · obtain ⟨V, hV⟩ := h.ext t ht;exact key hV.sd ((hV.own k).1 e)
structure u9.Ok (t : u9) : Prop where
 len : ∀ R V, t.rel R V -> V.length = R.length
 sh : ∀ R V, t.rel R V -> ∀ r ∈ V, ∀ q ∈ V, r.xs.length = q.xs.length
 wide : ∀ R V, t.rel R V -> ∀ r ∈ V, r.xs.length <= 4611686018427387903
 bd : ∀ R V, t.rel R V -> t.fit R -> ∀ r ∈ V, ∀ x ∈ r.xs, ag x.natAbs <= 4398046511103
 swap : ∀ R V i j (hi : i < R.length) (hj : j < R.length) (hi' : i < V.length) (hj' : j < V.length), i ≠ j -> t.rel R V -> t.rel (ff R i j hi hj) (ff V i j hi' hj')
 turn : ∀ R V i (hi : i < R.length) (hi' : i < V.length), t.rel R V -> t.rel (ie R i hi) (ie V i hi')
 add : ∀ R V i j k (hi : i < R.length) (hj : j < R.length) (hi' : i < V.length) (hj' : j < V.length), i ≠ j -> t.rel R V -> t.rel (iP R i j k hi hj) (iP V j i (-k) hj' hi')
 mix : ∀ R V i j a b c d (hi : i < R.length) (hj : j < R.length) (hi' : i < V.length) (hj' : j < V.length), i ≠ j -> a * d - b * c = 1 -> t.rel R V -> t.rel (kd R i j a b c d hi hj) (kd V i j d (-c) (-b) a hi' hj')
 no : False
def ct.jz (S : ct) : Prop := ∀ t, S.two = some t -> t.Ok
def ct.xM (S : ct) : Prop := ∀ t, S.two = some t -> t.fit S.R
theorem aD.fns {w : World} {S : ct} (h : aD w S) : (∀ k, k < 4 -> w.cell? ⟨S.sb, k, none⟩ = (gm S.g)[k]?) /\ ∀ t, S.two = some t -> ∀ k, k < 4 -> w.cell? ⟨S.sb, 4 + k, none⟩ = (agF t.g t.g3)[k]? := by
 refine ⟨fun k hk => ?_, fun t ht k hk => ?_⟩
 · rw [h.sides.cell (by simp [gm]; omega), List.getElem?_append_left (by simp [gm]; omega)]
 · have e : S.more = agF t.g t.g3 := by unfold ct.more; rw [ht]
   rw [h.sides.cell (by rw [e]; simp [gm, agF]; omega), List.getElem?_append_right (by simp [gm]), e];simp [gm]
theorem aD.one {w : World} {S : ct} (h : aD w S) (hS : S.two = none) : w.cell? ⟨S.lb, 1, none⟩ = some (.slice (some ⟨S.sb, 0, none⟩) 1 1) := by
 have := h.lad.cell 1;simpa [ct.ns, ct.cs, hS] using this
theorem aD.cD {w w' : World} {S : ct} {R : List Hd} (h : aD w S) (hS : S.two = none) (hs : ed w' (S.az R)) (hc : aN S.rws w w') (hl : R.length = S.R.length) : aD w' (S.az R) :=
 ⟨by rw [ct.yw hl]; exact h.sd.gR hc h.lad (by decide) (by decide), h.sd.keepP hc h.sides (by decide) (by decide), hs.box, hs.dJ, fun t ht => by rw [show (S.az R).two = S.two from rfl, hS] at ht; cases ht⟩
theorem tV {S : ct} {R : List Hd} (h : ∀ b, b ∈ R.map Hd.blk ↔ b ∈ S.R.map Hd.blk) (k : Nat) : (S.az R).rws k ↔ S.rws k := by
 have hm : ∀ Q : List Hd, (∃ h ∈ Q, h.blk = k) ↔ k ∈ Q.map Hd.blk := fun Q => by simp
 show (k = S.o ∨ ∃ h ∈ R, h.blk = k) ↔ (k = S.o ∨ ∃ h ∈ S.R, h.blk = k);rw [hm, hm, h]
theorem uT {R : List Hd} {i j : Nat} (hi : i < R.length) (hj : j < R.length) (b : Nat) : b ∈ (ff R i j hi hj).map Hd.blk ↔ b ∈ R.map Hd.blk := by
 constructor
 · intro h;obtain ⟨q, hq, rfl⟩ := List.mem_map.1 h;obtain ⟨m, hm, rfl⟩ := List.getElem_of_mem hq;rw [bM] at hm;rw [fa hi hj hm];exact List.mem_map.2 ⟨_, List.getElem_mem _, rfl⟩
 · intro h;obtain ⟨q, hq, rfl⟩ := List.mem_map.1 h;obtain ⟨m, hm, rfl⟩ := List.getElem_of_mem hq;have hs : swp i j m < R.length := kR hi hj hm;have e : swp i j (swp i j m) = m := by unfold swp; (repeat' split) <;> omega
   refine List.mem_map.2 ⟨(ff R i j hi hj)[swp i j m]'(by rw [bM]; exact hs), List.getElem_mem _, ?_⟩;rw [fa hi hj hs];congr 2
theorem rN {R : List Hd} {i : Nat} {xs : List Int} (b : Nat) : b ∈ (dh R i xs).map Hd.blk ↔ b ∈ R.map Hd.blk := by rw [eY]
theorem qq {xs ys : List Int} (h : xs.length = ys.length) : fs 0 xs ys = xs := by
 refine List.ext_getElem (by simp [fs, h]) fun j h1 h2 => ?_;simp [fs]
theorem rP {R : List Hd} {i : Nat} (hi : i < R.length) : dh R i R[i].xs = R := by
 refine List.ext_getElem (by simp [aB]) fun j h1 h2 => ?_;rw [dr h2];split
 · rename_i e; subst e; rfl
 · rfl
theorem xf (S : ct) (i j : Nat) (w : World) (h : aD w S) (hi : i < S.R.length) (hj : j < S.R.length) (hij : i ≠ j) (hS : S.two = none) :
 Calls Tryz.prog 100 #[.pointer (some ⟨S.lb, 0, none⟩), .int .i64 (i : Int), .int .i64 (j : Int)] w fun e w' => e = .returned (.tuple #[]) /\ aD w' (S.az (ff S.R i j hi hj)) /\ aN S.own w w' := by
 have c1 : w.cell? ⟨S.lb, 1, none⟩ = some (.slice (some ⟨S.sb, 0, none⟩) 1 1) := h.one hS;have HLA := hi_ h; clear h;have HCA := hi_ (aN.refl S.own w);go_enter Tryz.func100, Tryz.ntmps100;go_wp2;go_loopw [13] (fun ct_ wr => (ct_ = .int .i64 0 /\ Hid (aD wr S) /\ Hid (aN S.own w wr)) ∨ (ct_ = .int .i64 1 /\ Hid (aD wr (S.az (ff S.R i j hi hj))) /\ Hid (aN S.own w wr))) (fun c _ => 1 - (intOf c).toNat)
 case atStart => exact .inl ⟨rfl, HLA, HCA⟩
 case round =>
  clear c1;rcases hrel with ⟨rfl, hL, hC⟩ | ⟨rfl, hL, hC⟩
  · skip;have hfn := hL.out.fns.1;have s0 : wr.cell? ⟨S.sb, 0, none⟩ = some (.func (.func 111) #[] #[.pointer (some ⟨S.g, 0, none⟩)]) := hfn 0 (by decide);have s1 : wr.cell? ⟨S.sb, 1, none⟩ = some (.func (.func 112) #[] #[.pointer (some ⟨S.g, 0, none⟩)]) := hfn 1 (by decide);have s2 : wr.cell? ⟨S.sb, 2, none⟩ = some (.func (.func 113) #[] #[.pointer (some ⟨S.g, 0, none⟩)]) := hfn 2 (by decide);have s3 : wr.cell? ⟨S.sb, 3, none⟩ = some (.func (.func 115) #[] #[.pointer (some ⟨S.g, 0, none⟩)]) := hfn 3 (by decide);clear hfn;have hb1 : Below wr.heap.size wr (wr.alloc (.cells #[.func (.func 111) #[] #[.pointer (some ⟨S.g, 0, none⟩)], .func (.func 112) #[] #[.pointer (some ⟨S.g, 0, none⟩)], .func (.func 113) #[] #[.pointer (some ⟨S.g, 0, none⟩)], .func (.func 115) #[] #[.pointer (some ⟨S.g, 0, none⟩)]] 125)) := (Below.refl _ _).alloc (Nat.le_refl _) _

    have hL1 := hi_ (hL.out.below hb1);have hC1 := hi_ (hC.out.below hb1);have HB1 := hi_ hb1;go_wp2_with fail
    refine (sD S i j _ hL1.out.sd hi hj hij).mono ?_;rintro e w4 ⟨rfl, hL4, hC4⟩;have HL4 := hi_ (hL1.out.cD hS hL4 hC4 (bM hi hj));have HC4 := hi_ (hC1.out.trans hC4.oZ);clear hL4 hC4 s0 s1 s2 s3;go_wp2;go_roundw
    case rel => exact .inr ⟨by go_num, HL4, HC4⟩
    case measure => simp [intOf]
  · go_wp2;refine bodyPost_end (results_none (by kernel_rfl) _ _ _) rfl ?_;exact ⟨rfl, hL.out, hC.out⟩
theorem kH (S : ct) (i j : Nat) (w : World) (h : aD w S) (hi : i < S.R.length) (hj : j < S.R.length) (hij : i ≠ j) (hG : S.jz) :
 Calls Tryz.prog 100 #[.pointer (some ⟨S.lb, 0, none⟩), .int .i64 (i : Int), .int .i64 (j : Int)] w fun e w' => e = .returned (.tuple #[]) /\ aD w' (S.az (ff S.R i j hi hj)) /\ aN S.own w w' := by
 rcases hS : S.two with _ | t
 · exact xf S i j w h hi hj hij hS
 · exact (hG t hS).no.elim
theorem wg (S : ct) (i : Nat) (w : World) (h : aD w S) (hi : i < S.R.length) (hxL : ∀ x ∈ S.R[i].xs, ag x.natAbs <= 17592186044415) (hlen : S.R[i].xs.length <= 4611686018427387903) (hS : S.two = none) :
 Calls Tryz.prog 119 #[.pointer (some ⟨S.lb, 0, none⟩), .int .i64 (i : Int)] w fun e w' => e = .returned (.tuple #[]) /\ aD w' (S.az (ie S.R i hi)) /\ aN S.own w w' := by
 have c1 : w.cell? ⟨S.lb, 1, none⟩ = some (.slice (some ⟨S.sb, 0, none⟩) 1 1) := h.one hS;have HXL := hi_ hxL; clear hxL;have HLA := hi_ h; clear h;have HCA := hi_ (aN.refl S.own w);go_enter Tryz.func119, Tryz.ntmps119;go_wp2;go_loopw [11] (fun ct_ wr => (ct_ = .int .i64 0 /\ Hid (aD wr S) /\ Hid (aN S.own w wr)) ∨ (ct_ = .int .i64 1 /\ Hid (aD wr (S.az (ie S.R i hi))) /\ Hid (aN S.own w wr))) (fun c _ => 1 - (intOf c).toNat)
 case atStart => exact .inl ⟨rfl, HLA, HCA⟩
 case round =>
  clear c1;rcases hrel with ⟨rfl, hL, hC⟩ | ⟨rfl, hL, hC⟩
  · skip;have hfn := hL.out.fns.1;have s0 : wr.cell? ⟨S.sb, 0, none⟩ = some (.func (.func 111) #[] #[.pointer (some ⟨S.g, 0, none⟩)]) := hfn 0 (by decide);have s1 : wr.cell? ⟨S.sb, 1, none⟩ = some (.func (.func 112) #[] #[.pointer (some ⟨S.g, 0, none⟩)]) := hfn 1 (by decide);have s2 : wr.cell? ⟨S.sb, 2, none⟩ = some (.func (.func 113) #[] #[.pointer (some ⟨S.g, 0, none⟩)]) := hfn 2 (by decide);have s3 : wr.cell? ⟨S.sb, 3, none⟩ = some (.func (.func 115) #[] #[.pointer (some ⟨S.g, 0, none⟩)]) := hfn 3 (by decide);clear hfn;have hb1 : Below wr.heap.size wr (wr.alloc (.cells #[.func (.func 111) #[] #[.pointer (some ⟨S.g, 0, none⟩)], .func (.func 112) #[] #[.pointer (some ⟨S.g, 0, none⟩)], .func (.func 113) #[] #[.pointer (some ⟨S.g, 0, none⟩)], .func (.func 115) #[] #[.pointer (some ⟨S.g, 0, none⟩)]] 125)) := (Below.refl _ _).alloc (Nat.le_refl _) _

    have hL1 := hi_ (hL.out.below hb1);have hC1 := hi_ (hC.out.below hb1);have HB1 := hi_ hb1;go_wp2_with fail
    refine (ta S i _ hL1.out.sd hi HXL.out hlen).mono ?_;rintro e w4 ⟨rfl, hL4, hC4⟩;have HL4 := hi_ (hL1.out.cD hS hL4 hC4 (by unfold ie; rw [aB]));have HC4 := hi_ (hC1.out.trans hC4.oZ);clear hL4 hC4 s0 s1 s2 s3;go_wp2;go_roundw
    case rel => exact .inr ⟨by go_num, HL4, HC4⟩
    case measure => simp [intOf]
  · go_wp2;refine bodyPost_end (results_none (by kernel_rfl) _ _ _) rfl ?_;exact ⟨rfl, hL.out, hC.out⟩
theorem tA (S : ct) (i : Nat) (w : World) (h : aD w S) (hi : i < S.R.length) (hxL : ∀ x ∈ S.R[i].xs, ag x.natAbs <= 17592186044415) (hlen : S.R[i].xs.length <= 4611686018427387903) (hG : S.jz) (hF : S.xM) :
 Calls Tryz.prog 119 #[.pointer (some ⟨S.lb, 0, none⟩), .int .i64 (i : Int)] w fun e w' => e = .returned (.tuple #[]) /\ aD w' (S.az (ie S.R i hi)) /\ aN S.own w w' := by
 rcases hS : S.two with _ | t
 · exact wg S i w h hi hxL hlen hS
 · exact (hG t hS).no.elim
theorem xR (S : ct) (i j : Nat) (kv : Value) (k : Int) (LA LB : Nat) (w : World) (h : aD w S) (hi : i < S.R.length) (hj : j < S.R.length) (hij : i ≠ j) (hK : ai w LA kv k) (hl : S.R[i].xs.length = S.R[j].xs.length) (hxL : ∀ x ∈ S.R[i].xs, ag x.natAbs <= 17592186044415) (hyL : ∀ y ∈ S.R[j].xs, ag y.natAbs <= LB) (hLab : LA + LB <= 17592186044415) (hlen : S.R[i].xs.length <= 4611686018427387903) (hS : S.two = none) :
 Calls Tryz.prog 130 #[.pointer (some ⟨S.lb, 0, none⟩), .int .i64 (i : Int), .int .i64 (j : Int), kv] w fun e w' => e = .returned (.tuple #[]) /\ aD w' (S.az (iP S.R i j k hi hj)) /\ aN S.own w w' := by
 obtain ⟨kp, rfl⟩ := hK.parts;have HXL := hi_ hxL; clear hxL;have HYL := hi_ hyL; clear hyL;have Hl := hi_ hl; clear hl;have HK := hi_ hK; clear hK;have HL := hi_ h; clear h;go_enter Tryz.func130, Tryz.ntmps130;unfold av at *;go_wp2_with fail
 have hb0 : Below w.heap.size w (w.alloc (.cells #[.bool kp.1, .slice kp.2.1 kp.2.2.1 kp.2.2.2] 37)) := (Below.refl _ _).alloc (Nat.le_refl _) _;have hr0 := aa.new w #[.bool kp.1, .slice kp.2.1 kp.2.2.1 kp.2.2.2] 37;generalize w.alloc (.cells #[.bool kp.1, .slice kp.2.1 kp.2.2.1 kp.2.2.2] 37) = wB at *;have hKB := HK.out.below hb0;refine (bN _ k _ (hKB.mono (by omega))).mono ?_;rintro e wA ⟨rfl, hbA⟩;have HLA := hi_ ((HL.out.below hb0).below hbA);have HCA := hi_ ((aN.aU (S := S.own) hb0).below hbA);have HKA := hi_ (hKB.below hbA);have HRA := hi_ (hr0.below hbA hr0.lt);have hsA : w.heap.size < wA.heap.size := HRA.out.lt;have hso : ¬ S.own w.heap.size := by
  exact fun e => absurd (HL.out.pH _ e) (Nat.lt_irrefl _)
 have Hso := hi_ hso; clear hso;clear hb0 hr0 hKB hbA;by_cases hk0 : k = 0
 · have hz : aO k = 0 := cS.2 hk0;rw [hz];have HK0 := hi_ hk0; clear hk0 hz;go_wp2;refine bodyPost_ret (results_none (by kernel_rfl) _ _ _) rfl ?_;have e : iP S.R i j k hi hj = S.R := by unfold iP; rw [HK0.out, qq Hl.out, rP hi]
   rw [e];exact ⟨rfl, HLA.out, HCA.out⟩
 have hn0 : ¬ aO k = 0 := fun h => hk0 (cS.1 h);obtain ⟨s, hs⟩ : ∃ s, aO k = s := ⟨_, rfl⟩;rw [hs] at hn0 ⊢;have hb0 : (s == 0) = false := by simpa using hn0
 clear hs hk0;have c1 : wA.cell? ⟨S.lb, 1, none⟩ = some (.slice (some ⟨S.sb, 0, none⟩) 1 1) := HLA.out.one hS;go_wp2;clear hb0 hn0;go_loopw [18] (fun ct_ wr => (ct_ = .int .i64 0 /\ Hid (aD wr S) /\ Hid (aN S.own w wr) /\ Hid (ai wr LA (av kp) k) /\ Hid (aa wr w.heap.size 37 [.bool kp.1, .slice kp.2.1 kp.2.2.1 kp.2.2.2])) ∨ (ct_ = .int .i64 1 /\ Hid (aD wr (S.az (iP S.R i j k hi hj))) /\ Hid (aN S.own w wr))) (fun c _ => 1 - (intOf c).toNat)
 case atStart => exact .inl ⟨rfl, HLA, HCA, HKA, HRA⟩
 case round =>
  clear c1;rcases hrel with ⟨rfl, hL, hC, hKr, hRr⟩ | ⟨rfl, hL, hC⟩
  · skip;have hfn := hL.out.fns.1;have s0 : wr.cell? ⟨S.sb, 0, none⟩ = some (.func (.func 111) #[] #[.pointer (some ⟨S.g, 0, none⟩)]) := hfn 0 (by decide);have s1 : wr.cell? ⟨S.sb, 1, none⟩ = some (.func (.func 112) #[] #[.pointer (some ⟨S.g, 0, none⟩)]) := hfn 1 (by decide);have s2 : wr.cell? ⟨S.sb, 2, none⟩ = some (.func (.func 113) #[] #[.pointer (some ⟨S.g, 0, none⟩)]) := hfn 2 (by decide);have s3 : wr.cell? ⟨S.sb, 3, none⟩ = some (.func (.func 115) #[] #[.pointer (some ⟨S.g, 0, none⟩)]) := hfn 3 (by decide);clear hfn;have hb1 : Below wr.heap.size wr (wr.alloc (.cells #[.func (.func 111) #[] #[.pointer (some ⟨S.g, 0, none⟩)], .func (.func 112) #[] #[.pointer (some ⟨S.g, 0, none⟩)], .func (.func 113) #[] #[.pointer (some ⟨S.g, 0, none⟩)], .func (.func 115) #[] #[.pointer (some ⟨S.g, 0, none⟩)]] 125)) := (Below.refl _ _).alloc (Nat.le_refl _) _;have hK1 := hi_ (hKr.out.below hb1);have hR1 := hRr.out.below hb1 hRr.out.lt;have k0 := hR1.cell 0;have k1 := hR1.cell 1;try dsimp only at k0 k1
    have hL1 := hi_ (hL.out.below hb1);have hC1 := hi_ (hC.out.below hb1);have HB1 := hi_ hb1;go_wp2_with fail
    refine (uu S i j (av kp) k LA LB _ hL1.out.sd hi hj hij hK1.out Hl.out HXL.out HYL.out hLab hlen).mono ?_;rintro e w4 ⟨rfl, hL4, hC4⟩;have HL4 := hi_ (hL1.out.cD hS hL4 hC4 (by unfold iP; rw [aB]));have HC4 := hi_ (hC1.out.trans hC4.oZ);clear hL4 hC4 s0 s1 s2 s3;go_wp2;go_roundw
    case rel => exact .inr ⟨by go_num, HL4, HC4⟩
    case measure => simp [intOf]
  · go_wp2;refine bodyPost_end (results_none (by kernel_rfl) _ _ _) rfl ?_;exact ⟨rfl, hL.out, hC.out⟩
theorem vj (S : ct) (i j : Nat) (kv : Value) (k : Int) (LA LB : Nat) (w : World) (h : aD w S) (hi : i < S.R.length) (hj : j < S.R.length) (hij : i ≠ j) (hK : ai w LA kv k) (hl : S.R[i].xs.length = S.R[j].xs.length) (hxL : ∀ x ∈ S.R[i].xs, ag x.natAbs <= 17592186044415) (hyL : ∀ y ∈ S.R[j].xs, ag y.natAbs <= LB) (hLab : LA + LB <= 17592186044415) (hlen : S.R[i].xs.length <= 4611686018427387903) (hG : S.jz) (hF : S.xM) (hLA2 : LA <= 13194139533312) :
 Calls Tryz.prog 130 #[.pointer (some ⟨S.lb, 0, none⟩), .int .i64 (i : Int), .int .i64 (j : Int), kv] w fun e w' => e = .returned (.tuple #[]) /\ aD w' (S.az (iP S.R i j k hi hj)) /\ aN S.own w w' := by
 rcases hS : S.two with _ | t
 · exact xR S i j kv k LA LB w h hi hj hij hK hl hxL hyL hLab hlen hS
 · exact (hG t hS).no.elim
theorem yt (S : ct) (i j : Nat) (mp mq mr ms : P4) (a b c d : Int) (LA LB : Nat) (w : World) (h : aD w S) (hi : i < S.R.length) (hj : j < S.R.length) (hij : i ≠ j) (hA : ai w LA (av mp) a) (hB : ai w LA (av mq) b) (hC : ai w LA (av mr) c) (hD : ai w LA (av ms) d) (hl : S.R[i].xs.length = S.R[j].xs.length) (hxL : ∀ x ∈ S.R[i].xs, ag x.natAbs <= LB) (hyL : ∀ y ∈ S.R[j].xs, ag y.natAbs <= LB) (hLab : LA + LB <= 17592186044415) (hlen : S.R[i].xs.length <= 4611686018427387903) (hS : S.two = none) :
 Calls Tryz.prog 131 #[.pointer (some ⟨S.lb, 0, none⟩), .int .i64 (i : Int), .int .i64 (j : Int), .agg #[.bool mp.1, .slice mp.2.1 mp.2.2.1 mp.2.2.2, .bool mq.1, .slice mq.2.1 mq.2.2.1 mq.2.2.2, .bool mr.1, .slice mr.2.1 mr.2.2.1 mr.2.2.2, .bool ms.1, .slice ms.2.1 ms.2.2.1 ms.2.2.2]] w fun e w' => e = .returned (.tuple #[]) /\ aD w' (S.az (kd S.R i j a b c d hi hj)) /\ aN S.own w w' := by
 have HXL := hi_ hxL; clear hxL;have HYL := hi_ hyL; clear hyL;have Hl := hi_ hl; clear hl;have HI : Hid (ai w LA (av mp) a /\ ai w LA (av mq) b /\ ai w LA (av mr) c /\ ai w LA (av ms) d) := hi_ ⟨hA, hB, hC, hD⟩;clear hA hB hC hD;have HL := hi_ h; clear h;have Hso : Hid (¬ S.own w.heap.size) := hi_ (fun e => absurd (HL.out.pH _ e) (Nat.lt_irrefl _));have hb0 : Below w.heap.size w (w.alloc (.cells #[.bool mp.1, .slice mp.2.1 mp.2.2.1 mp.2.2.2, .bool mq.1, .slice mq.2.1 mq.2.2.1 mq.2.2.2, .bool mr.1, .slice mr.2.1 mr.2.2.1 mr.2.2.2, .bool ms.1, .slice ms.2.1 ms.2.2.1 ms.2.2.2] 138)) := (Below.refl _ _).alloc (Nat.le_refl _) _;have hr0 := aa.new w #[.bool mp.1, .slice mp.2.1 mp.2.2.1 mp.2.2.2, .bool mq.1, .slice mq.2.1 mq.2.2.1 mq.2.2.2, .bool mr.1, .slice mr.2.1 mr.2.2.1 mr.2.2.2, .bool ms.1, .slice ms.2.1 ms.2.2.1 ms.2.2.2] 138;have HLA := hi_ (HL.out.below hb0);have HCA := hi_ (aN.aU (S := S.own) hb0);have HIA : Hid (ai (w.alloc (.cells #[.bool mp.1, .slice mp.2.1 mp.2.2.1 mp.2.2.2, .bool mq.1, .slice mq.2.1 mq.2.2.1 mq.2.2.2, .bool mr.1, .slice mr.2.1 mr.2.2.1 mr.2.2.2, .bool ms.1, .slice ms.2.1 ms.2.2.1 ms.2.2.2] 138)) LA (av mp) a /\ ai (w.alloc (.cells #[.bool mp.1, .slice mp.2.1 mp.2.2.1 mp.2.2.2, .bool mq.1, .slice mq.2.1 mq.2.2.1 mq.2.2.2, .bool mr.1, .slice mr.2.1 mr.2.2.1 mr.2.2.2, .bool ms.1, .slice ms.2.1 ms.2.2.1 ms.2.2.2] 138)) LA (av mq) b /\ ai (w.alloc (.cells #[.bool mp.1, .slice mp.2.1 mp.2.2.1 mp.2.2.2, .bool mq.1, .slice mq.2.1 mq.2.2.1 mq.2.2.2, .bool mr.1, .slice mr.2.1 mr.2.2.1 mr.2.2.2, .bool ms.1, .slice ms.2.1 ms.2.2.1 ms.2.2.2] 138)) LA (av mr) c /\ ai (w.alloc (.cells #[.bool mp.1, .slice mp.2.1 mp.2.2.1 mp.2.2.2, .bool mq.1, .slice mq.2.1 mq.2.2.1 mq.2.2.2, .bool mr.1, .slice mr.2.1 mr.2.2.1 mr.2.2.2, .bool ms.1, .slice ms.2.1 ms.2.2.1 ms.2.2.2] 138)) LA (av ms) d) := hi_ ⟨HI.out.1.below hb0, HI.out.2.1.below hb0, HI.out.2.2.1.below hb0, HI.out.2.2.2.below hb0⟩;have HRA := hi_ hr0;have c1 : (w.alloc (.cells #[.bool mp.1, .slice mp.2.1 mp.2.2.1 mp.2.2.2, .bool mq.1, .slice mq.2.1 mq.2.2.1 mq.2.2.2, .bool mr.1, .slice mr.2.1 mr.2.2.1 mr.2.2.2, .bool ms.1, .slice ms.2.1 ms.2.2.1 ms.2.2.2] 138)).cell? ⟨S.lb, 1, none⟩ = some (.slice (some ⟨S.sb, 0, none⟩) 1 1) := HLA.out.one hS;clear hb0 hr0;go_enter Tryz.func131, Tryz.ntmps131;go_wp2;generalize w.alloc (.cells #[.bool mp.1, .slice mp.2.1 mp.2.2.1 mp.2.2.2, .bool mq.1, .slice mq.2.1 mq.2.2.1 mq.2.2.2, .bool mr.1, .slice mr.2.1 mr.2.2.1 mr.2.2.2, .bool ms.1, .slice ms.2.1 ms.2.2.1 ms.2.2.2] 138) = wA at *;go_loopw [15] (fun ct_ wr => (ct_ = .int .i64 0 /\ Hid (aD wr S) /\ Hid (aN S.own w wr) /\ Hid (ai wr LA (av mp) a /\ ai wr LA (av mq) b /\ ai wr LA (av mr) c /\ ai wr LA (av ms) d) /\ Hid (aa wr w.heap.size 138 [.bool mp.1, .slice mp.2.1 mp.2.2.1 mp.2.2.2, .bool mq.1, .slice mq.2.1 mq.2.2.1 mq.2.2.2, .bool mr.1, .slice mr.2.1 mr.2.2.1 mr.2.2.2, .bool ms.1, .slice ms.2.1 ms.2.2.1 ms.2.2.2])) ∨ (ct_ = .int .i64 1 /\ Hid (aD wr (S.az (kd S.R i j a b c d hi hj))) /\ Hid (aN S.own w wr))) (fun c _ => 1 - (intOf c).toNat)
 case atStart => exact .inl ⟨rfl, HLA, HCA, HIA, HRA⟩
 case round =>
  clear c1;rcases hrel with ⟨rfl, hL, hC, hIr, hRr⟩ | ⟨rfl, hL, hC⟩
  · skip;have hfn := hL.out.fns.1;have s0 : wr.cell? ⟨S.sb, 0, none⟩ = some (.func (.func 111) #[] #[.pointer (some ⟨S.g, 0, none⟩)]) := hfn 0 (by decide);have s1 : wr.cell? ⟨S.sb, 1, none⟩ = some (.func (.func 112) #[] #[.pointer (some ⟨S.g, 0, none⟩)]) := hfn 1 (by decide);have s2 : wr.cell? ⟨S.sb, 2, none⟩ = some (.func (.func 113) #[] #[.pointer (some ⟨S.g, 0, none⟩)]) := hfn 2 (by decide);have s3 : wr.cell? ⟨S.sb, 3, none⟩ = some (.func (.func 115) #[] #[.pointer (some ⟨S.g, 0, none⟩)]) := hfn 3 (by decide);clear hfn;have hb1 : Below wr.heap.size wr (wr.alloc (.cells #[.func (.func 111) #[] #[.pointer (some ⟨S.g, 0, none⟩)], .func (.func 112) #[] #[.pointer (some ⟨S.g, 0, none⟩)], .func (.func 113) #[] #[.pointer (some ⟨S.g, 0, none⟩)], .func (.func 115) #[] #[.pointer (some ⟨S.g, 0, none⟩)]] 125)) := (Below.refl _ _).alloc (Nat.le_refl _) _;have hA1 := hi_ (hIr.out.1.below hb1);have hB1 := hi_ (hIr.out.2.1.below hb1);have hC1' := hi_ (hIr.out.2.2.1.below hb1);have hD1 := hi_ (hIr.out.2.2.2.below hb1);have hR1 := hRr.out.below hb1 hRr.out.lt;have k0 := hR1.cell 0;have k1 := hR1.cell 1;have k2 := hR1.cell 2;have k3 := hR1.cell 3;have k4 := hR1.cell 4;have k5 := hR1.cell 5;have k6 := hR1.cell 6;have k7 := hR1.cell 7;have hL1 := hi_ (hL.out.below hb1);have hC1 := hi_ (hC.out.below hb1);have HB1 := hi_ hb1;go_wp2_with fail
    refine (uW S i j mp mq mr ms a b c d LA LB _ hL1.out.sd hi hj hij hA1.out hB1.out hC1'.out hD1.out Hl.out HXL.out HYL.out hLab hlen).mono ?_;rintro e w4 ⟨rfl, hL4, hC4⟩;have HL4 := hi_ (hL1.out.cD hS hL4 hC4 (by unfold kd; rw [aB, aB]));have HC4 := hi_ (hC1.out.trans hC4.oZ);clear hL4 hC4 s0 s1 s2 s3;go_wp2;go_roundw
    case rel => exact .inr ⟨by go_num, HL4, HC4⟩
    case measure => simp [intOf]
  · go_wp2;refine bodyPost_end (results_none (by kernel_rfl) _ _ _) rfl ?_;exact ⟨rfl, hL.out, hC.out⟩
theorem zZ (S : ct) (i j : Nat) (mp mq mr ms : P4) (a b c d : Int) (LA LB : Nat) (w : World) (h : aD w S) (hi : i < S.R.length) (hj : j < S.R.length) (hij : i ≠ j) (hA : ai w LA (av mp) a) (hB : ai w LA (av mq) b) (hC : ai w LA (av mr) c) (hD : ai w LA (av ms) d) (hl : S.R[i].xs.length = S.R[j].xs.length) (hxL : ∀ x ∈ S.R[i].xs, ag x.natAbs <= LB) (hyL : ∀ y ∈ S.R[j].xs, ag y.natAbs <= LB) (hLab : LA + LB <= 17592186044415) (hlen : S.R[i].xs.length <= 4611686018427387903) (hG : S.jz) (hF : S.xM) (hLA2 : LA <= 13194139533312) (hdet : a * d - b * c = 1) :
 Calls Tryz.prog 131 #[.pointer (some ⟨S.lb, 0, none⟩), .int .i64 (i : Int), .int .i64 (j : Int), .agg #[.bool mp.1, .slice mp.2.1 mp.2.2.1 mp.2.2.2, .bool mq.1, .slice mq.2.1 mq.2.2.1 mq.2.2.2, .bool mr.1, .slice mr.2.1 mr.2.2.1 mr.2.2.2, .bool ms.1, .slice ms.2.1 ms.2.2.1 ms.2.2.2]] w fun e w' => e = .returned (.tuple #[]) /\ aD w' (S.az (kd S.R i j a b c d hi hj)) /\ aN S.own w w' := by
 rcases hS : S.two with _ | t
 · exact yt S i j mp mq mr ms a b c d LA LB w h hi hj hij hA hB hC hD hl hxL hyL hLab hlen hS
 · exact (hG t hS).no.elim
def iv (n : Nat) : Value := .int .i64 (n : Int)
theorem uA (n : Nat) : (madeCells (Value.int .i64 0).cells (n * 1)).toList = (List.replicate n 0).map iv := by
 rw [fc _ rfl]; simp [iv]
theorem vM : (Tryz.prog.info? 3).map (fun i => (i.zero, i.size, i.bytes)) = some (some (.int .i64 0), 1, 8) := by kernel_rfl
theorem yz {w : World} {ops : Array Oper} {rest : List Oper} {o : Oper} {a : Act} {Q : Exit -> Act -> World -> Prop}
 (hg : o.guard = none) (l c : Operand) (hop : o.op = Op.makeSlice 34 l c)
 {kl kc : IntKind} {L C : Int} (n m : Nat) (hl : a.eval l = .int kl L) (hc : a.eval c = .int kc C) (hL : L = (n : Int)) (hC : C = (m : Int)) (hnm : n <= m) (b2 : m <= 35184372088832)
 (hK : ∀ b w', Made w w' b 3 ((List.replicate m 0).map iv) -> wpList Tryz.prog ops Q rest (a.put o.dst (.slice (some ⟨b, 0, none⟩) n m)) w') :
 wpList Tryz.prog ops Q (o :: rest) a w :=
 ec hg l c 34 hop 3 (.int .i64 0) 1 8 Tryz.underlying34 vM n m hl hc hL hC hnm (by omega) (by unfold maxLen; omega)
  (fun b w' h => hK b w' (by rw [uA] at h; exact h))
theorem ed.lC {w : World} {S : ct} (h : ed w S) {g : Nat} {t : TypeId} {cs : List Value} (hr : aa w g t cs) (h1 : t ≠ 37) (h2 : t ≠ 22) (h3 : t ≠ 70) (hn : aI cs) (i : Nat) (u : Value) : ed (w.setCell ⟨g, i, none⟩ u) S :=
 ⟨h.box.other (h.box.ne hr (fun e => h3 e.symm)) u, ⟨h.dJ.out.other (fun e => hr.neP h.dJ.out h2 e.symm) u, fun r hr' => (h.dJ.row r hr').jR hr h1 hn i u, h.dJ.nd⟩⟩
theorem aD.lC {w : World} {S : ct} (h : aD w S) {g : Nat} {t : TypeId} {cs : List Value} (hr : aa w g t cs) (h1 : t ≠ 37) (h2 : t ≠ 22) (h3 : t ≠ 70) (h4 : t ≠ 125) (h5 : t ≠ 109) (hn : aI cs) (i : Nat) (u : Value) : aD (w.setCell ⟨g, i, none⟩ u) S :=
 have hs := h.sd.lC hr h1 h2 h3 hn i u
 ⟨h.lad.other (h.lad.ne hr (fun e => h5 e.symm)) u, h.sides.other (fun e => hr.neP h.sides h4 e.symm) u, hs.box, hs.dJ, fun t' ht => by
  obtain ⟨V, hV⟩ := h.ext t' ht;exact ⟨V, hV.sd.lC hr h1 h2 h3 hn i u, hV.box3.other (hV.box3.ne hr (fun e => h3 e.symm)) u, hV.rel, hV.own, hV.apart⟩⟩
theorem NoIv (ls : List Nat) : aI (ls.map iv) := by
 intro c hc n;obtain ⟨x, _, rfl⟩ := List.mem_map.1 hc;simp [iv]
def AV.yG (B : Nat) (x y : Int) : AV := AV.free (fun w v => ∃ a b, v = .tuple #[a, b, .int .i64 0] /\ aj w B a x /\ aj w B b y) (fun ⟨a, b, e, h, h'⟩ hb => ⟨a, b, e, aj.below h hb, aj.below h' hb⟩) (fun ⟨a, b, e, h, h'⟩ hr _ ht k u _ => ⟨a, b, e, aj.setRow h hr ht k u, aj.setRow h' hr ht k u⟩)
theorem ob {x y : Int} {B : Nat} (hy : y ≠ 0) (h : ag x.natAbs <= B) : ag (x.fdiv y).natAbs <= B + 2 := by
 have h1 : (x.tdiv y).natAbs <= x.natAbs := by rw [Int.natAbs_tdiv]; exact Nat.div_le_self _ _
 have h2 : (x.fdiv y).natAbs <= x.natAbs + 1 := by
  by_cases hs : x.tmod y = 0 ∨ (decide (x.tmod y < 0)) = decide (y < 0)
  · rw [(ke hy hs).1]; omega
  · have hs1 : x.tmod y ≠ 0 := fun e => hs (.inl e);have hs2 : ¬ (decide (x.tmod y < 0)) = decide (y < 0) := fun e => hs (.inr e);rw [(lQ hy hs1 hs2).1]; omega
 have h3 := aF h2;have h4 := mY x.natAbs 1;have h5 : ag 1 <= 1 := au (by decide);have h6 : max (ag x.natAbs) (ag 1) <= B + 1 := Nat.max_le.2 ⟨by omega, by omega⟩;omega
theorem fI (S : ct) (i : Nat) (xs : List Int) (k : Nat) : (S.az (dh S.R i xs)).own k ↔ S.own k := or_congr (tV (fun b => rN b) k) Iff.rfl
def aw (R : List Hd) (i j : Nat) : Int := ((R[i]?).map (fun h => h.xs.getD j 0)).getD 0
def aM (R : List Hd) (i : Nat) : Nat := ((R[i]?).map (fun h => lead h.xs)).getD 0
theorem fP {R : List Hd} {i j : Nat} (hi : i < R.length) (hj : j < R[i].xs.length) : aw R i j = R[i].xs[j] := by
 unfold aw; simp [hi, hj]
theorem eT {R : List Hd} {i : Nat} (hi : i < R.length) : aM R i = lead R[i].xs := by
 unfold aM; simp [hi]
structure Fit (B c : Nat) (R : List Hd) : Prop where
 len : ∀ h ∈ R, h.xs.length = c
 fit : ∀ h ∈ R, ∀ x ∈ h.xs, ag x.natAbs <= B
def gS (R : List Hd) (i j : Nat) (k : Int) : List Hd := if h : i < R.length /\ j < R.length then iP R i j k h.1 h.2 else R
theorem mg {R : List Hd} {i j : Nat} {k : Int} (hi : i < R.length) (hj : j < R.length) : gS R i j k = iP R i j k hi hj := by unfold gS; rw [dif_pos ⟨hi, hj⟩]
theorem cW (R : List Hd) (i j : Nat) (k : Int) : (gS R i j k).length = R.length := by
 unfold gS; split
 · unfold iP; rw [aB]
 · rfl
inductive sY (B c : Nat) (ls : List Nat) (i n : Nat) : Nat -> List Hd -> List Hd -> Prop
 | done {k : Nat} {R : List Hd} (h : n <= k) : sY B c ls i n k R R
 | step {k : Nat} {R R' : List Hd} (h : k < n) (hF : Fit B c R) (hc : ls.getD k 0 < c) (hp : aw R k (ls.getD k 0) ≠ 0) (hs : sY B c ls i n (k + 1) (gS R i k (-((aw R i (ls.getD k 0)).fdiv (aw R k (ls.getD k 0))))) R') : sY B c ls i n k R R'
inductive gN (B c : Nat) (ls : List Nat) (n : Nat) : Nat -> List Hd -> List Hd -> Prop
 | done {R : List Hd} : gN B c ls n 0 R R
 | step {m : Nat} {R R1 R' : List Hd} (h1 : sY B c ls m n (m + 1) R R1) (h2 : gN B c ls n m R1 R') : gN B c ls n (m + 1) R R'
theorem gN.inv {B c : Nat} {ls : List Nat} {n m : Nat} {R R' : List Hd} (h : gN B c ls n (m + 1) R R') : ∃ R1, sY B c ls m n (m + 1) R R1 /\ gN B c ls n m R1 R' := by
 cases h with
 | step h1 h2 => exact ⟨_, h1, h2⟩
theorem gN.zero {B c : Nat} {ls : List Nat} {n : Nat} {R R' : List Hd} (h : gN B c ls n 0 R R') : R = R' := by
 cases h; rfl
theorem sY.inv {B c : Nat} {ls : List Nat} {i n k : Nat} {R R' : List Hd} (h : sY B c ls i n k R R') (hk : k < n) : Fit B c R /\ ls.getD k 0 < c /\ aw R k (ls.getD k 0) ≠ 0 /\ sY B c ls i n (k + 1) (gS R i k (-((aw R i (ls.getD k 0)).fdiv (aw R k (ls.getD k 0))))) R' := by
 cases h with
 | done h => omega
 | step _ hF hc hp hs => exact ⟨hF, hc, hp, hs⟩
theorem sY.fin {B c : Nat} {ls : List Nat} {i n k : Nat} {R R' : List Hd} (h : sY B c ls i n k R R') (hk : n <= k) : R = R' := by
 cases h with
 | done h => rfl
 | step h _ _ _ _ => omega
theorem sY.length {B c : Nat} {ls : List Nat} {i n k : Nat} {R R' : List Hd} (h : sY B c ls i n k R R') : R'.length = R.length := by
 induction h with
 | done _ => rfl
 | step _ _ _ _ _ ih => rw [ih, cW]
def dQ (R : List Hd) (n : Nat) : List Nat := (List.range n).map (aM R)
theorem rT (ls : List Nat) (i v : Nat) : (ls.map iv).set i (.int .i64 (v : Int)) = (ls.set i v).map iv := by
 rw [List.map_set]; rfl
theorem mF (ls : List Nat) {i : Nat} (h : i < ls.length) : (ls.map iv)[i]? = some (.int .i64 ((ls.getD i 0 : Nat) : Int)) := by
 simp [iv, h]
def ct.sat (S : ct) (B c : Nat) : Prop := ∀ t, S.two = some t -> t.Ok /\ ∀ R, Fit B c R -> t.fit R
theorem ct.sat.jz {S : ct} {B c : Nat} (h : S.sat B c) (R : List Hd) : (S.az R).jz := fun t ht => (h t ht).1
theorem ct.sat.xM {S : ct} {B c : Nat} (h : S.sat B c) {R : List Hd} (hF : Fit B c R) : (S.az R).xM := fun t ht => (h t ht).2 R hF
theorem ij (S : ct) (n B c : Nat) (R' : List Hd) (w : World) (h : aD w S) (hn : n <= S.R.length) (hB : B <= 4398046511103) (hF : Fit B c S.R) (hS : gN B c (dQ S.R n) n n S.R R') (hR : S.R.length <= 1000000) (hc : c <= 1000000) (hT : S.sat B c) :
 Calls Tryz.prog 117 #[.pointer (some ⟨S.lb, 0, none⟩), .int .i64 (n : Int)] w fun e w' => e = .returned (.tuple #[]) /\ aD w' (S.az R') /\ aN S.own w w' := by
 have HL := hi_ h; clear h;have HF := hi_ hF; clear hF;have HS := hi_ hS; clear hS;have HT := hi_ hT; clear hT;go_enter Tryz.func117, Tryz.ntmps117;go_wp2_with (at_make; refine yz rfl _ _ rfl n n rfl rfl (by omega) (by omega) (Nat.le_refl _) (by omega) ?_; intro gl w1 hm1)
 have L1 := hi_ (HL.out.below hm1.below);have C1 := hi_ (aN.aU (S := S.own) hm1.below);have hgl : gl = w.heap.size := hm1.at_;have Hgl := hi_ hgl; clear hgl;have hr1 := hm1.row;go_loopw [16] (fun i wr => ∃ (m : Nat) (ls : List Nat), m <= n /\ i = .int .i64 (m : Int) /\ Hid (ls.length = n /\ ∀ j (h : j < ls.length), j < m -> ls[j] = aM S.R j) /\ Hid (aa wr gl 3 (ls.map iv)) /\ Hid (aD wr S) /\ Hid (aN S.own w wr)) (fun i _ => n - (intOf i).toNat)
 case atStart => exact ⟨0, List.replicate n 0, Nat.zero_le _, rfl, ⟨by simp, fun j _ h => by omega⟩, hr1, L1, C1⟩
 case round =>
  obtain ⟨m, ls, hm, rfl, Hls, hG, hL, hC⟩ := hrel;by_cases hmn : m < n
  · have hmR : m < S.R.length := by omega
    have c0 : wr.cell? ⟨S.lb, 0, none⟩ = some (.slice (some ⟨S.o, 0, none⟩) S.R.length S.cap) := hL.out.lad.cell 0;have cm : wr.cell? ⟨S.o, m, none⟩ = some (.slice (some ⟨S.R[m].blk, 0, none⟩) S.R[m].xs.length S.R[m].cap) := hL.out.dJ.cF hmR;have hm1' : (m : Int) < (S.R.length : Int) := by omega
    have hm2' : (m : Int) < (n : Int) := by omega
    go_wp2_with fail
    refine (jk S.R[m].blk S.R[m].cap S.R[m].xs _ (hL.out.dJ.row _ (List.getElem_mem hmR)) (fun x hx => by have := HF.out.fit _ (List.getElem_mem hmR) x hx; omega) (by have := HF.out.len _ (List.getElem_mem hmR); omega)).mono ?_;rintro e w2 ⟨rfl, hb2⟩;have L2 := hi_ (hL.out.below hb2);have C2 := hi_ (hC.out.below hb2);have G2 := hG.out.below hb2 hG.out.lt;have hml : m < ls.length := by rw [Hls.out.1]; exact hmn
    have d0 : w2.cell? ⟨gl, m, none⟩ = some (.int .i64 ((ls.getD m 0 : Nat) : Int)) := (G2.cell m).trans (mF ls hml);have f0 := G2.free m;have G2 := hi_ G2;have hbn : w.heap.size <= gl := by have := Hgl.out; omega
    clear hL hC hG hb2 c0 cm;go_wp2;go_roundw
    case rel =>
     refine ⟨m + 1, ls.set m (aM S.R m), by omega, by go_num, hi_ ⟨by simpa using Hls.out.1, fun j hj hjm => ?_⟩, ?_, ?_, hi_ (C2.out.lC (p := ⟨gl, m, none⟩) hbn _)⟩
     · rw [List.getElem_set];split
       · rename_i e; subst e; rfl
       · exact Hls.out.2 j (by simpa using hj) (by omega)
     · rw [<- rT, eT hmR];exact hi_ (G2.out.set m _)
     · exact hi_ (L2.out.lC G2.out (by decide) (by decide) (by decide) (by decide) (by decide) (NoIv ls) m _)
    case measure => simp [intOf]; omega
  · obtain rfl : m = n := by omega
    have hlsE : ls = dQ S.R m := by
     refine List.ext_getElem (by simp [dQ, Hls.out.1]) fun j h1 h2 => ?_;rw [Hls.out.2 j h1 (by have := Hls.out.1; omega)];simp [dQ]
    have HLE := hi_ hlsE; clear hlsE;have hbn : w.heap.size <= gl := by have := Hgl.out; omega
    have hso : ¬ S.own gl := by
     intro e;have := HL.out.pH _ e;omega
    have Hso := hi_ hso; clear hso;have HS2 := HS.out;rw [<- HLE.out] at HS2;have HS2 := hi_ HS2;have HG := hG;go_wp2;go_loopw [6] (fun iv_ wo => ∃ (q : Nat) (R1 : List Hd), q <= m /\ iv_ = .int .i64 ((q : Int) - 1) /\ Hid (R1.length = S.R.length) /\ Hid (gN B c ls m q R1 R') /\ Hid (aD wo (S.az R1)) /\ Hid (aa wo gl 3 (ls.map iv)) /\ Hid (aN S.own w wo) /\ Hid (∀ k, (S.az R1).own k ↔ S.own k)) (fun iv_ _ => (intOf iv_ + 1).toNat)
    case atStart => exact ⟨m, S.R, Nat.le_refl _, by go_num, rfl, HS2, hL, HG, hC, hi_ (fun _ => Iff.rfl)⟩
    case round =>
     obtain ⟨q, R1, hq, rfl, hR1, HO, hL1, hG1, hC1, Hown⟩ := hrel;rcases q with _ | ii
     · have e : ((0 : Nat) : Int) - 1 = -1 := by omega
       rw [e];go_wp2;refine bodyPost_end (results_none (by kernel_rfl) _ _ _) rfl ?_;have hRR : R1 = R' := HO.out.zero;rw [<- hRR];exact ⟨rfl, hL1.out, hC1.out⟩
     · have e : ((ii + 1 : Nat) : Int) - 1 = (ii : Int) := by omega
       rw [e];obtain ⟨R1', HI, HO'⟩ := HO.out.inv;have HI := hi_ HI;have HO' := hi_ HO';have hii : ii < S.R.length := by omega
       clear HO;go_wp2;go_loopw [7] (fun kv_ wi => ∃ (kk : Nat) (R2 : List Hd), ii < kk /\ kk <= m /\ kv_ = .int .i64 (kk : Int) /\ Hid (R2.length = S.R.length) /\ Hid (sY B c ls ii m kk R2 R1') /\ Hid (aD wi (S.az R2)) /\ Hid (aa wi gl 3 (ls.map iv)) /\ Hid (aN S.own w wi) /\ Hid (∀ k, (S.az R2).own k ↔ S.own k)) (fun kv_ _ => m - (intOf kv_).toNat)
       case atStart => exact ⟨ii + 1, R1, by omega, by omega, by go_num, hR1, HI, hL1, hG1, hC1, Hown⟩
       case round =>
        obtain ⟨kk, R2, hik, hkm, rfl, hR2, HI2, hL2, hG2, hC2, Hown2⟩ := hrel;by_cases hkm' : kk < m
        · have hkR : kk < R2.length := by have := hR2.out; omega
          have hiR : ii < R2.length := by have := hR2.out; omega
          have hkl : kk < ls.length := by rw [Hls.out.1]; exact hkm'
          obtain ⟨HF2, Hc2, Hp2, HI3⟩ := HI2.out.inv hkm';have HF2 := hi_ HF2;have Hp2 := hi_ Hp2;have HI3 := hi_ HI3;obtain ⟨jj, hjj⟩ : ∃ jj, ls.getD kk 0 = jj := ⟨_, rfl⟩;rw [hjj] at Hc2 Hp2 HI3;have hkm1 : (kk : Int) < (m : Int) := by omega
          have hi1 : (ii : Int) < (R2.length : Int) := by omega
          have hk1 : (kk : Int) < (R2.length : Int) := by omega
          have hjl : jj < R2[ii].xs.length := by rw [HF2.out.len _ (List.getElem_mem hiR)]; exact Hc2
          have hjk : jj < R2[kk].xs.length := by rw [HF2.out.len _ (List.getElem_mem hkR)]; exact Hc2
          have hjl1 : (jj : Int) < (R2[ii].xs.length : Int) := by omega
          have hjk1 : (jj : Int) < (R2[kk].xs.length : Int) := by omega
          have dj : wr.cell? ⟨gl, kk, none⟩ = some (.int .i64 (jj : Int)) := by rw [hG2.out.cell, mF ls hkl, hjj]
          have Hjj := hi_ hjj; clear hjj;clear HI2;go_wp2;clear dj;have cb : wr.cell? ⟨S.lb, 0, none⟩ = some (.slice (some ⟨S.o, 0, none⟩) R2.length S.cap) := hL2.out.lad.cell 0;have ci : wr.cell? ⟨S.o, ii, none⟩ = some (.slice (some ⟨R2[ii].blk, 0, none⟩) R2[ii].xs.length R2[ii].cap) := hL2.out.dJ.cF (i := ii) hiR;have ck : wr.cell? ⟨S.o, kk, none⟩ = some (.slice (some ⟨R2[kk].blk, 0, none⟩) R2[kk].xs.length R2[kk].cap) := hL2.out.dJ.cF (i := kk) hkR;have hXi := hL2.out.dJ.row _ (List.getElem_mem (l := R2) hiR);have hXk := hL2.out.dJ.row _ (List.getElem_mem (l := R2) hkR);obtain ⟨pi, ci0, ci1, hni⟩ := hXi.get hjl;obtain ⟨pk, ck0, ck1, hnk⟩ := hXk.get hjk;have hwi : ag (R2[ii].xs[jj]).natAbs <= B := HF2.out.fit _ (List.getElem_mem hiR) _ (List.getElem_mem hjl);have hwk : ag (R2[kk].xs[jj]).natAbs <= B := HF2.out.fit _ (List.getElem_mem hkR) _ (List.getElem_mem hjk);have hpz : R2[kk].xs[jj] ≠ 0 := by have := Hp2.out; rw [fP hkR hjk] at this; exact this
          obtain ⟨xi, hxi⟩ : ∃ xi, R2[ii].xs[jj] = xi := ⟨_, rfl⟩;obtain ⟨xk, hxk⟩ : ∃ xk, R2[kk].xs[jj] = xk := ⟨_, rfl⟩;rw [hxi] at hni hwi;rw [hxk] at hnk hwk hpz;have Hni := hi_ (hni.int (L := 17592186044415) (by omega));have Hnk := hi_ (hnk.int (L := 17592186044415) (by omega));have Hpz := hi_ hpz; clear hpz;have Hxi := hi_ hxi; clear hxi;have Hxk := hi_ hxk; clear hxk;have sb1 := hXi.lt;have sb2 := hXk.lt;have sb3 := hL2.out.lad.lt;have sb4 := hL2.out.dJ.out.lt;have sb3 : S.lb < wr.heap.size := sb3;have sb4 : S.o < wr.heap.size := sb4;clear hXi hXk hni hnk Hp2;refine er ⟨30, fun q_ => [49, 50, 51, 52, 53, 54, 55, 56, 57, 58, 59, 60, 61, 62, 63, 64, 65, 66, 67, 68, 69, 48, 70, 71, 72, 9, 10, 1027, 1028, 11].getD q_ 0,
           fun q_ => [.val (.pointer (some ⟨S.lb, 0, none⟩)), .val (.pointer (some ⟨S.lb, 0, none⟩)), .val (.pointer (some ⟨S.lb, 0, none⟩)), .val (.slice (some ⟨S.o, 0, none⟩) R2.length S.cap), .val (.int .i64 (ii : Int)), .val (.pointer (some ⟨S.o, ii, none⟩)), .val (.slice (some ⟨R2[ii].blk, 0, none⟩) R2[ii].xs.length R2[ii].cap), .val (.int .i64 (jj : Int)), .val (.pointer (some ⟨R2[ii].blk, jj * 2, none⟩)), .val (.agg #[.bool pi.1, .slice pi.2.1 pi.2.2.1 pi.2.2.2]), .val (.pointer (some ⟨S.lb, 0, none⟩)), .val (.pointer (some ⟨S.lb, 0, none⟩)), .val (.pointer (some ⟨S.lb, 0, none⟩)), .val (.slice (some ⟨S.o, 0, none⟩) R2.length S.cap), .val (.int .i64 (kk : Int)), .val (.pointer (some ⟨S.o, kk, none⟩)), .val (.slice (some ⟨R2[kk].blk, 0, none⟩) R2[kk].xs.length R2[kk].cap), .val (.int .i64 (jj : Int)), .val (.pointer (some ⟨R2[kk].blk, jj * 2, none⟩)), .val (.agg #[.bool pk.1, .slice pk.2.1 pk.2.2.1 pk.2.2.2]), .yG 0 (xi.fdiv xk) (xi.fmod xk), .yG 0 (xi.fdiv xk) (xi.fmod xk), .int 0 (xi.fdiv xk), .int 0 (xi.fmod xk), .val (.int .i64 0), .ptr wr.heap.size 37 2, .ptr wr.heap.size 37 2, .any, .any, .val (.int .i64 0)].getD q_ .any,
           [],
           [(.agg #[.bool pi.1, .slice pi.2.1 pi.2.2.1 pi.2.2.2], .at_ 17592186044415 xi), (.agg #[.bool pk.1, .slice pk.2.1 pk.2.2.1 pk.2.2.2], .at_ 17592186044415 xk)],
           [],
           [(27, 9, 37, .int 0 (xi.fdiv xk)), (28, 10, 37, .int 0 (xi.fmod xk))], [(⟨S.lb, 0, none⟩, .slice (some ⟨S.o, 0, none⟩) R2.length S.cap), (⟨S.o, ii, none⟩, .slice (some ⟨R2[ii].blk, 0, none⟩) R2[ii].xs.length R2[ii].cap), (⟨S.o, kk, none⟩, .slice (some ⟨R2[kk].blk, 0, none⟩) R2[kk].xs.length R2[kk].cap), (⟨R2[ii].blk, jj * 2, none⟩, .bool pi.1), (⟨R2[ii].blk, jj * 2 + 1, none⟩, .slice pi.2.1 pi.2.2.1 pi.2.2.2), (⟨R2[kk].blk, jj * 2, none⟩, .bool pk.1), (⟨R2[kk].blk, jj * 2 + 1, none⟩, .slice pk.2.1 pk.2.2.1 pk.2.2.2)], [(25, 9), (26, 10)]⟩ [49, 50, 51, 52, 53, 54, 55, 56, 57, 58, 59, 60, 61, 62, 63, 64, 65, 66, 67, 68, 69, 48, 70, 71, 72, 9, 10, 11] (wr.heap.size) (by kernel_rfl) (by kernel_rfl) (by kernel_rfl) (by kernel_rfl) ?_ ?_ ?_ ?_ ?_ ?_
          · exact bD (Hni.out) (bD (Hnk.out) aX)
          · exact aX
          · exact bD (⟨cb, by dsimp only; omega, aX⟩) (bD (⟨ci, by dsimp only; omega, aX⟩) (bD (⟨ck, by dsimp only; omega, aX⟩) (bD (⟨ci0, by dsimp only; omega, aX⟩) (bD (⟨ci1, by dsimp only; omega, aX⟩) (bD (⟨ck0, by dsimp only; omega, aX⟩) (bD (⟨ck1, by dsimp only; omega, aX⟩) aX))))))
          · exact aX
          · refine ak ?_ (ak ?_ (ak ?_ (ak ?_ (ak ?_ (ak ?_ (ak ?_ (ak ?_ (ak ?_ (ak ?_ (ak ?_ (ak ?_ (ak ?_ (ak ?_ (ak ?_ (ak ?_ (ak ?_ (ak ?_ (ak ?_ (ak ?_ (ak ?_ (ak ?_ (ak ?_ (ak ?_ (ak ?_ (ak ?_ (ak ?_ (ak ?_ (ak ?_ (ak ?_ kj)))))))))))))))))))))))))))));any_goals (first | (intro L fx w' hJ hL hp hcl; have _ := sr hp (by decide +kernel); refine aP rfl fun K hK => ?_; go_simp; exact hJ.q hK (by kernel_rfl) rfl) | fail)
            · intro L fx w' hJ hL hp hcl;have e0 := hJ.pt 0 49 (.pointer (some ⟨S.lb, 0, none⟩)) rfl rfl rfl (hp 0 (by decide));rw [e0] at hJ ⊢; clear e0;refine aP rfl fun K hK => ?_;go_simp;exact hJ.q hK (by kernel_rfl) rfl
            · intro L fx w' hJ hL hp hcl;have e1 := hJ.pt 1 50 (.pointer (some ⟨S.lb, 0, none⟩)) rfl rfl rfl (hp 1 (by decide));rw [e1] at hJ ⊢; clear e1;refine aP rfl fun K hK => ?_;go_simp;exact hJ.q hK (by kernel_rfl) rfl
            · intro L fx w' hJ hL hp hcl;have e2 := hJ.pt 2 51 (.pointer (some ⟨S.lb, 0, none⟩)) rfl rfl rfl (hp 2 (by decide));rw [e2] at hJ ⊢; clear e2;refine aP rfl fun K hK => ?_;have cl0 := (hJ.cells _ fL).1;try dsimp only at cl0
              go_simp;exact hJ.q hK (by kernel_rfl) rfl
            · intro L fx w' hJ hL hp hcl;have e3 := hJ.pt 3 52 (.slice (some ⟨S.o, 0, none⟩) R2.length S.cap) rfl rfl rfl (hp 3 (by decide));rw [e3] at hJ ⊢; clear e3;have e4 := hJ.pt 4 53 (.int .i64 (ii : Int)) rfl rfl rfl (hp 4 (by decide));rw [e4] at hJ ⊢; clear e4;refine aP rfl fun K hK => ?_;go_simp;exact hJ.q hK (by kernel_rfl) rfl
            · intro L fx w' hJ hL hp hcl;have e5 := hJ.pt 5 54 (.pointer (some ⟨S.o, ii, none⟩)) rfl rfl rfl (hp 5 (by decide));rw [e5] at hJ ⊢; clear e5;refine aP rfl fun K hK => ?_;have cl0 := (hJ.cells _ iQ).1;try dsimp only at cl0
              go_simp;exact hJ.q hK (by kernel_rfl) rfl
            · intro L fx w' hJ hL hp hcl;have e6 := hJ.pt 6 55 (.slice (some ⟨R2[ii].blk, 0, none⟩) R2[ii].xs.length R2[ii].cap) rfl rfl rfl (hp 6 (by decide));rw [e6] at hJ ⊢; clear e6;have e7 := hJ.pt 7 56 (.int .i64 (jj : Int)) rfl rfl rfl (hp 7 (by decide));rw [e7] at hJ ⊢; clear e7;refine aP rfl fun K hK => ?_;go_simp;exact hJ.q hK (by kernel_rfl) rfl
            · intro L fx w' hJ hL hp hcl;have e8 := hJ.pt 8 57 (.pointer (some ⟨R2[ii].blk, jj * 2, none⟩)) rfl rfl rfl (hp 8 (by decide));rw [e8] at hJ ⊢; clear e8;refine aP rfl fun K hK => ?_;have cl0 := (hJ.cells _ vf).1;have cl1 := (hJ.cells _ mm4).1;try dsimp only at cl0 cl1
              go_simp;exact hJ.q hK (by kernel_rfl) rfl
            · intro L fx w' hJ hL hp hcl;have e10 := hJ.pt 10 59 (.pointer (some ⟨S.lb, 0, none⟩)) rfl rfl rfl (hp 10 (by decide));rw [e10] at hJ ⊢; clear e10;refine aP rfl fun K hK => ?_;go_simp;exact hJ.q hK (by kernel_rfl) rfl
            · intro L fx w' hJ hL hp hcl;have e11 := hJ.pt 11 60 (.pointer (some ⟨S.lb, 0, none⟩)) rfl rfl rfl (hp 11 (by decide));rw [e11] at hJ ⊢; clear e11;refine aP rfl fun K hK => ?_;go_simp;exact hJ.q hK (by kernel_rfl) rfl
            · intro L fx w' hJ hL hp hcl;have e12 := hJ.pt 12 61 (.pointer (some ⟨S.lb, 0, none⟩)) rfl rfl rfl (hp 12 (by decide));rw [e12] at hJ ⊢; clear e12;refine aP rfl fun K hK => ?_;have cl0 := (hJ.cells _ fL).1;try dsimp only at cl0
              go_simp;exact hJ.q hK (by kernel_rfl) rfl
            · intro L fx w' hJ hL hp hcl;have e13 := hJ.pt 13 62 (.slice (some ⟨S.o, 0, none⟩) R2.length S.cap) rfl rfl rfl (hp 13 (by decide));rw [e13] at hJ ⊢; clear e13;have e14 := hJ.pt 14 63 (.int .i64 (kk : Int)) rfl rfl rfl (hp 14 (by decide));rw [e14] at hJ ⊢; clear e14;refine aP rfl fun K hK => ?_;go_simp;exact hJ.q hK (by kernel_rfl) rfl
            · intro L fx w' hJ hL hp hcl;have e15 := hJ.pt 15 64 (.pointer (some ⟨S.o, kk, none⟩)) rfl rfl rfl (hp 15 (by decide));rw [e15] at hJ ⊢; clear e15;refine aP rfl fun K hK => ?_;have cl0 := (hJ.cells _ qc).1;try dsimp only at cl0
              go_simp;exact hJ.q hK (by kernel_rfl) rfl
            · intro L fx w' hJ hL hp hcl;have e16 := hJ.pt 16 65 (.slice (some ⟨R2[kk].blk, 0, none⟩) R2[kk].xs.length R2[kk].cap) rfl rfl rfl (hp 16 (by decide));rw [e16] at hJ ⊢; clear e16;have e17 := hJ.pt 17 66 (.int .i64 (jj : Int)) rfl rfl rfl (hp 17 (by decide));rw [e17] at hJ ⊢; clear e17;refine aP rfl fun K hK => ?_;go_simp;exact hJ.q hK (by kernel_rfl) rfl
            · intro L fx w' hJ hL hp hcl;have e18 := hJ.pt 18 67 (.pointer (some ⟨R2[kk].blk, jj * 2, none⟩)) rfl rfl rfl (hp 18 (by decide));rw [e18] at hJ ⊢; clear e18;refine aP rfl fun K hK => ?_;have cl0 := (hJ.cells _ mm5).1;have cl1 := (hJ.cells _ mm6).1;try dsimp only at cl0 cl1
              go_simp;exact hJ.q hK (by kernel_rfl) rfl
            · intro L fx w' hJ hL hp hcl;have e9 := hJ.pt 9 58 (.agg #[.bool pi.1, .slice pi.2.1 pi.2.2.1 pi.2.2.2]) rfl rfl rfl (hp 9 (by decide));rw [e9] at hJ ⊢; clear e9;have e19 := hJ.pt 19 68 (.agg #[.bool pk.1, .slice pk.2.1 pk.2.2.1 pk.2.2.2]) rfl rfl rfl (hp 19 (by decide));rw [e19] at hJ ⊢; clear e19;refine aP rfl fun K hK => ?_;go_simp;go_at_call 93;refine (nD _ _ xi xk _ (show ai w' _ _ _ from hJ.base _ fL) (show ai w' _ _ _ from hJ.base _ iQ) Hpz.out).mono ?_;rintro e w4 ⟨⟨v5, v6, rfl, h5, h6⟩, hb4⟩;try dsimp only
              exact hK _ _ ⟨_, by kernel_rfl, hJ.gC 20 rfl (by kernel_rfl) hb4 ⟨_, _, rfl, aj.mono h5 (Nat.zero_le _), aj.mono h6 (Nat.zero_le _)⟩ (by omega)⟩
            · intro L fx w' hJ hL hp hcl;have e20 := hJ.slot 20 (by show 20 < 30; decide) (hp 20 (by decide));refine aP rfl fun K hK => ?_;go_simp;exact hJ.q hK (by kernel_rfl) e20
            · intro L fx w' hJ hL hp hcl;have e21 := hJ.slot 21 (by show 21 < 30; decide) (hp 21 (by decide));obtain ⟨vq, vr, hvt, hq1, hr1⟩ := e21;rw [aC (x := fx) (d := 48) (v := (.tuple #[vq, vr, .int .i64 0])) hvt] at hJ ⊢;refine aP rfl fun K hK => ?_;go_simp;exact hJ.q hK (by kernel_rfl) hq1
            · intro L fx w' hJ hL hp hcl;have e21 := hJ.slot 21 (by show 21 < 30; decide) (hp 21 (by decide));obtain ⟨vq, vr, hvt, hq1, hr1⟩ := e21;rw [aC (x := fx) (d := 48) (v := (.tuple #[vq, vr, .int .i64 0])) hvt] at hJ ⊢;refine aP rfl fun K hK => ?_;go_simp;exact hJ.q hK (by kernel_rfl) hr1
            · intro L fx w' hJ hL hp hcl;have e21 := hJ.slot 21 (by show 21 < 30; decide) (hp 21 (by decide));obtain ⟨vq, vr, hvt, hq1, hr1⟩ := e21;rw [aC (x := fx) (d := 48) (v := (.tuple #[vq, vr, .int .i64 0])) hvt] at hJ ⊢;refine aP rfl fun K hK => ?_;go_simp;exact hJ.q hK (by kernel_rfl) rfl
            · intro L fx w' hJ hL hp hcl;have hg0 : wr.heap.size <= w'.heap.size := Nat.le_trans (by omega : wr.heap.size <= wr.heap.size) hJ.size;refine aP rfl fun K hK => ?_;go_simp;exact hK _ _ ⟨_, by kernel_rfl, hJ.grow 25 (by show 25 < 30; decide) _ (by kernel_rfl) (by kernel_rfl) (by intro t ht; rcases mc ht with rfl | ht; exact ⟨by show 27 ≠ 25; decide, fun _ => by cases hh : L 27 with | false => rfl | true => have := hcl 27 (by show 27 < 30; decide) hh 25 (by decide); rw [hL] at this; cases this⟩; rcases mc ht with rfl | ht; exact ⟨by show 28 ≠ 25; decide, fun h => absurd (show 10 = 9 from h) (by decide)⟩; cases ht) (by intro p hp; rcases mc hp with rfl | hp; exact ⟨⟨fun _ => rfl, fun _ => rfl⟩, fun _ q hq hne hLq => (by rcases mc hq with rfl | hq; exact absurd rfl hne; rcases mc hq with rfl | hq; (obtain ⟨g9, cs9, hx9, _, hr9, _⟩ := hJ.slot 26 (by show 26 < 30; decide) hLq; have hx9 : fx 10 = _ := hx9; show _ ≠ fx 10; rw [hx9]; intro e9; injection e9 with e9; injection e9 with e9; injection e9 with e9; exact absurd e9 (Nat.ne_of_gt hr9.lt)); cases hq)⟩; rcases mc hp with rfl | hp; exact ⟨⟨fun h => absurd (show 26 = 25 from h) (by decide), fun h => absurd (show 10 = 9 from h) (by decide)⟩, fun h => absurd (show 26 = 25 from h) (by decide)⟩; cases hp) ((Below.refl _ _).alloc (Nat.le_refl _) _) ⟨w'.heap.size, _, rfl, hJ.size, aa.new _ _ _, aI.two _ _ _ _, rfl⟩ hg0⟩
            · intro L fx w' hJ hL hp hcl;have hg0 : wr.heap.size <= w'.heap.size := Nat.le_trans (by omega : wr.heap.size <= wr.heap.size) hJ.size;refine aP rfl fun K hK => ?_;go_simp;exact hK _ _ ⟨_, by kernel_rfl, hJ.grow 26 (by show 26 < 30; decide) _ (by kernel_rfl) (by kernel_rfl) (by intro t ht; rcases mc ht with rfl | ht; exact ⟨by show 27 ≠ 26; decide, fun h => absurd (show 9 = 10 from h) (by decide)⟩; rcases mc ht with rfl | ht; exact ⟨by show 28 ≠ 26; decide, fun _ => by cases hh : L 28 with | false => rfl | true => have := hcl 28 (by show 28 < 30; decide) hh 26 (by decide); rw [hL] at this; cases this⟩; cases ht) (by intro p hp; rcases mc hp with rfl | hp; exact ⟨⟨fun h => absurd (show 25 = 26 from h) (by decide), fun h => absurd (show 9 = 10 from h) (by decide)⟩, fun h => absurd (show 25 = 26 from h) (by decide)⟩; rcases mc hp with rfl | hp; exact ⟨⟨fun _ => rfl, fun _ => rfl⟩, fun _ q hq hne hLq => (by rcases mc hq with rfl | hq; (obtain ⟨g9, cs9, hx9, _, hr9, _⟩ := hJ.slot 25 (by show 25 < 30; decide) hLq; have hx9 : fx 9 = _ := hx9; show _ ≠ fx 9; rw [hx9]; intro e9; injection e9 with e9; injection e9 with e9; injection e9 with e9; exact absurd e9 (Nat.ne_of_gt hr9.lt)); rcases mc hq with rfl | hq; exact absurd rfl hne; cases hq)⟩; cases hp) ((Below.refl _ _).alloc (Nat.le_refl _) _) ⟨w'.heap.size, _, rfl, hJ.size, aa.new _ _ _, aI.two _ _ _ _, rfl⟩ hg0⟩
            · intro L fx w' hJ hL hp hcl;have e25 := hJ.slot 25 (by show 25 < 30; decide) (hp 25 (by decide));have e22 := hJ.slot 22 (by show 22 < 30; decide) (hp 22 (by decide));have e22' := e22;obtain ⟨b7, o7, l7, k7, hv0⟩ := aj.parts e22;rw [hv0] at e22';rw [aC (x := fx) (d := 70) (v := (.agg #[.bool b7, .slice o7 l7 k7])) hv0] at hJ ⊢;obtain ⟨g, cs, hx, hgB, hr0, hn0, hl0⟩ := e25;obtain ⟨z0, z1, rfl⟩ : ∃ z0 z1, cs = [z0, z1] := lR hl0;have hf0 := aa.free hr0 0;have hc0 := aa.cell hr0 0;have hf1 := aa.free hr0 1;have hc1 := aa.cell hr0 1;try dsimp only at hf0 hc0 hf1 hc1
              have hx1 := hx;rw [aC (x := (bf fx 70 (.agg #[.bool b7, .slice o7 l7 k7]))) (d := 9) hx] at hJ ⊢;refine aP rfl fun K hK => ?_;go_simp;exact hK _ _ ⟨_, by kernel_rfl, hJ.fg (us := [.bool b7, .slice o7 l7 k7]) 27 9 _ _ (by show 27 < 30; decide) rfl fL (by intro t ht h; rcases mc ht with rfl | ht; rfl; rcases mc ht with rfl | ht; exact absurd (show 28 = 27 from h) (by decide); cases ht) (by intro t ht hne hLt; rcases mc ht with rfl | ht; exact absurd rfl hne; rcases mc ht with rfl | ht; exact hJ.apart (26, 10) iQ (25, 9) fL (by show 26 ≠ 25; decide) (hcl 28 (by show 28 < 30; decide) hLt 26 (by decide)) (hp 25 (by decide)); cases ht) (by kernel_rfl) (by kernel_rfl) (by decide) (by rfl) hgB hr0 hn0 rfl (aI.two _ _ _ _) ⟨_, _, _, _, rfl, e22'⟩ (by omega)⟩
            · intro L fx w' hJ hL hp hcl;have e26 := hJ.slot 26 (by show 26 < 30; decide) (hp 26 (by decide));have e23 := hJ.slot 23 (by show 23 < 30; decide) (hp 23 (by decide));have e23' := e23;obtain ⟨b7, o7, l7, k7, hv0⟩ := aj.parts e23;rw [hv0] at e23';rw [aC (x := fx) (d := 71) (v := (.agg #[.bool b7, .slice o7 l7 k7])) hv0] at hJ ⊢;obtain ⟨g, cs, hx, hgB, hr0, hn0, hl0⟩ := e26;obtain ⟨z0, z1, rfl⟩ : ∃ z0 z1, cs = [z0, z1] := lR hl0;have hf0 := aa.free hr0 0;have hc0 := aa.cell hr0 0;have hf1 := aa.free hr0 1;have hc1 := aa.cell hr0 1;try dsimp only at hf0 hc0 hf1 hc1
              have hx1 := hx;rw [aC (x := (bf fx 71 (.agg #[.bool b7, .slice o7 l7 k7]))) (d := 10) hx] at hJ ⊢;refine aP rfl fun K hK => ?_;go_simp;exact hK _ _ ⟨_, by kernel_rfl, hJ.fg (us := [.bool b7, .slice o7 l7 k7]) 28 10 _ _ (by show 28 < 30; decide) rfl iQ (by intro t ht h; rcases mc ht with rfl | ht; exact absurd (show 27 = 28 from h) (by decide); rcases mc ht with rfl | ht; rfl; cases ht) (by intro t ht hne hLt; rcases mc ht with rfl | ht; exact hJ.apart (25, 9) fL (26, 10) iQ (by show 25 ≠ 26; decide) (hcl 27 (by show 27 < 30; decide) hLt 25 (by decide)) (hp 26 (by decide)); rcases mc ht with rfl | ht; exact absurd rfl hne; cases ht) (by kernel_rfl) (by kernel_rfl) (by decide) (by rfl) hgB hr0 hn0 rfl (aI.two _ _ _ _) ⟨_, _, _, _, rfl, e23'⟩ (by omega)⟩
            · intro L fx w' hJ hL hp hcl;have e24 := hJ.pt 24 72 (.int .i64 0) rfl rfl rfl (hp 24 (by decide));rw [e24] at hJ ⊢; clear e24;refine aP rfl fun K hK => ?_;go_simp;exact hJ.q hK (by kernel_rfl) rfl
          · intro L x' w3 hL hJ;have hfr : Below wr.drew.heap.size wr.drew w3 := hJ.fr;obtain ⟨g9, cs9, hx9, hg9, hr9, b9, o9, l9, k9, hcs9, hI9⟩ := hJ.new _ fL (hL 27 (by show 27 < 30; decide));subst hcs9;have hx9 : x' 9 = _ := hx9;rw [aC (x := x') (d := 9) hx9];have hg9 : wr.heap.size <= g9 := hg9;have G9 : Hid (aa w3 g9 37 [.bool b9, .slice o9 l9 k9]) := hi_ hr9;have I9 : Hid (aj w3 0 (.agg #[.bool b9, .slice o9 l9 k9]) (xi.fdiv xk)) := hi_ hI9;clear hJ hL hx9 hr9 hI9 cb ci ck ci0 ci1 ck0 ck1;have L3 := hi_ (aD.below (w := wr.drew) hL2.out.drew hfr);have C3 := hi_ (hC2.out.drew.below hfr);have R3 := hi_ (aa.below (w := wr.drew) hG2.out hfr hG2.out.lt);clear hL2 hC2 hG2;simp only [pN, Nat.reduceEqDiff, ↓reduceIte];have q0 : w3.cell? ⟨g9, 0, none⟩ = some (.bool b9) := G9.out.cell 0;have q1 : w3.cell? ⟨g9, 1, none⟩ = some (.slice o9 l9 k9) := G9.out.cell 1;go_wp2_with fail
            clear q0 q1;have hqw : ag ((xi.fdiv xk)).natAbs <= B + 2 := ob Hpz.out hwi;refine (iT _ (xi.fdiv xk) _ (aj.int I9.out (by omega))).mono ?_;rintro e w4 ⟨⟨vn, rfl, hn4⟩, hb4⟩;have L4 := hi_ (L3.out.below hb4);have C4 := hi_ (C3.out.below hb4);have R4 := hi_ (R3.out.below hb4 R3.out.lt);have N4 := hi_ (aj.int (L := B + 2) hn4 (by rw [Int.natAbs_neg]; exact hqw));clear hb4 hn4 L3 C3 R3 G9 I9;go_wp2_with fail
            have hlx : R2[ii].xs.length = R2[kk].xs.length := by rw [HF2.out.len _ (List.getElem_mem hiR), HF2.out.len _ (List.getElem_mem hkR)]
            have hlen2 : R2[ii].xs.length <= 4611686018427387903 := by rw [HF2.out.len _ (List.getElem_mem hiR)]; omega
            refine (vj (S.az R2) ii kk vn (-(xi.fdiv xk)) (B + 2) B _ L4.out hiR hkR (by omega) N4.out hlx (fun x hx => by have := HF2.out.fit _ (List.getElem_mem hiR) x hx; omega) (fun y hy => HF2.out.fit _ (List.getElem_mem hkR) y hy) (by omega) hlen2 (HT.out.jz R2) (HT.out.xM HF2.out) (by omega)).mono ?_;rintro e w5 ⟨rfl, hL5, hC5⟩;have hns : ¬ (S.az R2).own gl := fun h => Hso.out ((Hown2.out gl).1 h);have R5 := hi_ (hC5.row R4.out hns);have C5 := hi_ (C4.out.trans (hC5.mono (fun k _ e => (Hown2.out k).1 e)));have L5 := hi_ hL5;have he : gS R2 ii kk (-((aw R2 ii jj).fdiv (aw R2 kk jj))) = iP R2 ii kk (-(xi.fdiv xk)) hiR hkR := by
             rw [fP hiR hjl, fP hkR hjk, Hxi.out, Hxk.out, mg hiR hkR]
            have HE := hi_ he;clear hC5 hL5 L4 C4 R4 N4 he hlx;go_wp2;go_roundw
            case rel =>
             have h3 := HI3.out;rw [HE.out] at h3;exact ⟨kk + 1, _, by omega, by omega, by go_num, hi_ (by unfold iP; rw [aB]; exact hR2.out), h3, L5, R5, C5, hi_ (fun k => (fI (S.az R2) ii _ k).trans (Hown2.out k))⟩
            case measure => simp [intOf]; omega
        · obtain rfl : R2 = R1' := HI2.out.fin (by omega);have hkk : kk = m := by omega
          have Hkk := hi_ hkk; clear hkk;go_wp2;go_roundw
          case rel => exact ⟨ii, R2, by omega, by go_num, hR2, HO', hL2, hG2, hC2, Hown2⟩
          case measure => simp [intOf]
end Go.Proofs.YtjjlmfmoihooiaaGreat
namespace Go.Proofs.YtjjlmfmoihooiaaGreat
def lu (r0 r1 : Nat) (m0 m1 : Int) : Nat × Int :=
 if h : r1 = 0 then (r0, m0) else lu r1 (r0 % r1) m1 (m0 - ((r0 / r1 : Nat) : Int) * m1)
termination_by r1
decreasing_by exact Nat.mod_lt _ (Nat.pos_of_ne_zero h)
theorem wh {A : Nat} {b : Int} : ∀ (r1 r0 : Nat) (m0 m1 : Int), lY A b r0 r1 m0 m1 -> ∃ m', lY A b (lu r0 r1 m0 m1).1 0 (lu r0 r1 m0 m1).2 m' := by
 intro r1;induction r1 using Nat.strongRecOn with
 | _ r1 ih =>
  intro r0 m0 m1 h;by_cases h0 : r1 = 0
  · subst h0; rw [lu]; exact ⟨m1, by simpa using h⟩
  · rw [lu, dif_neg h0];exact ih (r0 % r1) (Nat.mod_lt _ (Nat.pos_of_ne_zero h0)) _ _ _ (h.step h0)
def bH (a b : Int) : Int := if b = 0 then a.natAbs else (lu a.natAbs b.natAbs 1 0).1
def dV (a b : Int) : Int := if b = 0 then a.sign else (if a < 0 then -(lu a.natAbs b.natAbs 1 0).2 else (lu a.natAbs b.natAbs 1 0).2) % (b / bH a b)
def fy (a b : Int) : Int := if b = 0 then 0 else (bH a b - a * dV a b) / b
theorem iE (a b : Int) : eF a b (bH a b) (dV a b) (fy a b) := by
 by_cases hb : b = 0
 · unfold eF bH dV fy; simp [hb]
 · obtain ⟨m', h⟩ := wh _ _ _ _ (lY.start a.natAbs hb);obtain ⟨h1, h2⟩ := h.done hb;have hg : bH a b = ((lu a.natAbs b.natAbs 1 0).1 : Int) := by unfold bH; rw [if_neg hb]
   have h3 := (qS (m := if a < 0 then -(lu a.natAbs b.natAbs 1 0).2 else (lu a.natAbs b.natAbs 1 0).2) hb (hg.trans h1) (by rw [hg]; exact h2)).2.2.2;have hx : dV a b = (if a < 0 then -(lu a.natAbs b.natAbs 1 0).2 else (lu a.natAbs b.natAbs 1 0).2) % (b / bH a b) := by
    unfold dV; rw [if_neg hb]
   have hy : fy a b = (bH a b - a * dV a b) / b := by unfold fy; rw [if_neg hb]
   rw [hy, hx];exact h3
theorem eF.unique {a b g x y g' x' y' : Int} (h : eF a b g x y) (h' : eF a b g' x' y') : g = g' /\ x = x' /\ y = y' := by
 unfold eF at h h';by_cases hb : b = 0
 · rw [if_pos hb] at h h';obtain ⟨h1, h2, h3⟩ := h;obtain ⟨h1', h2', h3'⟩ := h';exact ⟨h1.trans h1'.symm, h2.trans h2'.symm, h3.trans h3'.symm⟩
 · rw [if_neg hb] at h h';obtain ⟨h1, h2, h3, h4⟩ := h;obtain ⟨h1', h2', h3', h4'⟩ := h';have hg : g = g' := h1.trans h1'.symm;subst hg;have hgb : g ∣ b := h1 ▸ Int.gcd_dvd_right ..;have hga : g ∣ a := h1 ▸ Int.gcd_dvd_left ..;obtain ⟨c, hc⟩ := hgb;obtain ⟨e, he⟩ := hga;have hg0 : g ≠ 0 := fun hh => hb (by rw [hc, hh, Int.zero_mul]);have hgp : 0 < g := by rw [h1] at hg0 ⊢; omega
   have k1 : e * x + c * y = 1 := by
    have : g * (e * x + c * y) = g * 1 := by rw [Int.mul_add, <- Int.mul_assoc, <- Int.mul_assoc, <- he, <- hc, h4, Int.mul_one]
    exact Int.eq_of_mul_eq_mul_left hg0 this
   have k2 : e * x' + c * y' = 1 := by
    have : g * (e * x' + c * y') = g * 1 := by rw [Int.mul_add, <- Int.mul_assoc, <- Int.mul_assoc, <- he, <- hc, h4', Int.mul_one]
    exact Int.eq_of_mul_eq_mul_left hg0 this
   have hcb : (b.natAbs : Int) = c.natAbs * g := by
    rw [hc, Int.natAbs_mul, Int.natCast_mul, Int.natAbs_of_nonneg (Int.le_of_lt hgp), Int.mul_comm]
   rw [hcb] at h3 h3';have hx : x < c.natAbs := Int.lt_of_mul_lt_mul_right h3 (Int.le_of_lt hgp);have hx' : x' < c.natAbs := Int.lt_of_mul_lt_mul_right h3' (Int.le_of_lt hgp);have hdv : c ∣ x - x' := by
    have e1 : x - x' = c * (x * y' - x' * y) := by
     have e2 : x * (e * x' + c * y') - x' * (e * x + c * y) = x - x' := by rw [k1, k2]; omega
     rw [<- e2];simp only [Int.mul_add, Int.mul_sub];have e3 : x * (e * x') = x' * (e * x) := by rw [Int.mul_left_comm, Int.mul_left_comm x' e x, Int.mul_comm x x']
     have e4 : x * (c * y') = c * (x * y') := Int.mul_left_comm ..;have e5 : x' * (c * y) = c * (x' * y) := Int.mul_left_comm ..;rw [e3, e4, e5]; omega
    exact ⟨_, e1⟩
   have hxx : x = x' := by
    have hn := Int.natAbs_dvd_natAbs.2 hdv;have hlt : (x - x').natAbs < c.natAbs := by omega
    have := Nat.eq_zero_of_dvd_of_lt hn hlt;omega
   subst hxx;refine ⟨rfl, rfl, ?_⟩;have : b * y = b * y' := by omega
   exact Int.eq_of_mul_eq_mul_left hb this
end Go.Proofs.YtjjlmfmoihooiaaGreat
namespace Go.Proofs.YtjjlmfmoihooiaaGreat
open Go.RowKit
theorem yo (v u : Value) (a b : Int) (w : World) (hA : ai w 4398046511103 v a) (hB : ai w 4398046511103 u b) :
 Calls Tryz.prog 91 #[v, u] w fun e w' => (∃ vg vx vy, e = .returned (.tuple #[vg, vx, vy]) /\ aj w' w.heap.size vg (bH a b) /\ aj w' w.heap.size vx (dV a b) /\ aj w' w.heap.size vy (fy a b)) /\ Below w.heap.size w w' := by
 refine (vE v u a b w hA hB).mono ?_;rintro e w' ⟨⟨g, x, y, vg, vx, vy, rfl, hE, h1, h2, h3⟩, hb⟩;obtain ⟨rfl, rfl, rfl⟩ := hE.unique (iE a b);exact ⟨⟨vg, vx, vy, rfl, h1, h2, h3⟩, hb⟩
theorem uY {x y : Int} {B : Nat} (hy : y ≠ 0) (h : ag y.natAbs <= B) : ag (x.fmod y).natAbs <= B := by
 refine Nat.le_trans (aF ?_) h;have h1 := Int.emod_nonneg x hy;have h2 := Int.emod_lt x hy;rw [Int.fmod_eq_emod];split <;> omega
theorem iY (a b : Int) : bH a b ∣ a /\ bH a b ∣ b /\ (a ≠ 0 -> bH a b ≠ 0) /\ 0 <= bH a b := by
 have h := iE a b;unfold eF at h;by_cases hb : b = 0
 · rw [if_pos hb] at h;rw [h.1, hb];refine ⟨Int.natAbs_dvd.2 (Int.dvd_refl a), Int.dvd_zero _, fun ha => by omega, by omega⟩
 · rw [if_neg hb] at h;rw [h.1];refine ⟨Int.gcd_dvd_left .., Int.gcd_dvd_right .., fun ha h0 => ?_, by omega⟩;have : Int.gcd a b = 0 := by omega
   exact ha (Int.gcd_eq_zero_iff.1 this).1
theorem xX (a b : Int) (hg : bH a b ≠ 0) : dV a b * (a / bH a b) + fy a b * (b / bH a b) = 1 := by
 have h := iE a b;have hd := iY a b;have key : a * dV a b + b * fy a b = bH a b := by
  unfold eF at h;split at h
  · rename_i hb;rw [h.1, h.2.1, h.2.2, hb, Int.zero_mul, Int.add_zero, Int.mul_comm];rcases Int.lt_trichotomy a 0 with e | e | e
    · rw [Int.sign_eq_neg_one_of_neg e]; omega
    · subst e; rfl
    · rw [Int.sign_eq_one_of_pos e]; omega
  · exact h.2.2.2
 have ha : bH a b * (a / bH a b) = a := Int.mul_ediv_cancel' hd.1;have hb : bH a b * (b / bH a b) = b := Int.mul_ediv_cancel' hd.2.1;refine Int.eq_of_mul_eq_mul_left hg ?_;rw [Int.mul_add, Int.mul_left_comm, ha, Int.mul_left_comm, hb, Int.mul_one, Int.mul_comm (dV a b), Int.mul_comm (fy a b)];exact key
theorem pF (a b : Int) : (dV a b).natAbs <= b.natAbs + 1 := by
 have h := iE a b;have hg := iY a b;unfold eF at h;by_cases hb : b = 0
 · rw [if_pos hb] at h;rw [h.2.1];have := Int.natAbs_sign a;rcases Int.lt_trichotomy a 0 with h1 | h1 | h1
   · rw [Int.sign_eq_neg_one_of_neg h1]; simp
   · subst h1; simp
   · rw [Int.sign_eq_one_of_pos h1]; simp
 · rw [if_neg hb] at h;obtain ⟨h1, h2, h3, h4⟩ := h;have hg1 : 1 <= bH a b := by
    have h0 : bH a b ≠ 0 := by
     rw [h1]; intro h0;have : Int.gcd a b = 0 := by omega
     exact hb (Int.gcd_eq_zero_iff.1 this).2
    have := hg.2.2.2;omega
   have : dV a b * 1 <= dV a b * bH a b := Int.mul_le_mul_of_nonneg_left hg1 h2;omega
theorem tD (a b : Int) : (fy a b).natAbs <= a.natAbs + 1 := by
 have h := iE a b;have hx := pF a b;unfold eF at h;by_cases hb : b = 0
 · rw [if_pos hb] at h;rw [h.2.2]; simp
 · rw [if_neg hb] at h;obtain ⟨h1, h2, h3, h4⟩ := h;have hg := (iY a b).2.2.2;have hgb : (bH a b).natAbs <= b.natAbs := by
    rw [h1];simp only [Int.natAbs_natCast];exact Nat.le_of_dvd (by omega) (Int.natAbs_dvd_natAbs.2 (Int.gcd_dvd_right a b) |> fun h => by simpa using h)
   have hg1 : 1 <= bH a b := by
    have h0 : bH a b ≠ 0 := by
     rw [h1]; intro h0;have : Int.gcd a b = 0 := by omega
     exact hb (Int.gcd_eq_zero_iff.1 this).2
    omega
   have hxl : (dV a b).natAbs <= b.natAbs := by
    have : dV a b * 1 <= dV a b * bH a b := Int.mul_le_mul_of_nonneg_left hg1 h2;omega
   have h5 : b * fy a b = bH a b - a * dV a b := by omega
   have h6 : b.natAbs * (fy a b).natAbs <= b.natAbs * (a.natAbs + 1) := by
    rw [<- Int.natAbs_mul, h5];have h7 : (bH a b - a * dV a b).natAbs <= (bH a b).natAbs + (a * dV a b).natAbs := Int.natAbs_sub_le ..;have h8 : (a * dV a b).natAbs <= a.natAbs * b.natAbs := by rw [Int.natAbs_mul]; exact Nat.mul_le_mul_left _ hxl
    rw [Nat.mul_add, Nat.mul_one, Nat.mul_comm b.natAbs a.natAbs];omega
   exact Nat.le_of_mul_le_mul_left h6 (by omega)
theorem oz {n m B : Nat} (h : n <= m + 1) (hm : ag m <= B) : ag n <= B + 2 := by
 have h3 := aF h;have h4 := mY m 1;have h5 : ag 1 <= 1 := au (by decide);have h6 : max (ag m) (ag 1) <= B + 1 := Nat.max_le.2 ⟨by omega, by omega⟩;omega
def kN (R : List Hd) (i j : Nat) (a b c d : Int) : List Hd := if h : i < R.length /\ j < R.length then kd R i j a b c d h.1 h.2 else R
theorem tJ {R : List Hd} {i j : Nat} {a b c d : Int} (hi : i < R.length) (hj : j < R.length) : kN R i j a b c d = kd R i j a b c d hi hj := by unfold kN; rw [dif_pos ⟨hi, hj⟩]
def bb (R : List Hd) (k n j : Nat) : List Hd := gS R n k (-((aw R n j).fdiv (aw R k j)))
def dA (R : List Hd) (k n j : Nat) : List Hd :=
 if (aw R n j).fmod (aw R k j) = 0 then bb R k n j
 else kN (bb R k n j) k n (dV (aw (bb R k n j) k j) (aw (bb R k n j) n j)) (fy (aw (bb R k n j) k j) (aw (bb R k n j) n j))
  (-(aw (bb R k n j) n j / bH (aw (bb R k n j) k j) (aw (bb R k n j) n j))) (aw (bb R k n j) k j / bH (aw (bb R k n j) k j) (aw (bb R k n j) n j))
def AV.int4 (B : Nat) (a b c d : Int) : AV := AV.free (fun w v => ∃ p q r s : P4, v = .agg #[.bool p.1, .slice p.2.1 p.2.2.1 p.2.2.2, .bool q.1, .slice q.2.1 q.2.2.1 q.2.2.2, .bool r.1, .slice r.2.1 r.2.2.1 r.2.2.2, .bool s.1, .slice s.2.1 s.2.2.1 s.2.2.2] /\ aj w B (av p) a /\ aj w B (av q) b /\ aj w B (av r) c /\ aj w B (av s) d) (fun ⟨p, q, r, s, e, h1, h2, h3, h4⟩ hb => ⟨p, q, r, s, e, aj.below h1 hb, aj.below h2 hb, aj.below h3 hb, aj.below h4 hb⟩) (fun ⟨p, q, r, s, e, h1, h2, h3, h4⟩ hr _ ht k u _ => ⟨p, q, r, s, e, aj.setRow h1 hr ht k u, aj.setRow h2 hr ht k u, aj.setRow h3 hr ht k u, aj.setRow h4 hr ht k u⟩)
theorem aa.ownBlock {w : World} {g : Nat} {t : TypeId} {cs : List Value} (h : aa w g t cs) {g' : Nat} {cur : Array Value} (hg : w.heap[g']? = some (.cells cur 60 (0, 0))) (ht : t ≠ 60) : g' ≠ g := by
 rintro rfl;unfold aa at h;rw [hg] at h;simp only [Option.some.injEq, Obj.cells.injEq] at h;exact ht h.2.1.symm
theorem ed.typed {w : World} {S : ct} (h : ed w S) : ∀ g, S.rws g -> ∃ t cs, aa w g t cs /\ t ≠ 60 := by
 intro g hg;rcases hg with rfl | ⟨r, hr, rfl⟩
 · obtain ⟨tl, n, ho⟩ := h.dJ.out; exact ⟨_, _, ho, by decide⟩
 · obtain ⟨ps, tl, nt, hp, _⟩ := h.dJ.row r hr;exact ⟨_, _, hp, by decide⟩
theorem aD.wV {w : World} {S : ct} (h : aD w S) : ∀ g, S.own g -> ∃ t cs, aa w g t cs /\ t ≠ 60 := by
 rintro g (e | ⟨t, ht, e⟩)
 · exact h.sd.typed g e
 · obtain ⟨V, hV⟩ := h.ext t ht;exact hV.sd.typed g ((hV.own g).1 e)
theorem aN.ownI {S : Nat -> Prop} {w w' : World} (h : aN S w w') (hS : ∀ g, S g -> ∃ t cs, aa w g t cs /\ t ≠ 60) {B : Nat} {v : Value} {x : Int} (hx : aj w B v x) : aj w' B v x := by
 obtain ⟨ao, cap, rfl, h1, h2, h3, h4⟩ := hx;refine ⟨ao, cap, rfl, h1, h2, h3, ?_⟩;rcases h4 with h0 | ⟨g, c, cur, hv, hbb, hg, r⟩
 · exact .inl h0
 · refine .inr ⟨g, c, cur, hv, hbb, ?_, r⟩;rw [h.block g (Array.getElem?_eq_some_iff.1 hg).1 (fun hs => by obtain ⟨t, cs, hr, ht⟩ := hS g hs; exact hr.ownBlock hg ht rfl)];exact hg
theorem AY (S : ct) (k n j B c : Nat) (w : World) (h : aD w S) (hk : k < S.R.length) (hn : n < S.R.length) (hkn : k ≠ n) (hj : j < c) (hB : B <= 4000000000000) (hF : Fit B c S.R) (hF1 : Fit B c (bb S.R k n j)) (hp : aw S.R k j ≠ 0) (hp1 : aw (bb S.R k n j) k j ≠ 0) (hR : S.R.length <= 1000000) (hc : c <= 1000000) (hT : S.sat B c) :
 Calls Tryz.prog 118 #[.pointer (some ⟨S.lb, 0, none⟩), .int .i64 (k : Int), .int .i64 (n : Int), .int .i64 (j : Int)] w fun e w' => e = .returned (.tuple #[]) /\ aD w' (S.az (dA S.R k n j)) /\ aN S.own w w' := by
 have HL := hi_ h; clear h;have HF := hi_ hF; clear hF;have HF1 := hi_ hF1; clear hF1;have HP := hi_ hp; clear hp;have HP1 := hi_ hp1; clear hp1;have HT := hi_ hT; clear hT;go_enter Tryz.func118, Tryz.ntmps118;have cb : w.cell? ⟨S.lb, 0, none⟩ = some (.slice (some ⟨S.o, 0, none⟩) S.R.length S.cap) := HL.out.lad.cell 0;have ci : w.cell? ⟨S.o, n, none⟩ = some (.slice (some ⟨S.R[n].blk, 0, none⟩) S.R[n].xs.length S.R[n].cap) := HL.out.dJ.cF (i := n) hn;have ck : w.cell? ⟨S.o, k, none⟩ = some (.slice (some ⟨S.R[k].blk, 0, none⟩) S.R[k].xs.length S.R[k].cap) := HL.out.dJ.cF (i := k) hk;have hXi := HL.out.dJ.row _ (List.getElem_mem (l := S.R) hn);have hXk := HL.out.dJ.row _ (List.getElem_mem (l := S.R) hk);have hjl : j < S.R[n].xs.length := by rw [HF.out.len _ (List.getElem_mem hn)]; exact hj
 have hjk : j < S.R[k].xs.length := by rw [HF.out.len _ (List.getElem_mem hk)]; exact hj
 have hjl1 : (j : Int) < (S.R[n].xs.length : Int) := by omega
 have hjk1 : (j : Int) < (S.R[k].xs.length : Int) := by omega
 have hi1 : (n : Int) < (S.R.length : Int) := by omega
 have hk1 : (k : Int) < (S.R.length : Int) := by omega
 obtain ⟨pi, ci0, ci1, hni⟩ := hXi.get hjl;obtain ⟨pk, ck0, ck1, hnk⟩ := hXk.get hjk;have hwi : ag (S.R[n].xs[j]).natAbs <= B := HF.out.fit _ (List.getElem_mem hn) _ (List.getElem_mem hjl);have hwk : ag (S.R[k].xs[j]).natAbs <= B := HF.out.fit _ (List.getElem_mem hk) _ (List.getElem_mem hjk);obtain ⟨xi, hxi⟩ : ∃ xi, S.R[n].xs[j] = xi := ⟨_, rfl⟩;obtain ⟨xk, hxk⟩ : ∃ xk, S.R[k].xs[j] = xk := ⟨_, rfl⟩;rw [hxi] at hni hwi;rw [hxk] at hnk hwk;have Hxi := hi_ ((fP hn hjl).trans hxi); clear hxi;have Hxk := hi_ ((fP hk hjk).trans hxk); clear hxk;have sb1 := hXi.lt;have sb2 := hXk.lt;have sb3 : S.lb < w.heap.size := HL.out.lad.lt;have sb4 : S.o < w.heap.size := HL.out.dJ.out.lt;clear hXi hXk;have hpz : xk ≠ 0 := by have := HP.out; rw [Hxk.out] at this; exact this
 have Hpz := hi_ hpz; clear hpz;have Hni := hi_ (hni.int (L := 17592186044415) (by omega));have Hnk := hi_ (hnk.int (L := 17592186044415) (by omega));clear hni hnk;go_wp2;refine er ⟨30, fun q_ => [21, 22, 23, 24, 25, 26, 27, 28, 29, 30, 31, 32, 33, 34, 35, 36, 37, 38, 39, 40, 41, 20, 42, 43, 44, 8, 9, 1027, 1028, 10].getD q_ 0,
  fun q_ => [.val (.pointer (some ⟨S.lb, 0, none⟩)), .val (.pointer (some ⟨S.lb, 0, none⟩)), .val (.pointer (some ⟨S.lb, 0, none⟩)), .val (.slice (some ⟨S.o, 0, none⟩) S.R.length S.cap), .val (.int .i64 (n : Int)), .val (.pointer (some ⟨S.o, n, none⟩)), .val (.slice (some ⟨S.R[n].blk, 0, none⟩) S.R[n].xs.length S.R[n].cap), .val (.int .i64 (j : Int)), .val (.pointer (some ⟨S.R[n].blk, j * 2, none⟩)), .val (.agg #[.bool pi.1, .slice pi.2.1 pi.2.2.1 pi.2.2.2]), .val (.pointer (some ⟨S.lb, 0, none⟩)), .val (.pointer (some ⟨S.lb, 0, none⟩)), .val (.pointer (some ⟨S.lb, 0, none⟩)), .val (.slice (some ⟨S.o, 0, none⟩) S.R.length S.cap), .val (.int .i64 (k : Int)), .val (.pointer (some ⟨S.o, k, none⟩)), .val (.slice (some ⟨S.R[k].blk, 0, none⟩) S.R[k].xs.length S.R[k].cap), .val (.int .i64 (j : Int)), .val (.pointer (some ⟨S.R[k].blk, j * 2, none⟩)), .val (.agg #[.bool pk.1, .slice pk.2.1 pk.2.2.1 pk.2.2.2]), .yG 0 (xi.fdiv xk) (xi.fmod xk), .yG 0 (xi.fdiv xk) (xi.fmod xk), .int 0 (xi.fdiv xk), .int 0 (xi.fmod xk), .val (.int .i64 0), .ptr w.heap.size 37 2, .ptr w.heap.size 37 2, .any, .any, .val (.int .i64 0)].getD q_ .any,
  [],
  [(.agg #[.bool pi.1, .slice pi.2.1 pi.2.2.1 pi.2.2.2], .at_ 17592186044415 xi), (.agg #[.bool pk.1, .slice pk.2.1 pk.2.2.1 pk.2.2.2], .at_ 17592186044415 xk)],
  [],
  [(27, 8, 37, .int 0 (xi.fdiv xk)), (28, 9, 37, .int 0 (xi.fmod xk))], [(⟨S.lb, 0, none⟩, .slice (some ⟨S.o, 0, none⟩) S.R.length S.cap), (⟨S.o, n, none⟩, .slice (some ⟨S.R[n].blk, 0, none⟩) S.R[n].xs.length S.R[n].cap), (⟨S.o, k, none⟩, .slice (some ⟨S.R[k].blk, 0, none⟩) S.R[k].xs.length S.R[k].cap), (⟨S.R[n].blk, j * 2, none⟩, .bool pi.1), (⟨S.R[n].blk, j * 2 + 1, none⟩, .slice pi.2.1 pi.2.2.1 pi.2.2.2), (⟨S.R[k].blk, j * 2, none⟩, .bool pk.1), (⟨S.R[k].blk, j * 2 + 1, none⟩, .slice pk.2.1 pk.2.2.1 pk.2.2.2)], [(25, 8), (26, 9)]⟩ [21, 22, 23, 24, 25, 26, 27, 28, 29, 30, 31, 32, 33, 34, 35, 36, 37, 38, 39, 40, 41, 20, 42, 43, 44, 8, 9, 10] (w.heap.size) (by kernel_rfl) (by kernel_rfl) (by kernel_rfl) (by kernel_rfl) ?_ ?_ ?_ ?_ ?_ ?_
 · exact bD (Hni.out) (bD (Hnk.out) aX)
 · exact aX
 · exact bD (⟨cb, by dsimp only; omega, aX⟩) (bD (⟨ci, by dsimp only; omega, aX⟩) (bD (⟨ck, by dsimp only; omega, aX⟩) (bD (⟨ci0, by dsimp only; omega, aX⟩) (bD (⟨ci1, by dsimp only; omega, aX⟩) (bD (⟨ck0, by dsimp only; omega, aX⟩) (bD (⟨ck1, by dsimp only; omega, aX⟩) aX))))))
 · exact aX
 · refine ak ?_ (ak ?_ (ak ?_ (ak ?_ (ak ?_ (ak ?_ (ak ?_ (ak ?_ (ak ?_ (ak ?_ (ak ?_ (ak ?_ (ak ?_ (ak ?_ (ak ?_ (ak ?_ (ak ?_ (ak ?_ (ak ?_ (ak ?_ (ak ?_ (ak ?_ (ak ?_ (ak ?_ (ak ?_ (ak ?_ (ak ?_ (ak ?_ (ak ?_ (ak ?_ kj)))))))))))))))))))))))))))));any_goals (first | (intro L fx w' hJ hL hp hcl; have _ := sr hp (by decide +kernel); refine aP rfl fun K hK => ?_; go_simp; exact hJ.q hK (by kernel_rfl) rfl) | fail)
   · intro L fx w' hJ hL hp hcl;have e0 := hJ.pt 0 21 (.pointer (some ⟨S.lb, 0, none⟩)) rfl rfl rfl (hp 0 (by decide));rw [e0] at hJ ⊢; clear e0;refine aP rfl fun K hK => ?_;go_simp;exact hJ.q hK (by kernel_rfl) rfl
   · intro L fx w' hJ hL hp hcl;have e1 := hJ.pt 1 22 (.pointer (some ⟨S.lb, 0, none⟩)) rfl rfl rfl (hp 1 (by decide));rw [e1] at hJ ⊢; clear e1;refine aP rfl fun K hK => ?_;go_simp;exact hJ.q hK (by kernel_rfl) rfl
   · intro L fx w' hJ hL hp hcl;have e2 := hJ.pt 2 23 (.pointer (some ⟨S.lb, 0, none⟩)) rfl rfl rfl (hp 2 (by decide));rw [e2] at hJ ⊢; clear e2;refine aP rfl fun K hK => ?_;have cl0 := (hJ.cells _ fL).1;try dsimp only at cl0
     go_simp;exact hJ.q hK (by kernel_rfl) rfl
   · intro L fx w' hJ hL hp hcl;have e3 := hJ.pt 3 24 (.slice (some ⟨S.o, 0, none⟩) S.R.length S.cap) rfl rfl rfl (hp 3 (by decide));rw [e3] at hJ ⊢; clear e3;have e4 := hJ.pt 4 25 (.int .i64 (n : Int)) rfl rfl rfl (hp 4 (by decide));rw [e4] at hJ ⊢; clear e4;refine aP rfl fun K hK => ?_;go_simp;exact hJ.q hK (by kernel_rfl) rfl
   · intro L fx w' hJ hL hp hcl;have e5 := hJ.pt 5 26 (.pointer (some ⟨S.o, n, none⟩)) rfl rfl rfl (hp 5 (by decide));rw [e5] at hJ ⊢; clear e5;refine aP rfl fun K hK => ?_;have cl0 := (hJ.cells _ iQ).1;try dsimp only at cl0
     go_simp;exact hJ.q hK (by kernel_rfl) rfl
   · intro L fx w' hJ hL hp hcl;have e6 := hJ.pt 6 27 (.slice (some ⟨S.R[n].blk, 0, none⟩) S.R[n].xs.length S.R[n].cap) rfl rfl rfl (hp 6 (by decide));rw [e6] at hJ ⊢; clear e6;have e7 := hJ.pt 7 28 (.int .i64 (j : Int)) rfl rfl rfl (hp 7 (by decide));rw [e7] at hJ ⊢; clear e7;refine aP rfl fun K hK => ?_;go_simp;exact hJ.q hK (by kernel_rfl) rfl
   · intro L fx w' hJ hL hp hcl;have e8 := hJ.pt 8 29 (.pointer (some ⟨S.R[n].blk, j * 2, none⟩)) rfl rfl rfl (hp 8 (by decide));rw [e8] at hJ ⊢; clear e8;refine aP rfl fun K hK => ?_;have cl0 := (hJ.cells _ vf).1;have cl1 := (hJ.cells _ mm4).1;try dsimp only at cl0 cl1
     go_simp;exact hJ.q hK (by kernel_rfl) rfl
   · intro L fx w' hJ hL hp hcl;have e10 := hJ.pt 10 31 (.pointer (some ⟨S.lb, 0, none⟩)) rfl rfl rfl (hp 10 (by decide));rw [e10] at hJ ⊢; clear e10;refine aP rfl fun K hK => ?_;go_simp;exact hJ.q hK (by kernel_rfl) rfl
   · intro L fx w' hJ hL hp hcl;have e11 := hJ.pt 11 32 (.pointer (some ⟨S.lb, 0, none⟩)) rfl rfl rfl (hp 11 (by decide));rw [e11] at hJ ⊢; clear e11;refine aP rfl fun K hK => ?_;go_simp;exact hJ.q hK (by kernel_rfl) rfl
   · intro L fx w' hJ hL hp hcl;have e12 := hJ.pt 12 33 (.pointer (some ⟨S.lb, 0, none⟩)) rfl rfl rfl (hp 12 (by decide));rw [e12] at hJ ⊢; clear e12;refine aP rfl fun K hK => ?_;have cl0 := (hJ.cells _ fL).1;try dsimp only at cl0
     go_simp;exact hJ.q hK (by kernel_rfl) rfl
   · intro L fx w' hJ hL hp hcl;have e13 := hJ.pt 13 34 (.slice (some ⟨S.o, 0, none⟩) S.R.length S.cap) rfl rfl rfl (hp 13 (by decide));rw [e13] at hJ ⊢; clear e13;have e14 := hJ.pt 14 35 (.int .i64 (k : Int)) rfl rfl rfl (hp 14 (by decide));rw [e14] at hJ ⊢; clear e14;refine aP rfl fun K hK => ?_;go_simp;exact hJ.q hK (by kernel_rfl) rfl
   · intro L fx w' hJ hL hp hcl;have e15 := hJ.pt 15 36 (.pointer (some ⟨S.o, k, none⟩)) rfl rfl rfl (hp 15 (by decide));rw [e15] at hJ ⊢; clear e15;refine aP rfl fun K hK => ?_;have cl0 := (hJ.cells _ qc).1;try dsimp only at cl0
     go_simp;exact hJ.q hK (by kernel_rfl) rfl
   · intro L fx w' hJ hL hp hcl;have e16 := hJ.pt 16 37 (.slice (some ⟨S.R[k].blk, 0, none⟩) S.R[k].xs.length S.R[k].cap) rfl rfl rfl (hp 16 (by decide));rw [e16] at hJ ⊢; clear e16;have e17 := hJ.pt 17 38 (.int .i64 (j : Int)) rfl rfl rfl (hp 17 (by decide));rw [e17] at hJ ⊢; clear e17;refine aP rfl fun K hK => ?_;go_simp;exact hJ.q hK (by kernel_rfl) rfl
   · intro L fx w' hJ hL hp hcl;have e18 := hJ.pt 18 39 (.pointer (some ⟨S.R[k].blk, j * 2, none⟩)) rfl rfl rfl (hp 18 (by decide));rw [e18] at hJ ⊢; clear e18;refine aP rfl fun K hK => ?_;have cl0 := (hJ.cells _ mm5).1;have cl1 := (hJ.cells _ mm6).1;try dsimp only at cl0 cl1
     go_simp;exact hJ.q hK (by kernel_rfl) rfl
   · intro L fx w' hJ hL hp hcl;have e9 := hJ.pt 9 30 (.agg #[.bool pi.1, .slice pi.2.1 pi.2.2.1 pi.2.2.2]) rfl rfl rfl (hp 9 (by decide));rw [e9] at hJ ⊢; clear e9;have e19 := hJ.pt 19 40 (.agg #[.bool pk.1, .slice pk.2.1 pk.2.2.1 pk.2.2.2]) rfl rfl rfl (hp 19 (by decide));rw [e19] at hJ ⊢; clear e19;refine aP rfl fun K hK => ?_;go_simp;go_at_call 93;refine (nD _ _ xi xk _ (show ai w' _ _ _ from hJ.base _ fL) (show ai w' _ _ _ from hJ.base _ iQ) Hpz.out).mono ?_;rintro e w4 ⟨⟨v5, v6, rfl, h5, h6⟩, hb4⟩;try dsimp only
     exact hK _ _ ⟨_, by kernel_rfl, hJ.gC 20 rfl (by kernel_rfl) hb4 ⟨_, _, rfl, aj.mono h5 (Nat.zero_le _), aj.mono h6 (Nat.zero_le _)⟩ (by omega)⟩
   · intro L fx w' hJ hL hp hcl;have e20 := hJ.slot 20 (by show 20 < 30; decide) (hp 20 (by decide));refine aP rfl fun K hK => ?_;go_simp;exact hJ.q hK (by kernel_rfl) e20
   · intro L fx w' hJ hL hp hcl;have e21 := hJ.slot 21 (by show 21 < 30; decide) (hp 21 (by decide));obtain ⟨vq, vr, hvt, hq1, hr1⟩ := e21;rw [aC (x := fx) (d := 20) (v := (.tuple #[vq, vr, .int .i64 0])) hvt] at hJ ⊢;refine aP rfl fun K hK => ?_;go_simp;exact hJ.q hK (by kernel_rfl) hq1
   · intro L fx w' hJ hL hp hcl;have e21 := hJ.slot 21 (by show 21 < 30; decide) (hp 21 (by decide));obtain ⟨vq, vr, hvt, hq1, hr1⟩ := e21;rw [aC (x := fx) (d := 20) (v := (.tuple #[vq, vr, .int .i64 0])) hvt] at hJ ⊢;refine aP rfl fun K hK => ?_;go_simp;exact hJ.q hK (by kernel_rfl) hr1
   · intro L fx w' hJ hL hp hcl;have e21 := hJ.slot 21 (by show 21 < 30; decide) (hp 21 (by decide));obtain ⟨vq, vr, hvt, hq1, hr1⟩ := e21;rw [aC (x := fx) (d := 20) (v := (.tuple #[vq, vr, .int .i64 0])) hvt] at hJ ⊢;refine aP rfl fun K hK => ?_;go_simp;exact hJ.q hK (by kernel_rfl) rfl
   · intro L fx w' hJ hL hp hcl;have hg0 : w.heap.size <= w'.heap.size := Nat.le_trans (by omega : w.heap.size <= w.heap.size) hJ.size;refine aP rfl fun K hK => ?_;go_simp;exact hK _ _ ⟨_, by kernel_rfl, hJ.grow 25 (by show 25 < 30; decide) _ (by kernel_rfl) (by kernel_rfl) (by intro t ht; rcases mc ht with rfl | ht; exact ⟨by show 27 ≠ 25; decide, fun _ => by cases hh : L 27 with | false => rfl | true => have := hcl 27 (by show 27 < 30; decide) hh 25 (by decide); rw [hL] at this; cases this⟩; rcases mc ht with rfl | ht; exact ⟨by show 28 ≠ 25; decide, fun h => absurd (show 9 = 8 from h) (by decide)⟩; cases ht) (by intro p hp; rcases mc hp with rfl | hp; exact ⟨⟨fun _ => rfl, fun _ => rfl⟩, fun _ q hq hne hLq => (by rcases mc hq with rfl | hq; exact absurd rfl hne; rcases mc hq with rfl | hq; (obtain ⟨g9, cs9, hx9, _, hr9, _⟩ := hJ.slot 26 (by show 26 < 30; decide) hLq; have hx9 : fx 9 = _ := hx9; show _ ≠ fx 9; rw [hx9]; intro e9; injection e9 with e9; injection e9 with e9; injection e9 with e9; exact absurd e9 (Nat.ne_of_gt hr9.lt)); cases hq)⟩; rcases mc hp with rfl | hp; exact ⟨⟨fun h => absurd (show 26 = 25 from h) (by decide), fun h => absurd (show 9 = 8 from h) (by decide)⟩, fun h => absurd (show 26 = 25 from h) (by decide)⟩; cases hp) ((Below.refl _ _).alloc (Nat.le_refl _) _) ⟨w'.heap.size, _, rfl, hJ.size, aa.new _ _ _, aI.two _ _ _ _, rfl⟩ hg0⟩
   · intro L fx w' hJ hL hp hcl;have hg0 : w.heap.size <= w'.heap.size := Nat.le_trans (by omega : w.heap.size <= w.heap.size) hJ.size;refine aP rfl fun K hK => ?_;go_simp;exact hK _ _ ⟨_, by kernel_rfl, hJ.grow 26 (by show 26 < 30; decide) _ (by kernel_rfl) (by kernel_rfl) (by intro t ht; rcases mc ht with rfl | ht; exact ⟨by show 27 ≠ 26; decide, fun h => absurd (show 8 = 9 from h) (by decide)⟩; rcases mc ht with rfl | ht; exact ⟨by show 28 ≠ 26; decide, fun _ => by cases hh : L 28 with | false => rfl | true => have := hcl 28 (by show 28 < 30; decide) hh 26 (by decide); rw [hL] at this; cases this⟩; cases ht) (by intro p hp; rcases mc hp with rfl | hp; exact ⟨⟨fun h => absurd (show 25 = 26 from h) (by decide), fun h => absurd (show 8 = 9 from h) (by decide)⟩, fun h => absurd (show 25 = 26 from h) (by decide)⟩; rcases mc hp with rfl | hp; exact ⟨⟨fun _ => rfl, fun _ => rfl⟩, fun _ q hq hne hLq => (by rcases mc hq with rfl | hq; (obtain ⟨g9, cs9, hx9, _, hr9, _⟩ := hJ.slot 25 (by show 25 < 30; decide) hLq; have hx9 : fx 8 = _ := hx9; show _ ≠ fx 8; rw [hx9]; intro e9; injection e9 with e9; injection e9 with e9; injection e9 with e9; exact absurd e9 (Nat.ne_of_gt hr9.lt)); rcases mc hq with rfl | hq; exact absurd rfl hne; cases hq)⟩; cases hp) ((Below.refl _ _).alloc (Nat.le_refl _) _) ⟨w'.heap.size, _, rfl, hJ.size, aa.new _ _ _, aI.two _ _ _ _, rfl⟩ hg0⟩
   · intro L fx w' hJ hL hp hcl;have e25 := hJ.slot 25 (by show 25 < 30; decide) (hp 25 (by decide));have e22 := hJ.slot 22 (by show 22 < 30; decide) (hp 22 (by decide));have e22' := e22;obtain ⟨b7, o7, l7, k7, hv0⟩ := aj.parts e22;rw [hv0] at e22';rw [aC (x := fx) (d := 42) (v := (.agg #[.bool b7, .slice o7 l7 k7])) hv0] at hJ ⊢;obtain ⟨g, cs, hx, hgB, hr0, hn0, hl0⟩ := e25;obtain ⟨z0, z1, rfl⟩ : ∃ z0 z1, cs = [z0, z1] := lR hl0;have hf0 := aa.free hr0 0;have hc0 := aa.cell hr0 0;have hf1 := aa.free hr0 1;have hc1 := aa.cell hr0 1;try dsimp only at hf0 hc0 hf1 hc1
     have hx1 := hx;rw [aC (x := (bf fx 42 (.agg #[.bool b7, .slice o7 l7 k7]))) (d := 8) hx] at hJ ⊢;refine aP rfl fun K hK => ?_;go_simp;exact hK _ _ ⟨_, by kernel_rfl, hJ.fg (us := [.bool b7, .slice o7 l7 k7]) 27 8 _ _ (by show 27 < 30; decide) rfl fL (by intro t ht h; rcases mc ht with rfl | ht; rfl; rcases mc ht with rfl | ht; exact absurd (show 28 = 27 from h) (by decide); cases ht) (by intro t ht hne hLt; rcases mc ht with rfl | ht; exact absurd rfl hne; rcases mc ht with rfl | ht; exact hJ.apart (26, 9) iQ (25, 8) fL (by show 26 ≠ 25; decide) (hcl 28 (by show 28 < 30; decide) hLt 26 (by decide)) (hp 25 (by decide)); cases ht) (by kernel_rfl) (by kernel_rfl) (by decide) (by rfl) hgB hr0 hn0 rfl (aI.two _ _ _ _) ⟨_, _, _, _, rfl, e22'⟩ (by omega)⟩
   · intro L fx w' hJ hL hp hcl;have e26 := hJ.slot 26 (by show 26 < 30; decide) (hp 26 (by decide));have e23 := hJ.slot 23 (by show 23 < 30; decide) (hp 23 (by decide));have e23' := e23;obtain ⟨b7, o7, l7, k7, hv0⟩ := aj.parts e23;rw [hv0] at e23';rw [aC (x := fx) (d := 43) (v := (.agg #[.bool b7, .slice o7 l7 k7])) hv0] at hJ ⊢;obtain ⟨g, cs, hx, hgB, hr0, hn0, hl0⟩ := e26;obtain ⟨z0, z1, rfl⟩ : ∃ z0 z1, cs = [z0, z1] := lR hl0;have hf0 := aa.free hr0 0;have hc0 := aa.cell hr0 0;have hf1 := aa.free hr0 1;have hc1 := aa.cell hr0 1;try dsimp only at hf0 hc0 hf1 hc1
     have hx1 := hx;rw [aC (x := (bf fx 43 (.agg #[.bool b7, .slice o7 l7 k7]))) (d := 9) hx] at hJ ⊢;refine aP rfl fun K hK => ?_;go_simp;exact hK _ _ ⟨_, by kernel_rfl, hJ.fg (us := [.bool b7, .slice o7 l7 k7]) 28 9 _ _ (by show 28 < 30; decide) rfl iQ (by intro t ht h; rcases mc ht with rfl | ht; exact absurd (show 27 = 28 from h) (by decide); rcases mc ht with rfl | ht; rfl; cases ht) (by intro t ht hne hLt; rcases mc ht with rfl | ht; exact hJ.apart (25, 8) fL (26, 9) iQ (by show 25 ≠ 26; decide) (hcl 27 (by show 27 < 30; decide) hLt 25 (by decide)) (hp 26 (by decide)); rcases mc ht with rfl | ht; exact absurd rfl hne; cases ht) (by kernel_rfl) (by kernel_rfl) (by decide) (by rfl) hgB hr0 hn0 rfl (aI.two _ _ _ _) ⟨_, _, _, _, rfl, e23'⟩ (by omega)⟩
   · intro L fx w' hJ hL hp hcl;have e24 := hJ.pt 24 44 (.int .i64 0) rfl rfl rfl (hp 24 (by decide));rw [e24] at hJ ⊢; clear e24;refine aP rfl fun K hK => ?_;go_simp;exact hJ.q hK (by kernel_rfl) rfl
 · intro L x' w3 hL hJ;have hfr : Below w.drew.heap.size w.drew w3 := hJ.fr;obtain ⟨g8, cs8, hx8, hg8, hr8, b8, o8, l8, k8, hcs8, hI8⟩ := hJ.new _ fL (hL 27 (by show 27 < 30; decide));obtain ⟨g9, cs9, hx9, hg9, hr9, b9, o9, l9, k9, hcs9, hI9⟩ := hJ.new _ iQ (hL 28 (by show 28 < 30; decide));subst hcs8;subst hcs9;have hx8 : x' 8 = _ := hx8;have hx9 : x' 9 = _ := hx9;rw [aC (x := x') (d := 8) hx8];rw [aC (x := bf x' 8 (.pointer (some ⟨g8, 0, none⟩))) (d := 9) (v := .pointer (some ⟨g9, 0, none⟩)) hx9];have hg8 : w.heap.size <= g8 := hg8;have hg9 : w.heap.size <= g9 := hg9;have G8 : Hid (aa w3 g8 37 [.bool b8, .slice o8 l8 k8]) := hi_ hr8;have G9 : Hid (aa w3 g9 37 [.bool b9, .slice o9 l9 k9]) := hi_ hr9;have I8 : Hid (aj w3 0 (.agg #[.bool b8, .slice o8 l8 k8]) (xi.fdiv xk)) := hi_ hI8;have I9 : Hid (aj w3 0 (.agg #[.bool b9, .slice o9 l9 k9]) (xi.fmod xk)) := hi_ hI9;clear hJ hL hx8 hx9 hr8 hr9 hI8 hI9 cb ci ck ci0 ci1 ck0 ck1;have L3 := hi_ (aD.below (w := w.drew) HL.out.drew hfr);have C3 := hi_ ((aN.refl S.own w).drew.below hfr);simp only [pN, Nat.reduceEqDiff, ↓reduceIte];have q0 : w3.cell? ⟨g8, 0, none⟩ = some (.bool b8) := G8.out.cell 0;have q1 : w3.cell? ⟨g8, 1, none⟩ = some (.slice o8 l8 k8) := G8.out.cell 1;go_wp2_with fail
   clear q0 q1;have hqw : ag ((xi.fdiv xk)).natAbs <= B + 2 := ob Hpz.out hwi;refine (iT _ (xi.fdiv xk) _ (aj.int I8.out (by omega))).mono ?_;rintro e w4 ⟨⟨vn, rfl, hn4⟩, hb4⟩;have L4 := hi_ (L3.out.below hb4);have C4 := hi_ (C3.out.below hb4);have G4 := hi_ (G9.out.below hb4 G9.out.lt);have I4 := hi_ (I9.out.below hb4);have N4 := hi_ (aj.int (L := B + 2) hn4 (by rw [Int.natAbs_neg]; exact hqw));clear hb4 hn4 L3 C3 G9 I9 G8 I8;go_wp2_with fail
   have hlx : S.R[n].xs.length = S.R[k].xs.length := by rw [HF.out.len _ (List.getElem_mem hn), HF.out.len _ (List.getElem_mem hk)]
   have hlen2 : S.R[n].xs.length <= 4611686018427387903 := by rw [HF.out.len _ (List.getElem_mem hn)]; omega
   refine (vj S n k vn (-(xi.fdiv xk)) (B + 2) B _ L4.out hn hk (fun e => hkn e.symm) N4.out hlx (fun x hx => by have := HF.out.fit _ (List.getElem_mem hn) x hx; omega) (fun y hy => HF.out.fit _ (List.getElem_mem hk) y hy) (by omega) hlen2 (HT.out.jz S.R) (HT.out.xM HF.out) (by omega)).mono ?_;rintro e w5 ⟨rfl, hL5, hC5⟩;have hA : iP S.R n k (-(xi.fdiv xk)) hn hk = bb S.R k n j := by unfold bb; rw [Hxi.out, Hxk.out, mg hn hk]
   rw [hA] at hL5;have hns : ¬ S.own g9 := by
    intro e;have := HL.out.pH _ e;omega
   have G5 := hi_ (hC5.row G4.out hns);have I5 := hi_ (hC5.ownI L4.out.wV I4.out);have C5 := hi_ (C4.out.trans hC5);have L5 := hi_ hL5;clear hC5 hL5 L4 C4 G4 I4 N4 hlx hlen2 hA;have q0 : w5.cell? ⟨g9, 0, none⟩ = some (.bool b9) := G5.out.cell 0;have q1 : w5.cell? ⟨g9, 1, none⟩ = some (.slice o9 l9 k9) := G5.out.cell 1;go_wp2_with fail
   clear q0 q1;refine (bN _ (xi.fmod xk) _ (aj.int I5.out (by have := uY (x := xi) Hpz.out hwk; omega))).mono ?_;rintro e w6 ⟨rfl, hb6⟩;have L6 := hi_ (L5.out.below hb6);have C6 := hi_ (C5.out.below hb6);clear hb6 L5 C5 G5 I5;by_cases hr0 : xi.fmod xk = 0
   · have hz : aO (xi.fmod xk) = 0 := cS.2 hr0;rw [hz];have HR0 := hi_ hr0;clear hz hr0;go_wp2;refine bodyPost_ret (results_none (by kernel_rfl) _ _ _) rfl ?_;have e : dA S.R k n j = bb S.R k n j := by unfold dA; rw [Hxi.out, Hxk.out, if_pos HR0.out]
     rw [e];exact ⟨rfl, L6.out, C6.out⟩
   have hz0 : ¬ aO (xi.fmod xk) = 0 := fun h => hr0 (cS.1 h);have HR0 := hi_ hr0;obtain ⟨sg, hsg⟩ : ∃ s, aO (xi.fmod xk) = s := ⟨_, rfl⟩;rw [hsg] at hz0 ⊢;have hzb : (sg == 0) = false := by simpa using hz0
   clear hsg hr0;have hlenA : (bb S.R k n j).length = S.R.length := cW ..;have hmT : dA S.R k n j = kN (bb S.R k n j) k n (dV (aw (bb S.R k n j) k j) (aw (bb S.R k n j) n j)) (fy (aw (bb S.R k n j) k j) (aw (bb S.R k n j) n j)) (-(aw (bb S.R k n j) n j / bH (aw (bb S.R k n j) k j) (aw (bb S.R k n j) n j))) (aw (bb S.R k n j) k j / bH (aw (bb S.R k n j) k j) (aw (bb S.R k n j) n j)) := by
    unfold dA; rw [Hxi.out, Hxk.out, if_neg HR0.out]
   obtain ⟨R1, hR1⟩ : ∃ R1, bb S.R k n j = R1 := ⟨_, rfl⟩;rw [hR1] at hmT hlenA L6 HF1 HP1;have hkA : k < R1.length := by omega
   have hnA : n < R1.length := by omega
   have HMT := hi_ hmT; clear hmT;have HLA := hi_ hlenA; clear hlenA;have HR1 := hi_ hR1; clear hR1;clear hjl hjk hjl1 hjk1 hi1 hk1 sb1 sb2 sb3 sb4;go_wp2_with fail
   clear hzb hz0;have cb : w6.cell? ⟨S.lb, 0, none⟩ = some (.slice (some ⟨S.o, 0, none⟩) R1.length S.cap) := L6.out.lad.cell 0;have ci : w6.cell? ⟨S.o, k, none⟩ = some (.slice (some ⟨R1[k].blk, 0, none⟩) R1[k].xs.length R1[k].cap) := L6.out.dJ.cF (i := k) hkA;have ck : w6.cell? ⟨S.o, n, none⟩ = some (.slice (some ⟨R1[n].blk, 0, none⟩) R1[n].xs.length R1[n].cap) := L6.out.dJ.cF (i := n) hnA;have hXi := L6.out.dJ.row _ (List.getElem_mem (l := R1) hkA);have hXk := L6.out.dJ.row _ (List.getElem_mem (l := R1) hnA);have hjl : j < R1[k].xs.length := by rw [HF1.out.len _ (List.getElem_mem hkA)]; exact hj
   have hjk : j < R1[n].xs.length := by rw [HF1.out.len _ (List.getElem_mem hnA)]; exact hj
   have hjl1 : (j : Int) < (R1[k].xs.length : Int) := by omega
   have hjk1 : (j : Int) < (R1[n].xs.length : Int) := by omega
   have hi1 : (k : Int) < (R1.length : Int) := by omega
   have hk1 : (n : Int) < (R1.length : Int) := by omega
   obtain ⟨pp, ci0, ci1, hni⟩ := hXi.get hjl;obtain ⟨pv, ck0, ck1, hnk⟩ := hXk.get hjk;have hwi : ag (R1[k].xs[j]).natAbs <= B := HF1.out.fit _ (List.getElem_mem hkA) _ (List.getElem_mem hjl);have hwk : ag (R1[n].xs[j]).natAbs <= B := HF1.out.fit _ (List.getElem_mem hnA) _ (List.getElem_mem hjk);obtain ⟨xp, hxi⟩ : ∃ xp, R1[k].xs[j] = xp := ⟨_, rfl⟩;obtain ⟨xv, hxk⟩ : ∃ xv, R1[n].xs[j] = xv := ⟨_, rfl⟩;rw [hxi] at hni hwi;rw [hxk] at hnk hwk;have Hxp := hi_ ((fP hkA hjl).trans hxi); clear hxi;have Hxv := hi_ ((fP hnA hjk).trans hxk); clear hxk;have sb1 := hXi.lt;have sb2 := hXk.lt;have sb3 : S.lb < w6.heap.size := L6.out.lad.lt;have sb4 : S.o < w6.heap.size := L6.out.dJ.out.lt;clear hXi hXk;have Hnp := hi_ (hni.int (L := 4398046511103) (by omega));have Hnv := hi_ (hnk.int (L := 4398046511103) (by omega));clear hni hnk;have hxp0 : xp ≠ 0 := by have := HP1.out; rw [Hxp.out] at this; exact this
   have Hxp0 := hi_ hxp0; clear hxp0;refine er ⟨24, fun q_ => [54, 55, 56, 57, 58, 59, 60, 61, 62, 63, 64, 65, 66, 67, 68, 69, 70, 71, 72, 73, 11, 12, 1022, 1023].getD q_ 0,
    fun q_ => [.val (.pointer (some ⟨S.lb, 0, none⟩)), .val (.pointer (some ⟨S.lb, 0, none⟩)), .val (.pointer (some ⟨S.lb, 0, none⟩)), .val (.slice (some ⟨S.o, 0, none⟩) R1.length S.cap), .val (.int .i64 (k : Int)), .val (.pointer (some ⟨S.o, k, none⟩)), .val (.slice (some ⟨R1[k].blk, 0, none⟩) R1[k].xs.length R1[k].cap), .val (.int .i64 (j : Int)), .val (.pointer (some ⟨R1[k].blk, j * 2, none⟩)), .val (.agg #[.bool pp.1, .slice pp.2.1 pp.2.2.1 pp.2.2.2]), .val (.pointer (some ⟨S.lb, 0, none⟩)), .val (.pointer (some ⟨S.lb, 0, none⟩)), .val (.pointer (some ⟨S.lb, 0, none⟩)), .val (.slice (some ⟨S.o, 0, none⟩) R1.length S.cap), .val (.int .i64 (n : Int)), .val (.pointer (some ⟨S.o, n, none⟩)), .val (.slice (some ⟨R1[n].blk, 0, none⟩) R1[n].xs.length R1[n].cap), .val (.int .i64 (j : Int)), .val (.pointer (some ⟨R1[n].blk, j * 2, none⟩)), .val (.agg #[.bool pv.1, .slice pv.2.1 pv.2.2.1 pv.2.2.2]), .ptr w6.heap.size 37 2, .ptr w6.heap.size 37 2, .any, .any].getD q_ .any,
    [],
    [],
    [],
    [(22, 11, 37, .cells [.bool pp.1, .slice pp.2.1 pp.2.2.1 pp.2.2.2]), (23, 12, 37, .cells [.bool pv.1, .slice pv.2.1 pv.2.2.1 pv.2.2.2])], [(⟨S.lb, 0, none⟩, .slice (some ⟨S.o, 0, none⟩) R1.length S.cap), (⟨S.o, k, none⟩, .slice (some ⟨R1[k].blk, 0, none⟩) R1[k].xs.length R1[k].cap), (⟨S.o, n, none⟩, .slice (some ⟨R1[n].blk, 0, none⟩) R1[n].xs.length R1[n].cap), (⟨R1[k].blk, j * 2, none⟩, .bool pp.1), (⟨R1[k].blk, j * 2 + 1, none⟩, .slice pp.2.1 pp.2.2.1 pp.2.2.2), (⟨R1[n].blk, j * 2, none⟩, .bool pv.1), (⟨R1[n].blk, j * 2 + 1, none⟩, .slice pv.2.1 pv.2.2.1 pv.2.2.2)], [(20, 11), (21, 12)]⟩ [54, 55, 56, 57, 58, 59, 60, 61, 62, 63, 64, 65, 66, 67, 68, 69, 70, 71, 72, 73, 11, 12] (w6.heap.size) (by kernel_rfl) (by kernel_rfl) (by kernel_rfl) (by kernel_rfl) ?_ ?_ ?_ ?_ ?_ ?_
   · exact aX
   · exact aX
   · exact bD (⟨cb, by dsimp only; omega, aX⟩) (bD (⟨ci, by dsimp only; omega, aX⟩) (bD (⟨ck, by dsimp only; omega, aX⟩) (bD (⟨ci0, by dsimp only; omega, aX⟩) (bD (⟨ci1, by dsimp only; omega, aX⟩) (bD (⟨ck0, by dsimp only; omega, aX⟩) (bD (⟨ck1, by dsimp only; omega, aX⟩) aX))))))
   · exact aX
   · refine ak ?_ (ak ?_ (ak ?_ (ak ?_ (ak ?_ (ak ?_ (ak ?_ (ak ?_ (ak ?_ (ak ?_ (ak ?_ (ak ?_ (ak ?_ (ak ?_ (ak ?_ (ak ?_ (ak ?_ (ak ?_ (ak ?_ (ak ?_ (ak ?_ (ak ?_ (ak ?_ (ak ?_ kj)))))))))))))))))))))));any_goals (first | (intro L fx w' hJ hL hp hcl; have _ := sr hp (by decide +kernel); refine aP rfl fun K hK => ?_; go_simp; exact hJ.q hK (by kernel_rfl) rfl) | fail)
     · intro L fx w' hJ hL hp hcl;have e0 := hJ.pt 0 54 (.pointer (some ⟨S.lb, 0, none⟩)) rfl rfl rfl (hp 0 (by decide));rw [e0] at hJ ⊢; clear e0;refine aP rfl fun K hK => ?_;go_simp;exact hJ.q hK (by kernel_rfl) rfl
     · intro L fx w' hJ hL hp hcl;have e1 := hJ.pt 1 55 (.pointer (some ⟨S.lb, 0, none⟩)) rfl rfl rfl (hp 1 (by decide));rw [e1] at hJ ⊢; clear e1;refine aP rfl fun K hK => ?_;go_simp;exact hJ.q hK (by kernel_rfl) rfl
     · intro L fx w' hJ hL hp hcl;have e2 := hJ.pt 2 56 (.pointer (some ⟨S.lb, 0, none⟩)) rfl rfl rfl (hp 2 (by decide));rw [e2] at hJ ⊢; clear e2;refine aP rfl fun K hK => ?_;have cl0 := (hJ.cells _ fL).1;try dsimp only at cl0
       go_simp;exact hJ.q hK (by kernel_rfl) rfl
     · intro L fx w' hJ hL hp hcl;have e3 := hJ.pt 3 57 (.slice (some ⟨S.o, 0, none⟩) R1.length S.cap) rfl rfl rfl (hp 3 (by decide));rw [e3] at hJ ⊢; clear e3;have e4 := hJ.pt 4 58 (.int .i64 (k : Int)) rfl rfl rfl (hp 4 (by decide));rw [e4] at hJ ⊢; clear e4;refine aP rfl fun K hK => ?_;go_simp;exact hJ.q hK (by kernel_rfl) rfl
     · intro L fx w' hJ hL hp hcl;have e5 := hJ.pt 5 59 (.pointer (some ⟨S.o, k, none⟩)) rfl rfl rfl (hp 5 (by decide));rw [e5] at hJ ⊢; clear e5;refine aP rfl fun K hK => ?_;have cl0 := (hJ.cells _ iQ).1;try dsimp only at cl0
       go_simp;exact hJ.q hK (by kernel_rfl) rfl
     · intro L fx w' hJ hL hp hcl;have e6 := hJ.pt 6 60 (.slice (some ⟨R1[k].blk, 0, none⟩) R1[k].xs.length R1[k].cap) rfl rfl rfl (hp 6 (by decide));rw [e6] at hJ ⊢; clear e6;have e7 := hJ.pt 7 61 (.int .i64 (j : Int)) rfl rfl rfl (hp 7 (by decide));rw [e7] at hJ ⊢; clear e7;refine aP rfl fun K hK => ?_;go_simp;exact hJ.q hK (by kernel_rfl) rfl
     · intro L fx w' hJ hL hp hcl;have e8 := hJ.pt 8 62 (.pointer (some ⟨R1[k].blk, j * 2, none⟩)) rfl rfl rfl (hp 8 (by decide));rw [e8] at hJ ⊢; clear e8;refine aP rfl fun K hK => ?_;have cl0 := (hJ.cells _ vf).1;have cl1 := (hJ.cells _ mm4).1;try dsimp only at cl0 cl1
       go_simp;exact hJ.q hK (by kernel_rfl) rfl
     · intro L fx w' hJ hL hp hcl;have e10 := hJ.pt 10 64 (.pointer (some ⟨S.lb, 0, none⟩)) rfl rfl rfl (hp 10 (by decide));rw [e10] at hJ ⊢; clear e10;refine aP rfl fun K hK => ?_;go_simp;exact hJ.q hK (by kernel_rfl) rfl
     · intro L fx w' hJ hL hp hcl;have e11 := hJ.pt 11 65 (.pointer (some ⟨S.lb, 0, none⟩)) rfl rfl rfl (hp 11 (by decide));rw [e11] at hJ ⊢; clear e11;refine aP rfl fun K hK => ?_;go_simp;exact hJ.q hK (by kernel_rfl) rfl
     · intro L fx w' hJ hL hp hcl;have e12 := hJ.pt 12 66 (.pointer (some ⟨S.lb, 0, none⟩)) rfl rfl rfl (hp 12 (by decide));rw [e12] at hJ ⊢; clear e12;refine aP rfl fun K hK => ?_;have cl0 := (hJ.cells _ fL).1;try dsimp only at cl0
       go_simp;exact hJ.q hK (by kernel_rfl) rfl
     · intro L fx w' hJ hL hp hcl;have e13 := hJ.pt 13 67 (.slice (some ⟨S.o, 0, none⟩) R1.length S.cap) rfl rfl rfl (hp 13 (by decide));rw [e13] at hJ ⊢; clear e13;have e14 := hJ.pt 14 68 (.int .i64 (n : Int)) rfl rfl rfl (hp 14 (by decide));rw [e14] at hJ ⊢; clear e14;refine aP rfl fun K hK => ?_;go_simp;exact hJ.q hK (by kernel_rfl) rfl
     · intro L fx w' hJ hL hp hcl;have e15 := hJ.pt 15 69 (.pointer (some ⟨S.o, n, none⟩)) rfl rfl rfl (hp 15 (by decide));rw [e15] at hJ ⊢; clear e15;refine aP rfl fun K hK => ?_;have cl0 := (hJ.cells _ qc).1;try dsimp only at cl0
       go_simp;exact hJ.q hK (by kernel_rfl) rfl
     · intro L fx w' hJ hL hp hcl;have e16 := hJ.pt 16 70 (.slice (some ⟨R1[n].blk, 0, none⟩) R1[n].xs.length R1[n].cap) rfl rfl rfl (hp 16 (by decide));rw [e16] at hJ ⊢; clear e16;have e17 := hJ.pt 17 71 (.int .i64 (j : Int)) rfl rfl rfl (hp 17 (by decide));rw [e17] at hJ ⊢; clear e17;refine aP rfl fun K hK => ?_;go_simp;exact hJ.q hK (by kernel_rfl) rfl
     · intro L fx w' hJ hL hp hcl;have e18 := hJ.pt 18 72 (.pointer (some ⟨R1[n].blk, j * 2, none⟩)) rfl rfl rfl (hp 18 (by decide));rw [e18] at hJ ⊢; clear e18;refine aP rfl fun K hK => ?_;have cl0 := (hJ.cells _ mm5).1;have cl1 := (hJ.cells _ mm6).1;try dsimp only at cl0 cl1
       go_simp;exact hJ.q hK (by kernel_rfl) rfl
     · intro L fx w' hJ hL hp hcl;have hg0 : w6.heap.size <= w'.heap.size := Nat.le_trans (by omega : w6.heap.size <= w6.heap.size) hJ.size;refine aP rfl fun K hK => ?_;go_simp;exact hK _ _ ⟨_, by kernel_rfl, hJ.grow 20 (by show 20 < 24; decide) _ (by kernel_rfl) (by kernel_rfl) (by intro t ht; rcases mc ht with rfl | ht; exact ⟨by show 22 ≠ 20; decide, fun _ => by cases hh : L 22 with | false => rfl | true => have := hcl 22 (by show 22 < 24; decide) hh 20 (by decide); rw [hL] at this; cases this⟩; rcases mc ht with rfl | ht; exact ⟨by show 23 ≠ 20; decide, fun h => absurd (show 12 = 11 from h) (by decide)⟩; cases ht) (by intro p hp; rcases mc hp with rfl | hp; exact ⟨⟨fun _ => rfl, fun _ => rfl⟩, fun _ q hq hne hLq => (by rcases mc hq with rfl | hq; exact absurd rfl hne; rcases mc hq with rfl | hq; (obtain ⟨g9, cs9, hx9, _, hr9, _⟩ := hJ.slot 21 (by show 21 < 24; decide) hLq; have hx9 : fx 12 = _ := hx9; show _ ≠ fx 12; rw [hx9]; intro e9; injection e9 with e9; injection e9 with e9; injection e9 with e9; exact absurd e9 (Nat.ne_of_gt hr9.lt)); cases hq)⟩; rcases mc hp with rfl | hp; exact ⟨⟨fun h => absurd (show 21 = 20 from h) (by decide), fun h => absurd (show 12 = 11 from h) (by decide)⟩, fun h => absurd (show 21 = 20 from h) (by decide)⟩; cases hp) ((Below.refl _ _).alloc (Nat.le_refl _) _) ⟨w'.heap.size, _, rfl, hJ.size, aa.new _ _ _, aI.two _ _ _ _, rfl⟩ hg0⟩
     · intro L fx w' hJ hL hp hcl;have hg0 : w6.heap.size <= w'.heap.size := Nat.le_trans (by omega : w6.heap.size <= w6.heap.size) hJ.size;refine aP rfl fun K hK => ?_;go_simp;exact hK _ _ ⟨_, by kernel_rfl, hJ.grow 21 (by show 21 < 24; decide) _ (by kernel_rfl) (by kernel_rfl) (by intro t ht; rcases mc ht with rfl | ht; exact ⟨by show 22 ≠ 21; decide, fun h => absurd (show 11 = 12 from h) (by decide)⟩; rcases mc ht with rfl | ht; exact ⟨by show 23 ≠ 21; decide, fun _ => by cases hh : L 23 with | false => rfl | true => have := hcl 23 (by show 23 < 24; decide) hh 21 (by decide); rw [hL] at this; cases this⟩; cases ht) (by intro p hp; rcases mc hp with rfl | hp; exact ⟨⟨fun h => absurd (show 20 = 21 from h) (by decide), fun h => absurd (show 11 = 12 from h) (by decide)⟩, fun h => absurd (show 20 = 21 from h) (by decide)⟩; rcases mc hp with rfl | hp; exact ⟨⟨fun _ => rfl, fun _ => rfl⟩, fun _ q hq hne hLq => (by rcases mc hq with rfl | hq; (obtain ⟨g9, cs9, hx9, _, hr9, _⟩ := hJ.slot 20 (by show 20 < 24; decide) hLq; have hx9 : fx 11 = _ := hx9; show _ ≠ fx 11; rw [hx9]; intro e9; injection e9 with e9; injection e9 with e9; injection e9 with e9; exact absurd e9 (Nat.ne_of_gt hr9.lt)); rcases mc hq with rfl | hq; exact absurd rfl hne; cases hq)⟩; cases hp) ((Below.refl _ _).alloc (Nat.le_refl _) _) ⟨w'.heap.size, _, rfl, hJ.size, aa.new _ _ _, aI.two _ _ _ _, rfl⟩ hg0⟩
     · intro L fx w' hJ hL hp hcl;have e20 := hJ.slot 20 (by show 20 < 24; decide) (hp 20 (by decide));have e9 := hJ.pt 9 63 (.agg #[.bool pp.1, .slice pp.2.1 pp.2.2.1 pp.2.2.2]) rfl rfl rfl (hp 9 (by decide));rw [e9] at hJ ⊢; clear e9;obtain ⟨g, cs, hx, hgB, hr0, hn0, hl0⟩ := e20;obtain ⟨z0, z1, rfl⟩ : ∃ z0 z1, cs = [z0, z1] := lR hl0;have hf0 := aa.free hr0 0;have hc0 := aa.cell hr0 0;have hf1 := aa.free hr0 1;have hc1 := aa.cell hr0 1;try dsimp only at hf0 hc0 hf1 hc1
       have hx1 := hx;rw [aC (x := (bf fx 63 (.agg #[.bool pp.1, .slice pp.2.1 pp.2.2.1 pp.2.2.2]))) (d := 11) hx] at hJ ⊢;refine aP rfl fun K hK => ?_;go_simp;exact hK _ _ ⟨_, by kernel_rfl, hJ.fg (us := [.bool pp.1, .slice pp.2.1 pp.2.2.1 pp.2.2.2]) 22 11 _ _ (by show 22 < 24; decide) rfl fL (by intro t ht h; rcases mc ht with rfl | ht; rfl; rcases mc ht with rfl | ht; exact absurd (show 23 = 22 from h) (by decide); cases ht) (by intro t ht hne hLt; rcases mc ht with rfl | ht; exact absurd rfl hne; rcases mc ht with rfl | ht; exact hJ.apart (21, 12) iQ (20, 11) fL (by show 21 ≠ 20; decide) (hcl 23 (by show 23 < 24; decide) hLt 21 (by decide)) (hp 20 (by decide)); cases ht) (by kernel_rfl) (by kernel_rfl) (by decide) (by rfl) hgB hr0 hn0 rfl (aI.two _ _ _ _) rfl (by omega)⟩
     · intro L fx w' hJ hL hp hcl;have e21 := hJ.slot 21 (by show 21 < 24; decide) (hp 21 (by decide));have e19 := hJ.pt 19 73 (.agg #[.bool pv.1, .slice pv.2.1 pv.2.2.1 pv.2.2.2]) rfl rfl rfl (hp 19 (by decide));rw [e19] at hJ ⊢; clear e19;obtain ⟨g, cs, hx, hgB, hr0, hn0, hl0⟩ := e21;obtain ⟨z0, z1, rfl⟩ : ∃ z0 z1, cs = [z0, z1] := lR hl0;have hf0 := aa.free hr0 0;have hc0 := aa.cell hr0 0;have hf1 := aa.free hr0 1;have hc1 := aa.cell hr0 1;try dsimp only at hf0 hc0 hf1 hc1
       have hx1 := hx;rw [aC (x := (bf fx 73 (.agg #[.bool pv.1, .slice pv.2.1 pv.2.2.1 pv.2.2.2]))) (d := 12) hx] at hJ ⊢;refine aP rfl fun K hK => ?_;go_simp;exact hK _ _ ⟨_, by kernel_rfl, hJ.fg (us := [.bool pv.1, .slice pv.2.1 pv.2.2.1 pv.2.2.2]) 23 12 _ _ (by show 23 < 24; decide) rfl iQ (by intro t ht h; rcases mc ht with rfl | ht; exact absurd (show 22 = 23 from h) (by decide); rcases mc ht with rfl | ht; rfl; cases ht) (by intro t ht hne hLt; rcases mc ht with rfl | ht; exact hJ.apart (20, 11) fL (21, 12) iQ (by show 20 ≠ 21; decide) (hcl 22 (by show 22 < 24; decide) hLt 20 (by decide)) (hp 21 (by decide)); rcases mc ht with rfl | ht; exact absurd rfl hne; cases ht) (by kernel_rfl) (by kernel_rfl) (by decide) (by rfl) hgB hr0 hn0 rfl (aI.two _ _ _ _) rfl (by omega)⟩
   · intro L' x1 w7 hL hJ;have hfr : Below w6.drew.heap.size w6.drew w7 := hJ.fr;obtain ⟨g11, cs11, hx11, hg11, hr11, hcs11⟩ := hJ.new _ fL (hL 22 (by show 22 < 24; decide));obtain ⟨g12, cs12, hx12, hg12, hr12, hcs12⟩ := hJ.new _ iQ (hL 23 (by show 23 < 24; decide));obtain rfl : cs11 = _ := hcs11;obtain rfl : cs12 = _ := hcs12;have hx11 : x1 11 = _ := hx11;have hx12 : x1 12 = _ := hx12;rw [aC (x := x1) (d := 11) hx11];rw [aC (x := bf x1 11 (.pointer (some ⟨g11, 0, none⟩))) (d := 12) (v := .pointer (some ⟨g12, 0, none⟩)) hx12];have G11 : Hid (aa w7 g11 37 [.bool pp.1, .slice pp.2.1 pp.2.2.1 pp.2.2.2]) := hi_ hr11;have G12 : Hid (aa w7 g12 37 [.bool pv.1, .slice pv.2.1 pv.2.2.1 pv.2.2.2]) := hi_ hr12;clear hJ hL hx11 hx12 hr11 hr12 cb ci ck ci0 ci1 ck0 ck1;have L7 := hi_ (aD.below (w := w6.drew) L6.out.drew hfr);have C7 := hi_ (C6.out.drew.below hfr);have P7 := hi_ (ai.below (w := w6.drew) Hnp.out hfr);have V7 := hi_ (ai.below (w := w6.drew) Hnv.out hfr);clear L6 C6 Hnp Hnv;simp only [pN, Nat.reduceEqDiff, ↓reduceIte];have q0 : w7.cell? ⟨g11, 0, none⟩ = some (.bool pp.1) := G11.out.cell 0;have q1 : w7.cell? ⟨g11, 1, none⟩ = some (.slice pp.2.1 pp.2.2.1 pp.2.2.2) := G11.out.cell 1;have q2 : w7.cell? ⟨g12, 0, none⟩ = some (.bool pv.1) := G12.out.cell 0;have q3 : w7.cell? ⟨g12, 1, none⟩ = some (.slice pv.2.1 pv.2.2.1 pv.2.2.2) := G12.out.cell 1;go_wp2_with fail
     clear q0 q1 q2 q3;refine (yo _ _ xp xv _ P7.out V7.out).mono ?_;rintro e w8 ⟨⟨vg, vx, vy, rfl, hge, hxe, hye⟩, hb8⟩;obtain ⟨zg, rfl⟩ := aH.parts hge.num;obtain ⟨zx, rfl⟩ := aH.parts hxe.num;obtain ⟨zy, rfl⟩ := aH.parts hye.num;have hge := hge.mono (Nat.zero_le _);have hxe := hxe.mono (Nat.zero_le _);have hye := hye.mono (Nat.zero_le _);unfold av at *;obtain ⟨GG, hGG⟩ : ∃ GG, bH xp xv = GG := ⟨_, rfl⟩;obtain ⟨XX, hXX⟩ : ∃ XX, dV xp xv = XX := ⟨_, rfl⟩;obtain ⟨YY, hYY⟩ : ∃ YY, fy xp xv = YY := ⟨_, rfl⟩;obtain ⟨hd1, hd2, hg0, hg1⟩ := iY xp xv;have hxl := pF xp xv;have hyl := tD xp xv;rw [hGG] at hge hd1 hd2 hg0;rw [hXX] at hxe hxl;rw [hYY] at hye hyl;have hgw : ag GG.natAbs <= 4398046511103 := by
      refine Nat.le_trans (aF (Nat.le_of_dvd ?_ (Int.natAbs_dvd_natAbs.2 hd1))) (by omega : ag xp.natAbs <= _);have := Hxp0.out; omega
     have hxw : ag XX.natAbs <= B + 2 := oz hxl hwk;have hyw : ag YY.natAbs <= B + 2 := oz hyl hwi;have HG0 := hi_ (hg0 Hxp0.out);have HD1 := hi_ hd1;have HD2 := hi_ hd2;have HGG := hi_ hGG; clear hGG;have HXX := hi_ hXX; clear hXX;have HYY := hi_ hYY; clear hYY;clear hd1 hd2 hg0 hg1 hxl hyl;have GA_0 := hi_ (G11.out.below hb8 G11.out.lt);have GB_0 := hi_ (G12.out.below hb8 G12.out.lt);have GE_0 := hi_ hge;have XE_0 := hi_ hxe;have YE_0 := hi_ hye;have PA_0 := hi_ (P7.out.below hb8);have VA_0 := hi_ (V7.out.below hb8);have LL_0 := hi_ (L7.out.below hb8);have CC_0 := hi_ (C7.out.below hb8);clear G11 G12 P7 V7 L7 C7 hge hxe hye hb8;obtain ⟨n13, n14, n15, hb9⟩ := eQ w8 #[.bool zg.1, .slice zg.2.1 zg.2.2.1 zg.2.2.2] #[.bool zx.1, .slice zx.2.1 zx.2.2.1 zx.2.2.2] #[.bool zy.1, .slice zy.2.1 zy.2.2.1 zy.2.2.2] 37 37 37;have GA_1 := hi_ (aa.below (w := w8) GA_0.out hb9 GA_0.out.lt);have GB_1 := hi_ (aa.below (w := w8) GB_0.out hb9 GB_0.out.lt);have GE_1 := hi_ (aj.below (w := w8) GE_0.out hb9);have XE_1 := hi_ (aj.below (w := w8) XE_0.out hb9);have YE_1 := hi_ (aj.below (w := w8) YE_0.out hb9);have PA_1 := hi_ (ai.below (w := w8) PA_0.out hb9);have VA_1 := hi_ (ai.below (w := w8) VA_0.out hb9);have LL_1 := hi_ (aD.below (w := w8) LL_0.out hb9);have CC_1 := hi_ (aN.below CC_0.out hb9);clear GA_0 GB_0 GE_0 XE_0 YE_0 PA_0 VA_0 LL_0 CC_0;have N13_1 := hi_ n13;have N14_1 := hi_ n14;have N15_1 := hi_ n15;clear n13 n14 n15 hb9;have qa0 : (((w8.alloc (.cells #[.bool zg.1, .slice zg.2.1 zg.2.2.1 zg.2.2.2] 37)).alloc (.cells #[.bool zx.1, .slice zx.2.1 zx.2.2.1 zx.2.2.2] 37)).alloc (.cells #[.bool zy.1, .slice zy.2.1 zy.2.2.1 zy.2.2.2] 37)).cell? ⟨g11, 0, none⟩ = some (.bool pp.1) := GA_1.out.cell 0;have qa1 : (((w8.alloc (.cells #[.bool zg.1, .slice zg.2.1 zg.2.2.1 zg.2.2.2] 37)).alloc (.cells #[.bool zx.1, .slice zx.2.1 zx.2.2.1 zx.2.2.2] 37)).alloc (.cells #[.bool zy.1, .slice zy.2.1 zy.2.2.1 zy.2.2.2] 37)).cell? ⟨g11, 1, none⟩ = some (.slice pp.2.1 pp.2.2.1 pp.2.2.2) := GA_1.out.cell 1;have qb0 : (((w8.alloc (.cells #[.bool zg.1, .slice zg.2.1 zg.2.2.1 zg.2.2.2] 37)).alloc (.cells #[.bool zx.1, .slice zx.2.1 zx.2.2.1 zx.2.2.2] 37)).alloc (.cells #[.bool zy.1, .slice zy.2.1 zy.2.2.1 zy.2.2.2] 37)).cell? ⟨w8.heap.size, 0, none⟩ = some (.bool zg.1) := N13_1.out.cell 0;have qb1 : (((w8.alloc (.cells #[.bool zg.1, .slice zg.2.1 zg.2.2.1 zg.2.2.2] 37)).alloc (.cells #[.bool zx.1, .slice zx.2.1 zx.2.2.1 zx.2.2.2] 37)).alloc (.cells #[.bool zy.1, .slice zy.2.1 zy.2.2.1 zy.2.2.2] 37)).cell? ⟨w8.heap.size, 1, none⟩ = some (.slice zg.2.1 zg.2.2.1 zg.2.2.2) := N13_1.out.cell 1;go_wp2_with fail
     clear qa0 qa1 qb0 qb1;generalize (((w8.alloc (.cells #[.bool zg.1, .slice zg.2.1 zg.2.2.1 zg.2.2.2] 37)).alloc (.cells #[.bool zx.1, .slice zx.2.1 zx.2.2.1 zx.2.2.2] 37)).alloc (.cells #[.bool zy.1, .slice zy.2.1 zy.2.2.1 zy.2.2.2] 37)) = w9 at *;refine (fR _ _ xp GG _ (PA_1.out.mono (by omega)) (aj.int GE_1.out (by omega)) HG0.out HD1.out).mono ?_;rintro e w10 ⟨⟨va, rfl, hva⟩, hb10⟩;obtain ⟨za, rfl⟩ := aH.parts hva.num;have hva := hva.mono (Nat.zero_le _);unfold av at *;have GA_2 := hi_ (aa.below (w := w9) GA_1.out hb10 GA_1.out.lt);have GB_2 := hi_ (aa.below (w := w9) GB_1.out hb10 GB_1.out.lt);have N13_2 := hi_ (aa.below (w := w9) N13_1.out hb10 N13_1.out.lt);have N14_2 := hi_ (aa.below (w := w9) N14_1.out hb10 N14_1.out.lt);have N15_2 := hi_ (aa.below (w := w9) N15_1.out hb10 N15_1.out.lt);have GE_2 := hi_ (aj.below (w := w9) GE_1.out hb10);have XE_2 := hi_ (aj.below (w := w9) XE_1.out hb10);have YE_2 := hi_ (aj.below (w := w9) YE_1.out hb10);have PA_2 := hi_ (ai.below (w := w9) PA_1.out hb10);have VA_2 := hi_ (ai.below (w := w9) VA_1.out hb10);have LL_2 := hi_ (aD.below (w := w9) LL_1.out hb10);have CC_2 := hi_ (aN.below CC_1.out hb10);clear GA_1 GB_1 N13_1 N14_1 N15_1 GE_1 XE_1 YE_1 PA_1 VA_1 LL_1 CC_1;have AE_2 := hi_ hva;clear hva hb10;have hb11 : Below w10.heap.size w10 (w10.alloc (.cells #[.bool za.1, .slice za.2.1 za.2.2.1 za.2.2.2] 37)) := (Below.refl _ _).alloc (Nat.le_refl _) _;have n16 := aa.new w10 #[.bool za.1, .slice za.2.1 za.2.2.1 za.2.2.2] 37;have GA_3 := hi_ (aa.below (w := w10) GA_2.out hb11 GA_2.out.lt);have GB_3 := hi_ (aa.below (w := w10) GB_2.out hb11 GB_2.out.lt);have N13_3 := hi_ (aa.below (w := w10) N13_2.out hb11 N13_2.out.lt);have N14_3 := hi_ (aa.below (w := w10) N14_2.out hb11 N14_2.out.lt);have N15_3 := hi_ (aa.below (w := w10) N15_2.out hb11 N15_2.out.lt);have GE_3 := hi_ (aj.below (w := w10) GE_2.out hb11);have XE_3 := hi_ (aj.below (w := w10) XE_2.out hb11);have YE_3 := hi_ (aj.below (w := w10) YE_2.out hb11);have AE_3 := hi_ (aj.below (w := w10) AE_2.out hb11);have PA_3 := hi_ (ai.below (w := w10) PA_2.out hb11);have VA_3 := hi_ (ai.below (w := w10) VA_2.out hb11);have LL_3 := hi_ (aD.below (w := w10) LL_2.out hb11);have CC_3 := hi_ (aN.below CC_2.out hb11);clear GA_2 GB_2 N13_2 N14_2 N15_2 GE_2 XE_2 YE_2 AE_2 PA_2 VA_2 LL_2 CC_2;have N16_3 := hi_ n16;clear n16 hb11;have qa0 : (w10.alloc (.cells #[.bool za.1, .slice za.2.1 za.2.2.1 za.2.2.2] 37)).cell? ⟨g12, 0, none⟩ = some (.bool pv.1) := GB_3.out.cell 0;have qa1 : (w10.alloc (.cells #[.bool za.1, .slice za.2.1 za.2.2.1 za.2.2.2] 37)).cell? ⟨g12, 1, none⟩ = some (.slice pv.2.1 pv.2.2.1 pv.2.2.2) := GB_3.out.cell 1;have qb0 : (w10.alloc (.cells #[.bool za.1, .slice za.2.1 za.2.2.1 za.2.2.2] 37)).cell? ⟨w8.heap.size, 0, none⟩ = some (.bool zg.1) := N13_3.out.cell 0;have qb1 : (w10.alloc (.cells #[.bool za.1, .slice za.2.1 za.2.2.1 za.2.2.2] 37)).cell? ⟨w8.heap.size, 1, none⟩ = some (.slice zg.2.1 zg.2.2.1 zg.2.2.2) := N13_3.out.cell 1;go_wp2_with fail
     clear qa0 qa1 qb0 qb1;generalize (w10.alloc (.cells #[.bool za.1, .slice za.2.1 za.2.2.1 za.2.2.2] 37)) = w11 at *;refine (fR _ _ xv GG _ (VA_3.out.mono (by omega)) (aj.int GE_3.out (by omega)) HG0.out HD2.out).mono ?_;rintro e w12 ⟨⟨vb, rfl, hvb⟩, hb12⟩;obtain ⟨zb, rfl⟩ := aH.parts hvb.num;have hvb := hvb.mono (Nat.zero_le _);unfold av at *;have N14_4 := hi_ (aa.below (w := w11) N14_3.out hb12 N14_3.out.lt);have N15_4 := hi_ (aa.below (w := w11) N15_3.out hb12 N15_3.out.lt);have N16_4 := hi_ (aa.below (w := w11) N16_3.out hb12 N16_3.out.lt);have XE_4 := hi_ (aj.below (w := w11) XE_3.out hb12);have YE_4 := hi_ (aj.below (w := w11) YE_3.out hb12);have AE_4 := hi_ (aj.below (w := w11) AE_3.out hb12);have LL_4 := hi_ (aD.below (w := w11) LL_3.out hb12);have CC_4 := hi_ (aN.below CC_3.out hb12);clear N14_3 N15_3 N16_3 XE_3 YE_3 AE_3 LL_3 CC_3;clear GA_3 GB_3 N13_3 GE_3 PA_3 VA_3;have BE_4 := hi_ hvb;clear hvb hb12;have hb13 : Below w12.heap.size w12 (w12.alloc (.cells #[.bool zb.1, .slice zb.2.1 zb.2.2.1 zb.2.2.2] 37)) := (Below.refl _ _).alloc (Nat.le_refl _) _;have n18 := aa.new w12 #[.bool zb.1, .slice zb.2.1 zb.2.2.1 zb.2.2.2] 37;have N14_5 := hi_ (aa.below (w := w12) N14_4.out hb13 N14_4.out.lt);have N15_5 := hi_ (aa.below (w := w12) N15_4.out hb13 N15_4.out.lt);have N16_5 := hi_ (aa.below (w := w12) N16_4.out hb13 N16_4.out.lt);have XE_5 := hi_ (aj.below (w := w12) XE_4.out hb13);have YE_5 := hi_ (aj.below (w := w12) YE_4.out hb13);have AE_5 := hi_ (aj.below (w := w12) AE_4.out hb13);have BE_5 := hi_ (aj.below (w := w12) BE_4.out hb13);have LL_5 := hi_ (aD.below (w := w12) LL_4.out hb13);have CC_5 := hi_ (aN.below CC_4.out hb13);clear N14_4 N15_4 N16_4 XE_4 YE_4 AE_4 BE_4 LL_4 CC_4;have N18_5 := hi_ n18;clear n18 hb13;go_wp2;generalize (w12.alloc (.cells #[.bool zb.1, .slice zb.2.1 zb.2.2.1 zb.2.2.2] 37)) = w13 at *;have hs18 := N18_5.out.lt;have hs16 := N16_5.out.lt;have hs15 := N15_5.out.lt;have hs14 := N14_5.out.lt;obtain ⟨aq, haq⟩ : ∃ aq, xp / GG = aq := ⟨_, rfl⟩;obtain ⟨bq, hbq⟩ : ∃ bq, xv / GG = bq := ⟨_, rfl⟩;have haw : ag aq.natAbs <= B := by rw [<- haq]; exact Nat.le_trans (aF (Int.natAbs_ediv_le_natAbs ..)) hwi
     have hbqw : ag bq.natAbs <= B := by rw [<- hbq]; exact Nat.le_trans (aF (Int.natAbs_ediv_le_natAbs ..)) hwk
     have AE := AE_5.out;rw [haq] at AE;have AE := hi_ AE;have BE := BE_5.out;rw [hbq] at BE;have BE := hi_ BE;have HAQ := hi_ haq; clear haq;have HBQ := hi_ hbq; clear hbq;clear AE_5 BE_5;refine dM ⟨11, fun q_ => [93, 94, 95, 96, 97, 98, 99, 100, 101, 102, 103].getD q_ 0,
      fun q_ => [.val (.pointer (some ⟨S.lb, 0, none⟩)), .val (.int .i64 (k : Int)), .val (.int .i64 (n : Int)), .val (.agg #[.bool zx.1, .slice zx.2.1 zx.2.2.1 zx.2.2.2]), .val (.agg #[.bool zy.1, .slice zy.2.1 zy.2.2.1 zy.2.2.2]), .val (.agg #[.bool zx.1, .slice zx.2.1 zx.2.2.1 zx.2.2.2, .bool zy.1, .slice zy.2.1 zy.2.2.1 zy.2.2.2]), .val (.agg #[.bool zb.1, .slice zb.2.1 zb.2.2.1 zb.2.2.2]), .int 0 (-bq), .val (.agg #[.bool za.1, .slice za.2.1 za.2.2.1 za.2.2.2]), .int2 0 (-bq) aq, .int4 0 XX YY (-bq) aq].getD q_ .any,
      [],
      [(.agg #[.bool zx.1, .slice zx.2.1 zx.2.2.1 zx.2.2.2], .int 0 XX), (.agg #[.bool zy.1, .slice zy.2.1 zy.2.2.1 zy.2.2.2], .int 0 YY), (.agg #[.bool za.1, .slice za.2.1 za.2.2.1 za.2.2.2], .int 0 aq), (.agg #[.bool zb.1, .slice zb.2.1 zb.2.2.1 zb.2.2.2], .int 0 bq)],
      [(w8.heap.size + 1, 37, [.bool zx.1, .slice zx.2.1 zx.2.2.1 zx.2.2.2]), (w8.heap.size + 2, 37, [.bool zy.1, .slice zy.2.1 zy.2.2.1 zy.2.2.2]), (w10.heap.size, 37, [.bool za.1, .slice za.2.1 za.2.2.1 za.2.2.2]), (w12.heap.size, 37, [.bool zb.1, .slice zb.2.1 zb.2.2.1 zb.2.2.2])],
      [], [], []⟩ [93, 94, 95, 96, 97, 98, 99, 100, 101, 102, 103, 104] (w13.heap.size) (by kernel_rfl) (by kernel_rfl) (by kernel_rfl) (by kernel_rfl) (by kernel_rfl) ?_ ?_ ?_ ?_ ?_ ?_
     · exact bD (XE_5.out) (bD (YE_5.out) (bD (AE.out) (bD (BE.out) aX)))
     · exact bD (⟨N14_5.out, (N14_5.out).lt, aX⟩) (bD (⟨N15_5.out, (N15_5.out).lt, aX⟩) (bD (⟨N16_5.out, (N16_5.out).lt, aX⟩) (bD (⟨N18_5.out, (N18_5.out).lt, aX⟩) aX)))
     · exact aX
     · exact aX
     · refine ak ?_ (ak ?_ (ak ?_ (ak ?_ (ak ?_ (ak ?_ (ak ?_ (ak ?_ (ak ?_ (ak ?_ (ak ?_ kj))))))))));any_goals (first | (intro L fx w' hJ hL hp hcl; have _ := sr hp (by decide +kernel); refine aP rfl fun K hK => ?_; go_simp; exact hJ.q hK (by kernel_rfl) rfl) | fail)
       · intro L fx w' hJ hL hp hcl;refine aP rfl fun K hK => ?_;have rw0 := (hJ.rows _ fL).1;have cl0 : w'.cell? ⟨w8.heap.size + 1, 0, none⟩ = some (.bool zx.1) := rw0.cell 0;have cl1 : w'.cell? ⟨w8.heap.size + 1, 1, none⟩ = some (.slice zx.2.1 zx.2.2.1 zx.2.2.2) := rw0.cell 1;go_simp;exact hJ.q hK (by kernel_rfl) rfl
       · intro L fx w' hJ hL hp hcl;refine aP rfl fun K hK => ?_;have rw0 := (hJ.rows _ iQ).1;have cl0 : w'.cell? ⟨w8.heap.size + 2, 0, none⟩ = some (.bool zy.1) := rw0.cell 0;have cl1 : w'.cell? ⟨w8.heap.size + 2, 1, none⟩ = some (.slice zy.2.1 zy.2.2.1 zy.2.2.2) := rw0.cell 1;go_simp;exact hJ.q hK (by kernel_rfl) rfl
       · intro L fx w' hJ hL hp hcl;have e3 := hJ.pt 3 96 (.agg #[.bool zx.1, .slice zx.2.1 zx.2.2.1 zx.2.2.2]) rfl rfl rfl (hp 3 (by decide));rw [e3] at hJ ⊢; clear e3;have e4 := hJ.pt 4 97 (.agg #[.bool zy.1, .slice zy.2.1 zy.2.2.1 zy.2.2.2]) rfl rfl rfl (hp 4 (by decide));rw [e4] at hJ ⊢; clear e4;refine aP rfl fun K hK => ?_;go_simp;exact hJ.q hK (by kernel_rfl) rfl
       · intro L fx w' hJ hL hp hcl;refine aP rfl fun K hK => ?_;have rw0 := (hJ.rows _ vf).1;have cl0 : w'.cell? ⟨w12.heap.size, 0, none⟩ = some (.bool zb.1) := rw0.cell 0;have cl1 : w'.cell? ⟨w12.heap.size, 1, none⟩ = some (.slice zb.2.1 zb.2.2.1 zb.2.2.2) := rw0.cell 1;go_simp;exact hJ.q hK (by kernel_rfl) rfl
       · intro L fx w' hJ hL hp hcl;have e6 := hJ.pt 6 99 (.agg #[.bool zb.1, .slice zb.2.1 zb.2.2.1 zb.2.2.2]) rfl rfl rfl (hp 6 (by decide));rw [e6] at hJ ⊢; clear e6;refine aP rfl fun K hK => ?_;go_simp;go_at_call 61;refine (iT _ bq _ (aj.int (show aj w' _ _ _ from hJ.base _ vf) (by omega))).mono ?_;rintro e w4 ⟨⟨v5, rfl, h5⟩, hb4⟩;try dsimp only
         exact hK _ _ ⟨_, by kernel_rfl, hJ.gC 7 rfl (by kernel_rfl) hb4 (aj.mono h5 (Nat.zero_le _)) (by omega)⟩
       · intro L fx w' hJ hL hp hcl;refine aP rfl fun K hK => ?_;have rw0 := (hJ.rows _ qc).1;have cl0 : w'.cell? ⟨w10.heap.size, 0, none⟩ = some (.bool za.1) := rw0.cell 0;have cl1 : w'.cell? ⟨w10.heap.size, 1, none⟩ = some (.slice za.2.1 za.2.2.1 za.2.2.2) := rw0.cell 1;go_simp;exact hJ.q hK (by kernel_rfl) rfl
       · intro L fx w' hJ hL hp hcl;have e7 := hJ.slot 7 (by show 7 < 11; decide) (hp 7 (by decide));have e8 := hJ.pt 8 101 (.agg #[.bool za.1, .slice za.2.1 za.2.2.1 za.2.2.2]) rfl rfl rfl (hp 8 (by decide));rw [e8] at hJ ⊢; clear e8;have e7' := e7;obtain ⟨b7, o7, l7, k7, hv0⟩ := aj.parts e7;rw [hv0] at e7';rw [aC (x := (bf fx 101 (.agg #[.bool za.1, .slice za.2.1 za.2.2.1 za.2.2.2]))) (d := 100) (v := (.agg #[.bool b7, .slice o7 l7 k7])) hv0] at hJ ⊢;refine aP rfl fun K hK => ?_;go_simp;exact hK _ _ ⟨_, by kernel_rfl, hJ.pC 9 rfl (by kernel_rfl) ⟨_, _, _, _, _, _, _, _, rfl, e7', (show aj w' _ _ _ from hJ.base _ qc)⟩ (by omega)⟩
       · intro L fx w' hJ hL hp hcl;have e9 := hJ.slot 9 (by show 9 < 11; decide) (hp 9 (by decide));have e5 := hJ.pt 5 98 (.agg #[.bool zx.1, .slice zx.2.1 zx.2.2.1 zx.2.2.2, .bool zy.1, .slice zy.2.1 zy.2.2.1 zy.2.2.2]) rfl rfl rfl (hp 5 (by decide));rw [e5] at hJ ⊢; clear e5;obtain ⟨b1, o1, l1, k1, b2, o2, l2, k2, hv0, hO1, hO2⟩ := e9;rw [aC (x := (bf fx 98 (.agg #[.bool zx.1, .slice zx.2.1 zx.2.2.1 zx.2.2.2, .bool zy.1, .slice zy.2.1 zy.2.2.1 zy.2.2.2]))) (d := 102) (v := (.agg #[.bool b1, .slice o1 l1 k1, .bool b2, .slice o2 l2 k2])) hv0] at hJ ⊢;refine aP rfl fun K hK => ?_;go_simp;exact hK _ _ ⟨_, by kernel_rfl, hJ.pC 10 rfl (by kernel_rfl) ⟨zx, zy, (b1, o1, l1, k1), (b2, o2, l2, k2), rfl, (show aj w' _ _ _ from hJ.base _ fL), (show aj w' _ _ _ from hJ.base _ iQ), hO1, hO2⟩ (by omega)⟩
     · intro L2 x2 w14 hL hJ;have hfr : Below w13.drew.heap.size w13.drew w14 := hJ.fr;have e0 : x2 93 = .pointer (some ⟨S.lb, 0, none⟩) := hJ.slot 0 (by show 0 < 11; decide) (hL 0 (by show 0 < 11; decide));have e1 : x2 94 = .int .i64 (k : Int) := hJ.slot 1 (by show 1 < 11; decide) (hL 1 (by show 1 < 11; decide));have e2 : x2 95 = .int .i64 (n : Int) := hJ.slot 2 (by show 2 < 11; decide) (hL 2 (by show 2 < 11; decide));obtain ⟨mp, mq, mr, ms, e10, hm1, hm2, hm3, hm4⟩ := hJ.slot 10 (by show 10 < 11; decide) (hL 10 (by show 10 < 11; decide));have e10 : x2 103 = .agg #[.bool mp.1, .slice mp.2.1 mp.2.2.1 mp.2.2.2, .bool mq.1, .slice mq.2.1 mq.2.2.1 mq.2.2.2, .bool mr.1, .slice mr.2.1 mr.2.2.1 mr.2.2.2, .bool ms.1, .slice ms.2.1 ms.2.2.1 ms.2.2.2] := e10;rw [aC (x := x2) (d := 93) (v := .pointer (some ⟨S.lb, 0, none⟩)) e0];rw [aC (x := (bf x2 93 (.pointer (some ⟨S.lb, 0, none⟩)))) (d := 94) (v := .int .i64 (k : Int)) e1];rw [aC (x := (bf (bf x2 93 (.pointer (some ⟨S.lb, 0, none⟩))) 94 (.int .i64 (k : Int)))) (d := 95) (v := .int .i64 (n : Int)) e2];rw [aC (x := (bf (bf (bf x2 93 (.pointer (some ⟨S.lb, 0, none⟩))) 94 (.int .i64 (k : Int))) 95 (.int .i64 (n : Int)))) (d := 103) (v := .agg #[.bool mp.1, .slice mp.2.1 mp.2.2.1 mp.2.2.2, .bool mq.1, .slice mq.2.1 mq.2.2.1 mq.2.2.2, .bool mr.1, .slice mr.2.1 mr.2.2.1 mr.2.2.2, .bool ms.1, .slice ms.2.1 ms.2.2.1 ms.2.2.2]) e10];have LF := hi_ (aD.below (w := w13.drew) LL_5.out.drew hfr);have CF := hi_ (CC_5.out.drew.below hfr);have M1 := hi_ (aj.int (L := B + 2) hm1 hxw);have M2 := hi_ (aj.int (L := B + 2) hm2 hyw);have M3 := hi_ (aj.int (L := B + 2) hm3 (by rw [Int.natAbs_neg]; omega));have M4 := hi_ (aj.int (L := B + 2) hm4 (by omega));clear hJ hL e0 e1 e2 e10 hm1 hm2 hm3 hm4 LL_5 CC_5;refine aP rfl fun K hK => ?_;go_simp;go_at_call 131;have hlx : R1[k].xs.length = R1[n].xs.length := by rw [HF1.out.len _ (List.getElem_mem hkA), HF1.out.len _ (List.getElem_mem hnA)]
       have hlen2 : R1[k].xs.length <= 4611686018427387903 := by rw [HF1.out.len _ (List.getElem_mem hkA)]; omega
       have hdet : XX * aq - YY * (-bq) = 1 := by
        have := xX xp xv (by rw [HGG.out]; exact HG0.out);rw [HGG.out, HXX.out, HYY.out, HAQ.out, HBQ.out] at this;rw [Int.mul_neg];omega
       refine (zZ (S.az R1) k n mp mq mr ms XX YY (-bq) aq (B + 2) B _ LF.out hkA hnA hkn M1.out M2.out M3.out M4.out hlx (fun x hx => HF1.out.fit _ (List.getElem_mem hkA) x hx) (fun y hy => HF1.out.fit _ (List.getElem_mem hnA) y hy) (by omega) hlen2 (HT.out.jz R1) (HT.out.xM HF1.out) (by omega) hdet).mono ?_;rintro e w15 ⟨rfl, hL15, hC15⟩;try dsimp only
       refine hK _ _ ⟨⟨bf (bf (bf (bf (bf x2 93 (.pointer (some ⟨S.lb, 0, none⟩))) 94 (.int .i64 (k : Int))) 95 (.int .i64 (n : Int))) 103 (.agg #[.bool mp.1, .slice mp.2.1 mp.2.2.1 mp.2.2.2, .bool mq.1, .slice mq.2.1 mq.2.2.1 mq.2.2.2, .bool mr.1, .slice mr.2.1 mr.2.2.1 mr.2.2.2, .bool ms.1, .slice ms.2.1 ms.2.2.1 ms.2.2.2])) 104 (.tuple #[]), by kernel_rfl⟩, ?_⟩;clear hK;have hE : dA S.R k n j = kd R1 k n XX YY (-bq) aq hkA hnA := by
        rw [HMT.out, Hxp.out, Hxv.out, HGG.out, HXX.out, HYY.out, HAQ.out, HBQ.out, tJ hkA hnA]
       have hown : ∀ q, (S.az R1).own q ↔ S.own q := by
        intro q;rw [<- HR1.out];unfold bb;rw [mg hn hk];exact fI S n _ q
       have HE := hi_ hE; clear hE;have HO := hi_ hown; clear hown;have LG := hi_ hL15; clear hL15;have CG := hi_ (CF.out.trans (hC15.mono (fun q _ e => (HO.out q).1 e))); clear hC15;go_wp2;refine bodyPost_end (results_none (by kernel_rfl) _ _ _) rfl ?_;rw [HE.out];exact ⟨rfl, LG.out, CG.out⟩
end Go.Proofs.YtjjlmfmoihooiaaGreat
