/- Part 4 of 7 of the proof that the law HnfUnique returns true for every input of bulk at most 1048576 and leaves its arguments as they were: here the contracts of the functions that it calls, and plain lemmas. -/
import Derived.Test.YtknkkceioockjaaGreatPuC
set_option linter.all false
namespace Go.Proofs.YtknkkceioockjaaGreat
open Go.RowKit
set_option maxRecDepth 100000 in
set_option maxHeartbeats 8000000 in
theorem IExt_c (v u : Value) (a b : Int) (w : World) (hA : IntAt w 4398046511103 v a) (hB : IntAt w 4398046511103 u b) :
 Calls Tryz.prog 172 #[v, u] w fun e w' => (∃ g x y vg vx vy, e = .returned (.tuple #[vg, vx, vy]) /\ ExtIs a b g x y /\ OwnI w' w.heap.size vg g /\ OwnI w' w.heap.size vx x /\ OwnI w' w.heap.size vy y) /\ Below w.heap.size w w' := by
 have hla := hA.wlen
 have hlb := hB.wlen
 have hXL := Lib.hid hA
 have hA' := hA.mono (L' := 17592186044415) (by omega)
 have hB' := hB.mono (L' := 17592186044415) (by omega)
 obtain ⟨n, ao, len, cap, ws, rfl, hW, hl, hL1, hc, hx⟩ := hA
 obtain ⟨n2, ao2, len2, cap2, ws2, rfl, hW2, hl2, hL2, hc2, hx2⟩ := hB
 clear hW hW2 hx hx2 hl hl2 hc hc2 hL1 hL2
 go_enter Tryz.func172, Tryz.ntmps172
 go_wp2_with fail
 obtain ⟨r1, r2, r3, r4, r5, hb⟩ := five_new w #[.bool n, .slice ao len cap] #[.bool n2, .slice ao2 len2 cap2] #[.bool false, .slice none 0 0] #[.bool false, .slice none 0 0] #[.bool false, .slice none 0 0] 45 45 45 45 45
 generalize ((((w.alloc (.cells #[.bool n, .slice ao len cap] 45)).alloc (.cells #[.bool n2, .slice ao2 len2 cap2] 45)).alloc (.cells #[.bool false, .slice none 0 0] 45)).alloc (.cells #[.bool false, .slice none 0 0] 45)).alloc (.cells #[.bool false, .slice none 0 0] 45) = w2 at *
 have hs2 : w.heap.size + 4 < w2.heap.size := r5.lt
 have A_0 : Hid (RowAt w2 (w.heap.size) 45 [.bool n, .slice ao len cap]) := Lib.hid (r1)
 have B_0 : Hid (RowAt w2 (w.heap.size + 1) 45 [.bool n2, .slice ao2 len2 cap2]) := Lib.hid (r2)
 have P_0 : Hid (RowAt w2 (w.heap.size + 2) 45 [.bool false, .slice none 0 0]) := Lib.hid (r3)
 have Q_0 : Hid (RowAt w2 (w.heap.size + 3) 45 [.bool false, .slice none 0 0]) := Lib.hid (r4)
 have R_0 : Hid (RowAt w2 (w.heap.size + 4) 45 [.bool false, .slice none 0 0]) := Lib.hid (r5)
 have X_0 : Hid (IntAt w2 (17592186044415) (.agg #[.bool n, .slice ao len cap]) (a)) := Lib.hid (hA'.below hb)
 have Y_0 : Hid (IntAt w2 (17592186044415) (.agg #[.bool n2, .slice ao2 len2 cap2]) (b)) := Lib.hid (hB'.below hb)
 have bw_0 : Hid (Below (w.heap.size) w w2) := Lib.hid (hb)
 clear r1 r2 r3 r4 r5 hb hA' hB'
 refine (ISign_c _ b _ Y_0.out).mono ?_
 rintro e w3 ⟨rfl, hb3⟩
 have sz_1 := (hb3).size
 have A_1 := Lib.hid (RowAt.below (w := w2) A_0.out (hb3) A_0.out.lt)
 have B_1 := Lib.hid (RowAt.below (w := w2) B_0.out (hb3) B_0.out.lt)
 have P_1 := Lib.hid (RowAt.below (w := w2) P_0.out (hb3) P_0.out.lt)
 have Q_1 := Lib.hid (RowAt.below (w := w2) Q_0.out (hb3) Q_0.out.lt)
 have R_1 := Lib.hid (RowAt.below (w := w2) R_0.out (hb3) R_0.out.lt)
 have X_1 := Lib.hid (IntAt.below (w := w2) X_0.out (hb3))
 have Y_1 := Lib.hid (IntAt.below (w := w2) Y_0.out (hb3))
 have bw_1 := Lib.hid (Below.trans bw_0.out (Below.mono (hb3) (by have := bw_0.out.size; omega)))
 clear A_0 B_0 P_0 Q_0 R_0 X_0 Y_0 bw_0
 clear hb3
 by_cases hb0 : b = 0
 · have hz : zsign b = 0 := zsign_beq.2 hb0
   rw [hz]
   go_wp2
   refine wp_region_J ⟨9, fun q_ => [18, 19, 20, 21, 22, 23, 1006, 1007, 1008].getD q_ 0,
    fun q_ => [.val (.agg #[.bool n, .slice ao len cap]), .int (w.heap.size + 5) ((a.natAbs : Nat) : Int), .val (.agg #[.bool n, .slice ao len cap]), .val (.int .i64 (zsign a)), .int (w.heap.size + 5) (zsign a), .val (.agg #[.bool false, .slice none 0 0]), .any, .any, .any].getD q_ .any,
    [(6, w.heap.size + 2, .int (w.heap.size + 5) ((a.natAbs : Nat) : Int)), (7, w.heap.size + 3, .int (w.heap.size + 5) (zsign a)), (8, w.heap.size + 4, .int (w.heap.size + 5) 0)],
    [(.agg #[.bool n, .slice ao len cap], .at_ 17592186044415 a)],
    [(w.heap.size, 45, [.bool n, .slice ao len cap])],
    [], [], []⟩ [18, 19, 20, 21, 22, 23] (w.heap.size + 2) (by kernel_rfl) (by kernel_rfl) (by kernel_rfl) (by kernel_rfl) ?_ ?_ ?_ ?_ ?_ ?_
   · intro p hp
     rcases mc hp with rfl | hp
     · exact X_1.out
     cases hp
   · intro p hp
     rcases mc hp with rfl | hp
     · refine ⟨A_1.out, by show w.heap.size < w3.heap.size; omega, ?_⟩
       intro t ht
       rcases mc ht with rfl | ht
       · show w.heap.size ≠ w.heap.size + 2; omega
       rcases mc ht with rfl | ht
       · show w.heap.size ≠ w.heap.size + 3; omega
       rcases mc ht with rfl | ht
       · show w.heap.size ≠ w.heap.size + 4; omega
       cases ht
     cases hp
   · intro p hp
     cases hp
   · intro t ht
     rcases mc ht with rfl | ht
     · exact ⟨by show w.heap.size + 2 <= w.heap.size + 2; omega, by show w.heap.size + 2 < w3.heap.size; omega, _, _, _, _, P_1.out⟩
     rcases mc ht with rfl | ht
     · exact ⟨by show w.heap.size + 2 <= w.heap.size + 3; omega, by show w.heap.size + 3 < w3.heap.size; omega, _, _, _, _, Q_1.out⟩
     rcases mc ht with rfl | ht
     · exact ⟨by show w.heap.size + 2 <= w.heap.size + 4; omega, by show w.heap.size + 4 < w3.heap.size; omega, _, _, _, _, R_1.out⟩
     cases ht
   · refine allc ?_ (allc ?_ (allc ?_ (allc ?_ (allc ?_ (allc ?_ (allc ?_ (allc ?_ (allc ?_ alln))))))))
     · intro L fx w' hJ hL hp hcl
       refine wpOp_step rfl (fun K hK => ?_)
       simp only [pN, Nat.reduceEqDiff, ↓reduceIte]
       have rw0 := (hJ.rows _ mm0).1
       have cl0 : w'.cell? ⟨w.heap.size, 0, none⟩ = some (.bool n) := rw0.cell 0
       have cl1 : w'.cell? ⟨w.heap.size, 1, none⟩ = some (.slice ao len cap) := rw0.cell 1
       go_simp
       exact hK _ _ ⟨_, by kernel_rfl, hJ.pC 0 rfl (by kernel_rfl) rfl (by omega)⟩
     · intro L fx w' hJ hL hp hcl
       have e0 := hJ.pt 0 18 (.agg #[.bool n, .slice ao len cap]) rfl rfl rfl (hp 0 (by decide))
       rw [e0] at hJ ⊢; clear e0
       refine wpOp_step rfl (fun K hK => ?_)
       simp only [pN, Nat.reduceEqDiff, ↓reduceIte]
       go_simp
       go_at_call 193
       refine (IAbs_c _ a _ (show IntAt w' _ _ a from hJ.base _ mm0)).mono ?_
       rintro e w4 ⟨⟨v5, rfl, h5⟩, hb4⟩
       try dsimp only
       exact hK _ _ ⟨_, by kernel_rfl, hJ.gC 1 rfl (by kernel_rfl) hb4 (OwnI.mono h5 (Nat.le_trans (by omega) hJ.size)) (by omega)⟩
     · intro L fx w' hJ hL hp hcl
       refine wpOp_step rfl (fun K hK => ?_)
       simp only [pN, Nat.reduceEqDiff, ↓reduceIte]
       have rw0 := (hJ.rows _ mm0).1
       have cl0 : w'.cell? ⟨w.heap.size, 0, none⟩ = some (.bool n) := rw0.cell 0
       have cl1 : w'.cell? ⟨w.heap.size, 1, none⟩ = some (.slice ao len cap) := rw0.cell 1
       go_simp
       exact hK _ _ ⟨_, by kernel_rfl, hJ.pC 2 rfl (by kernel_rfl) rfl (by omega)⟩
     · intro L fx w' hJ hL hp hcl
       have e2 := hJ.pt 2 20 (.agg #[.bool n, .slice ao len cap]) rfl rfl rfl (hp 2 (by decide))
       rw [e2] at hJ ⊢; clear e2
       refine wpOp_step rfl (fun K hK => ?_)
       simp only [pN, Nat.reduceEqDiff, ↓reduceIte]
       go_simp
       go_at_call 47
       refine (ISign_c _ a _ (show IntAt w' _ _ a from hJ.base _ mm0)).mono ?_
       rintro e w4 ⟨rfl, hb4⟩
       try dsimp only
       exact hK _ _ ⟨_, by kernel_rfl, hJ.gC 3 rfl (by kernel_rfl) hb4 rfl (by omega)⟩
     · intro L fx w' hJ hL hp hcl
       have e3 := hJ.pt 3 21 (.int .i64 (zsign a)) rfl rfl rfl (hp 3 (by decide))
       rw [e3] at hJ ⊢; clear e3
       refine wpOp_step rfl (fun K hK => ?_)
       simp only [pN, Nat.reduceEqDiff, ↓reduceIte]
       go_simp
       go_at_call 105
       refine (IOf_c (zsign a) _ (by rcases zsign_cases a with h | h | h <;> rw [h] <;> decide) (by rcases zsign_cases a with h | h | h <;> rw [h] <;> decide)).mono ?_
       rintro e w4 ⟨⟨v5, rfl, h5⟩, hb4⟩
       try dsimp only
       exact hK _ _ ⟨_, by kernel_rfl, hJ.gC 4 rfl (by kernel_rfl) hb4 (OwnI.mono h5 (Nat.le_trans (by omega) hJ.size)) (by omega)⟩
     · intro L fx w' hJ hL hp hcl
       refine wpOp_step rfl (fun K hK => ?_)
       simp only [pN, Nat.reduceEqDiff, ↓reduceIte]
       go_simp
       exact hK _ _ ⟨_, by kernel_rfl, hJ.pC 5 rfl (by kernel_rfl) rfl (by omega)⟩
     · intro L fx w' hJ hL hp hcl
       have e1 := hJ.slot 1 (by show 1 < 9; decide) (hp 1 (by decide))
       have hu0 : ∀ t ∈ ([(6, w.heap.size + 2, .int (w.heap.size + 5) ((a.natAbs : Nat) : Int)), (7, w.heap.size + 3, .int (w.heap.size + 5) (zsign a)), (8, w.heap.size + 4, .int (w.heap.size + 5) 0)] : List (Nat × Nat × AV)), t.2.1 = w.heap.size + 2 -> t = (6, w.heap.size + 2, .int (w.heap.size + 5) ((a.natAbs : Nat) : Int)) := by
        intro t ht h
        rcases mc ht with rfl | ht
        · rfl
        rcases mc ht with rfl | ht
        · exact absurd (show w.heap.size + 3 = w.heap.size + 2 from h) (by omega)
        rcases mc ht with rfl | ht
        · exact absurd (show w.heap.size + 4 = w.heap.size + 2 from h) (by omega)
        cases ht
       have hu1 : ∀ t ∈ ([(6, w.heap.size + 2, .int (w.heap.size + 5) ((a.natAbs : Nat) : Int)), (7, w.heap.size + 3, .int (w.heap.size + 5) (zsign a)), (8, w.heap.size + 4, .int (w.heap.size + 5) 0)] : List (Nat × Nat × AV)), t.1 = 6 -> t = (6, w.heap.size + 2, .int (w.heap.size + 5) ((a.natAbs : Nat) : Int)) := by
        intro t ht h
        rcases mc ht with rfl | ht
        · rfl
        rcases mc ht with rfl | ht
        · exact absurd (show 7 = 6 from h) (by decide)
        rcases mc ht with rfl | ht
        · exact absurd (show 8 = 6 from h) (by decide)
        cases ht
       obtain ⟨ao0, cap0, hv0, hO0⟩ := e1
       rw [patchX (x := fx) (d := 19) hv0] at hJ ⊢
       obtain ⟨_, _, a0, b0, l0, k0, hr0, _⟩ := hJ.tgt _ mm0
       have hf0 := RowAt.free hr0 0
       have hf1 := RowAt.free hr0 1
       have hc0 := RowAt.cell hr0 0
       have hc1 := RowAt.cell hr0 1
       try dsimp only at hf0 hf1 hc0 hc1
       refine wpOp_step rfl (fun K hK => ?_)
       simp only [pN, Nat.reduceEqDiff, ↓reduceIte]
       go_simp
       exact hK _ _ ⟨_, by kernel_rfl, hJ.store 6 (w.heap.size + 2) _ (by show 6 < 9; decide) rfl mm0 hu0 hu1 (by kernel_rfl) (by kernel_rfl) _ _ _ _ ⟨ao0, cap0, rfl, hO0⟩⟩
     · intro L fx w' hJ hL hp hcl
       have e4 := hJ.slot 4 (by show 4 < 9; decide) (hp 4 (by decide))
       have hu0 : ∀ t ∈ ([(6, w.heap.size + 2, .int (w.heap.size + 5) ((a.natAbs : Nat) : Int)), (7, w.heap.size + 3, .int (w.heap.size + 5) (zsign a)), (8, w.heap.size + 4, .int (w.heap.size + 5) 0)] : List (Nat × Nat × AV)), t.2.1 = w.heap.size + 3 -> t = (7, w.heap.size + 3, .int (w.heap.size + 5) (zsign a)) := by
        intro t ht h
        rcases mc ht with rfl | ht
        · exact absurd (show w.heap.size + 2 = w.heap.size + 3 from h) (by omega)
        rcases mc ht with rfl | ht
        · rfl
        rcases mc ht with rfl | ht
        · exact absurd (show w.heap.size + 4 = w.heap.size + 3 from h) (by omega)
        cases ht
       have hu1 : ∀ t ∈ ([(6, w.heap.size + 2, .int (w.heap.size + 5) ((a.natAbs : Nat) : Int)), (7, w.heap.size + 3, .int (w.heap.size + 5) (zsign a)), (8, w.heap.size + 4, .int (w.heap.size + 5) 0)] : List (Nat × Nat × AV)), t.1 = 7 -> t = (7, w.heap.size + 3, .int (w.heap.size + 5) (zsign a)) := by
        intro t ht h
        rcases mc ht with rfl | ht
        · exact absurd (show 6 = 7 from h) (by decide)
        rcases mc ht with rfl | ht
        · rfl
        rcases mc ht with rfl | ht
        · exact absurd (show 8 = 7 from h) (by decide)
        cases ht
       obtain ⟨ao0, cap0, hv0, hO0⟩ := e4
       rw [patchX (x := fx) (d := 22) hv0] at hJ ⊢
       obtain ⟨_, _, a0, b0, l0, k0, hr0, _⟩ := hJ.tgt _ mm1
       have hf0 := RowAt.free hr0 0
       have hf1 := RowAt.free hr0 1
       have hc0 := RowAt.cell hr0 0
       have hc1 := RowAt.cell hr0 1
       try dsimp only at hf0 hf1 hc0 hc1
       refine wpOp_step rfl (fun K hK => ?_)
       simp only [pN, Nat.reduceEqDiff, ↓reduceIte]
       go_simp
       exact hK _ _ ⟨_, by kernel_rfl, hJ.store 7 (w.heap.size + 3) _ (by show 7 < 9; decide) rfl mm1 hu0 hu1 (by kernel_rfl) (by kernel_rfl) _ _ _ _ ⟨ao0, cap0, rfl, hO0⟩⟩
     · intro L fx w' hJ hL hp hcl
       have e5 := hJ.pt 5 23 (.agg #[.bool false, .slice none 0 0]) rfl rfl rfl (hp 5 (by decide))
       rw [e5] at hJ ⊢; clear e5
       have hu0 : ∀ t ∈ ([(6, w.heap.size + 2, .int (w.heap.size + 5) ((a.natAbs : Nat) : Int)), (7, w.heap.size + 3, .int (w.heap.size + 5) (zsign a)), (8, w.heap.size + 4, .int (w.heap.size + 5) 0)] : List (Nat × Nat × AV)), t.2.1 = w.heap.size + 4 -> t = (8, w.heap.size + 4, .int (w.heap.size + 5) 0) := by
        intro t ht h
        rcases mc ht with rfl | ht
        · exact absurd (show w.heap.size + 2 = w.heap.size + 4 from h) (by omega)
        rcases mc ht with rfl | ht
        · exact absurd (show w.heap.size + 3 = w.heap.size + 4 from h) (by omega)
        rcases mc ht with rfl | ht
        · rfl
        cases ht
       have hu1 : ∀ t ∈ ([(6, w.heap.size + 2, .int (w.heap.size + 5) ((a.natAbs : Nat) : Int)), (7, w.heap.size + 3, .int (w.heap.size + 5) (zsign a)), (8, w.heap.size + 4, .int (w.heap.size + 5) 0)] : List (Nat × Nat × AV)), t.1 = 8 -> t = (8, w.heap.size + 4, .int (w.heap.size + 5) 0) := by
        intro t ht h
        rcases mc ht with rfl | ht
        · exact absurd (show 6 = 8 from h) (by decide)
        rcases mc ht with rfl | ht
        · exact absurd (show 7 = 8 from h) (by decide)
        rcases mc ht with rfl | ht
        · rfl
        cases ht
       obtain ⟨_, _, a0, b0, l0, k0, hr0, _⟩ := hJ.tgt _ mm2
       have hf0 := RowAt.free hr0 0
       have hf1 := RowAt.free hr0 1
       have hc0 := RowAt.cell hr0 0
       have hc1 := RowAt.cell hr0 1
       try dsimp only at hf0 hf1 hc0 hc1
       refine wpOp_step rfl (fun K hK => ?_)
       simp only [pN, Nat.reduceEqDiff, ↓reduceIte]
       go_simp
       exact hK _ _ ⟨_, by kernel_rfl, hJ.store 8 (w.heap.size + 4) _ (by show 8 < 9; decide) rfl mm2 hu0 hu1 (by kernel_rfl) (by kernel_rfl) _ _ _ _ (OwnI.zero _ _)⟩
   · intro L x' w' hL hJ
     obtain ⟨_, _, a1, b1, l1, k1, hr1, hc1⟩ := hJ.tgt _ mm0
     obtain ⟨_, _, a2, b2, l2, k2, hr2, hc2⟩ := hJ.tgt _ mm1
     obtain ⟨_, _, a3, b3, l3, k3, hr3, hc3⟩ := hJ.tgt _ mm2
     have hI1 : OwnI w' _ (.agg #[.bool a1, .slice b1 l1 k1]) ((a.natAbs : Nat) : Int) := hc1 (hL 6 (by show 6 < 9; decide))
     have hI2 : OwnI w' _ (.agg #[.bool a2, .slice b2 l2 k2]) (zsign a) := hc2 (hL 7 (by show 7 < 9; decide))
     have hI3 : OwnI w' _ (.agg #[.bool a3, .slice b3 l3 k3]) 0 := hc3 (hL 8 (by show 8 < 9; decide))
     have hfr := hJ.fr
     clear hJ hc1 hc2 hc3
     simp only [pN, Nat.reduceEqDiff, ↓reduceIte]
     try go_wp2
     refine bodyPost_ret (results_int3 (p := 4) (p2 := 5) (p3 := 6) (by kernel_rfl) _ _ (w.heap.size + 2) (w.heap.size + 3) (w.heap.size + 4) _ _ _ _ _ _ rfl rfl rfl hr1 hr2 hr3) rfl ?_
     refine ⟨⟨_, _, _, _, _, _, rfl, ?_, hI1.mono (by omega), hI2.mono (by omega), hI3.mono (by omega)⟩, ?_⟩
     · first
        | exact extIs_zero a
        | (rw [hb0]; exact extIs_zero a)
     · exact bw_1.out.trans (((Below.refl w.heap.size w3).drew).trans (hfr.mono (by omega)))
 · have hz0 : ¬ zsign b = 0 := fun h => hb0 (zsign_beq.1 h)
   have hz : (zsign b == 0) = false := by simpa using hz0
   obtain ⟨sb, hsb⟩ : ∃ s, zsign b = s := ⟨_, rfl⟩
   rw [hsb] at hz0 hz ⊢
   clear hsb
   go_wp2
   clear hz hz0
   refine wp_region_J ⟨7, fun q_ => [24, 25, 26, 27, 28, 7, 1006].getD q_ 0,
    fun q_ => [.val (.agg #[.bool n, .slice ao len cap]), .int (w.heap.size + 5) ((a.natAbs : Nat) : Int), .val (.agg #[.bool n2, .slice ao2 len2 cap2]), .int (w.heap.size + 5) ((b.natAbs : Nat) : Int), .int2 (w.heap.size + 5) ((a.natAbs : Nat) : Int) ((b.natAbs : Nat) : Int), .ptr w3.heap.size 155 4, .any].getD q_ .any,
    [],
    [(.agg #[.bool n, .slice ao len cap], .at_ (17592186044415) (a)), (.agg #[.bool n2, .slice ao2 len2 cap2], .at_ (17592186044415) (b))],
    [(w.heap.size, 45, [.bool n, .slice ao len cap]), (w.heap.size + 1, 45, [.bool n2, .slice ao2 len2 cap2]), (w.heap.size + 2, 45, [.bool false, .slice none 0 0]), (w.heap.size + 3, 45, [.bool false, .slice none 0 0]), (w.heap.size + 4, 45, [.bool false, .slice none 0 0])],
    [(6, 7, 155, .int2 (w.heap.size + 5) ((a.natAbs : Nat) : Int) ((b.natAbs : Nat) : Int))], [], [(5, 7)]⟩ [24, 25, 26, 27, 28, 7] (w.heap.size + 2) (by kernel_rfl) (by kernel_rfl) (by kernel_rfl) (by kernel_rfl) ?_ ?_ ?_ ?_ ?_ ?_
   · intro p hp
     rcases mc hp with rfl | hp
     · exact X_1.out
     rcases mc hp with rfl | hp
     · exact Y_1.out
     cases hp
   · intro p hp
     rcases mc hp with rfl | hp
     · refine ⟨A_1.out, by show w.heap.size < w3.heap.size; omega, ?_⟩
       intro t ht
       cases ht
     rcases mc hp with rfl | hp
     · refine ⟨B_1.out, by show w.heap.size + 1 < w3.heap.size; omega, ?_⟩
       intro t ht
       cases ht
     rcases mc hp with rfl | hp
     · refine ⟨P_1.out, by show w.heap.size + 2 < w3.heap.size; omega, ?_⟩
       intro t ht
       cases ht
     rcases mc hp with rfl | hp
     · refine ⟨Q_1.out, by show w.heap.size + 3 < w3.heap.size; omega, ?_⟩
       intro t ht
       cases ht
     rcases mc hp with rfl | hp
     · refine ⟨R_1.out, by show w.heap.size + 4 < w3.heap.size; omega, ?_⟩
       intro t ht
       cases ht
     cases hp
   · intro p hp
     cases hp
   · intro t ht
     cases ht
   · refine allc ?_ (allc ?_ (allc ?_ (allc ?_ (allc ?_ (allc ?_ (allc ?_ alln))))))
     · intro L fx w' hJ hL hp hcl
       refine wpOp_step rfl (fun K hK => ?_)
       simp only [pN, Nat.reduceEqDiff, ↓reduceIte]
       have rw0 := (hJ.rows _ mm0).1
       have cl0 : w'.cell? ⟨w.heap.size, 0, none⟩ = some (.bool n) := rw0.cell 0
       have cl1 : w'.cell? ⟨w.heap.size, 1, none⟩ = some (.slice ao len cap) := rw0.cell 1
       go_simp
       exact hK _ _ ⟨_, by kernel_rfl, hJ.pC 0 rfl (by kernel_rfl) rfl (by omega)⟩
     · intro L fx w' hJ hL hp hcl
       have e0 := hJ.pt 0 24 (.agg #[.bool n, .slice ao len cap]) rfl rfl rfl (hp 0 (by decide))
       rw [e0] at hJ ⊢; clear e0
       refine wpOp_step rfl (fun K hK => ?_)
       simp only [pN, Nat.reduceEqDiff, ↓reduceIte]
       go_simp
       go_at_call 193
       refine (IAbs_c _ a _ (show IntAt w' _ _ a from hJ.base _ mm0)).mono ?_
       rintro e w4 ⟨⟨v5, rfl, h5⟩, hb4⟩
       try dsimp only
       exact hK _ _ ⟨_, by kernel_rfl, hJ.gC 1 rfl (by kernel_rfl) hb4 (OwnI.mono h5 (Nat.le_trans (by omega) hJ.size)) (by omega)⟩
     · intro L fx w' hJ hL hp hcl
       refine wpOp_step rfl (fun K hK => ?_)
       simp only [pN, Nat.reduceEqDiff, ↓reduceIte]
       have rw0 := (hJ.rows _ mm1).1
       have cl0 : w'.cell? ⟨w.heap.size + 1, 0, none⟩ = some (.bool n2) := rw0.cell 0
       have cl1 : w'.cell? ⟨w.heap.size + 1, 1, none⟩ = some (.slice ao2 len2 cap2) := rw0.cell 1
       go_simp
       exact hK _ _ ⟨_, by kernel_rfl, hJ.pC 2 rfl (by kernel_rfl) rfl (by omega)⟩
     · intro L fx w' hJ hL hp hcl
       have e2 := hJ.pt 2 26 (.agg #[.bool n2, .slice ao2 len2 cap2]) rfl rfl rfl (hp 2 (by decide))
       rw [e2] at hJ ⊢; clear e2
       refine wpOp_step rfl (fun K hK => ?_)
       simp only [pN, Nat.reduceEqDiff, ↓reduceIte]
       go_simp
       go_at_call 193
       refine (IAbs_c _ b _ (show IntAt w' _ _ b from hJ.base _ mm1)).mono ?_
       rintro e w4 ⟨⟨v5, rfl, h5⟩, hb4⟩
       try dsimp only
       exact hK _ _ ⟨_, by kernel_rfl, hJ.gC 3 rfl (by kernel_rfl) hb4 (OwnI.mono h5 (Nat.le_trans (by omega) hJ.size)) (by omega)⟩
     · intro L fx w' hJ hL hp hcl
       have e1 := hJ.slot 1 (by show 1 < 7; decide) (hp 1 (by decide))
       have e3 := hJ.slot 3 (by show 3 < 7; decide) (hp 3 (by decide))
       obtain ⟨p1, q1, hv1, hp1⟩ := e1
       obtain ⟨p2, q2, hv2, hp2⟩ := e3
       rw [patchX (x := fx) (d := 25) (v := (.agg #[.bool (decide (((a.natAbs : Nat) : Int) < 0)), .slice p1 (wlen ((a.natAbs : Nat) : Int).natAbs) q1])) hv1] at hJ ⊢
       rw [patchX (x := (updX fx 25 (.agg #[.bool (decide (((a.natAbs : Nat) : Int) < 0)), .slice p1 (wlen ((a.natAbs : Nat) : Int).natAbs) q1]))) (d := 27) (v := (.agg #[.bool (decide (((b.natAbs : Nat) : Int) < 0)), .slice p2 (wlen ((b.natAbs : Nat) : Int).natAbs) q2])) hv2] at hJ ⊢
       refine wpOp_step rfl (fun K hK => ?_)
       simp only [pN, Nat.reduceEqDiff, ↓reduceIte]
       go_simp
       exact hK _ _ ⟨_, by kernel_rfl, hJ.pC 4 rfl (by kernel_rfl) ⟨_, _, _, _, _, _, _, _, rfl, ⟨p1, q1, rfl, hp1⟩, ⟨p2, q2, rfl, hp2⟩⟩ (by omega)⟩
     · intro L fx w' hJ hL hp hcl
       have hg0 : w.heap.size + 2 <= w'.heap.size := Nat.le_trans (by omega : w.heap.size + 2 <= w3.heap.size) hJ.size
       refine wpOp_step rfl (fun K hK => ?_)
       simp only [pN, Nat.reduceEqDiff, ↓reduceIte]
       go_simp
       exact hK _ _ ⟨_, by kernel_rfl, hJ.grow 5 (by show 5 < 7; decide) _ (by kernel_rfl) (by kernel_rfl) (by intro t ht; rcases mc ht with rfl | ht; exact ⟨by show 6 ≠ 5; decide, fun _ => by cases hh : L 6 with | false => rfl | true => have := hcl 6 (by show 6 < 7; decide) hh 5 (by decide); rw [hL] at this; cases this⟩; cases ht) (by intro p hp; rcases mc hp with rfl | hp; exact ⟨⟨fun _ => rfl, fun _ => rfl⟩, fun _ q hq hne hLq => (by rcases mc hq with rfl | hq; exact absurd rfl hne; cases hq)⟩; cases hp) ((Below.refl _ _).alloc (Nat.le_refl _) _) ⟨w'.heap.size, _, rfl, hJ.size, RowAt.new _ _ _, (NoW.bool (NoW.slice (NoW.bool (NoW.slice NoW.nil)))), rfl⟩ hg0⟩
     · intro L fx w' hJ hL hp hcl
       have e5 := hJ.slot 5 (by show 5 < 7; decide) (hp 5 (by decide))
       have e4 := hJ.slot 4 (by show 4 < 7; decide) (hp 4 (by decide))
       obtain ⟨b1, o1, l1, k1, b2, o2, l2, k2, hv0, hO1, hO2⟩ := e4
       rw [patchX (x := fx) (d := 28) (v := (.agg #[.bool b1, .slice o1 l1 k1, .bool b2, .slice o2 l2 k2])) hv0] at hJ ⊢
       obtain ⟨g, cs, hx, hgB, hr0, hn0, hl0⟩ := e5
       obtain ⟨z0, z1, z2, z3, rfl⟩ : ∃ z0 z1 z2 z3, cs = [z0, z1, z2, z3] := list4 hl0
       have hf0 := RowAt.free hr0 0
       have hc0 := RowAt.cell hr0 0
       have hf1 := RowAt.free hr0 1
       have hc1 := RowAt.cell hr0 1
       have hf2 := RowAt.free hr0 2
       have hc2 := RowAt.cell hr0 2
       have hf3 := RowAt.free hr0 3
       have hc3 := RowAt.cell hr0 3
       try dsimp only at hf0 hc0 hf1 hc1 hf2 hc2 hf3 hc3
       have hx1 := hx
       rw [patchX (x := (updX fx 28 (.agg #[.bool b1, .slice o1 l1 k1, .bool b2, .slice o2 l2 k2]))) (d := 7) hx] at hJ ⊢
       refine wpOp_step rfl (fun K hK => ?_)
       simp only [pN, Nat.reduceEqDiff, ↓reduceIte]
       go_simp
       exact hK _ _ ⟨_, by kernel_rfl, hJ.storeNew (us := [.bool b1, .slice o1 l1 k1, .bool b2, .slice o2 l2 k2]) 6 7 _ _ (by show 6 < 7; decide) rfl mm0 (by intro t ht h; rcases mc ht with rfl | ht; rfl; cases ht) (by intro t ht hne hLt; rcases mc ht with rfl | ht; exact absurd rfl hne; cases ht) (by kernel_rfl) (by kernel_rfl) (by decide) (by rfl) hgB hr0 hn0 rfl (NoW.bool (NoW.slice (NoW.bool (NoW.slice NoW.nil)))) ⟨_, _, _, _, _, _, _, _, rfl, hO1, hO2⟩ (by omega)⟩
   · intro L x' wb hL hJ
     have A_2 : Hid (RowAt wb (w.heap.size) 45 [.bool n, .slice ao len cap]) := Lib.hid (hJ.rows _ mm0).1
     have B_2 : Hid (RowAt wb (w.heap.size + 1) 45 [.bool n2, .slice ao2 len2 cap2]) := Lib.hid (hJ.rows _ mm1).1
     have P_2 : Hid (RowAt wb (w.heap.size + 2) 45 [.bool false, .slice none 0 0]) := Lib.hid (hJ.rows _ mm2).1
     have Q_2 : Hid (RowAt wb (w.heap.size + 3) 45 [.bool false, .slice none 0 0]) := Lib.hid (hJ.rows _ mm3).1
     have R_2 : Hid (RowAt wb (w.heap.size + 4) 45 [.bool false, .slice none 0 0]) := Lib.hid (hJ.rows _ mm4).1
     have X_2 : Hid (IntAt wb (17592186044415) (.agg #[.bool n, .slice ao len cap]) (a)) := Lib.hid (hJ.base _ mm0)
     have Y_2 : Hid (IntAt wb (17592186044415) (.agg #[.bool n2, .slice ao2 len2 cap2]) (b)) := Lib.hid (hJ.base _ mm1)
     have bw_2 : Hid (Below (w.heap.size) w wb) := Lib.hid (bw_1.out.trans (((Below.refl (w.heap.size) w3).drew).trans (hJ.fr.mono (by omega))))
     have sz_2 : w3.heap.size <= wb.heap.size := hJ.size
     clear A_1 B_1 P_1 Q_1 R_1 X_1 Y_1 bw_1
     obtain ⟨g7, cs7, hx7, hg7, hr7, b1, o1, l1, k1, b2, o2, l2, k2, hcs, hI1, hI2⟩ := hJ.new _ mm0 (hL 6 (by show 6 < 7; decide))
     subst hcs
     have hx7 : x' 7 = _ := hx7
     rw [patchX (x := x') (d := 7) hx7] at hJ ⊢
     have T7_2 : Hid (RowAt wb (g7) 155 [.bool b1, .slice o1 l1 k1, .bool b2, .slice o2 l2 k2]) := Lib.hid (hr7)
     have R0_2 : Hid (OwnI wb (w.heap.size + 5) (.agg #[.bool b1, .slice o1 l1 k1]) (((a.natAbs : Nat) : Int))) := Lib.hid (hI1)
     have R1_2 : Hid (OwnI wb (w.heap.size + 5) (.agg #[.bool b2, .slice o2 l2 k2]) (((b.natAbs : Nat) : Int))) := Lib.hid (hI2)
     have hg7 : w3.heap.size <= g7 := hg7
     have hg7' : g7 < wb.heap.size := hr7.lt
     clear hJ hx7 hr7 hI1 hI2 hL
     simp only [pN, Nat.reduceEqDiff, ↓reduceIte]
     go_wp2_with fail
     refine (IOf_c 1 _ (by decide) (by decide)).mono ?_
     rintro e w5 ⟨⟨v5, rfl, h5⟩, hb5⟩
     have sz_3 := (hb5).size
     have A_3 := Lib.hid (RowAt.below (w := wb) A_2.out (hb5) A_2.out.lt)
     have B_3 := Lib.hid (RowAt.below (w := wb) B_2.out (hb5) B_2.out.lt)
     have P_3 := Lib.hid (RowAt.below (w := wb) P_2.out (hb5) P_2.out.lt)
     have Q_3 := Lib.hid (RowAt.below (w := wb) Q_2.out (hb5) Q_2.out.lt)
     have R_3 := Lib.hid (RowAt.below (w := wb) R_2.out (hb5) R_2.out.lt)
     have T7_3 := Lib.hid (RowAt.below (w := wb) T7_2.out (hb5) T7_2.out.lt)
     have X_3 := Lib.hid (IntAt.below (w := wb) X_2.out (hb5))
     have Y_3 := Lib.hid (IntAt.below (w := wb) Y_2.out (hb5))
     have R0_3 := Lib.hid (OwnI.below (w := wb) R0_2.out (hb5))
     have R1_3 := Lib.hid (OwnI.below (w := wb) R1_2.out (hb5))
     have bw_3 := Lib.hid (Below.trans bw_2.out (Below.mono (hb5) (by have := bw_2.out.size; omega)))
     clear A_2 B_2 P_2 Q_2 R_2 T7_2 X_2 Y_2 R0_2 R1_2 bw_2
     obtain ⟨b3, o3, l3, k3, rfl⟩ := h5.parts
     have M0_3 : Hid (OwnI w5 (w.heap.size + 5) (.agg #[.bool b3, .slice o3 l3 k3]) (1)) := Lib.hid (h5.mono (by omega))
     clear h5 hb5
     go_wp2_with fail
     refine (IOf_c 0 _ (by decide) (by decide)).mono ?_
     rintro e w6 ⟨⟨v6, rfl, h6⟩, hb6⟩
     have sz_4 := (hb6).size
     have A_4 := Lib.hid (RowAt.below (w := w5) A_3.out (hb6) A_3.out.lt)
     have B_4 := Lib.hid (RowAt.below (w := w5) B_3.out (hb6) B_3.out.lt)
     have P_4 := Lib.hid (RowAt.below (w := w5) P_3.out (hb6) P_3.out.lt)
     have Q_4 := Lib.hid (RowAt.below (w := w5) Q_3.out (hb6) Q_3.out.lt)
     have R_4 := Lib.hid (RowAt.below (w := w5) R_3.out (hb6) R_3.out.lt)
     have T7_4 := Lib.hid (RowAt.below (w := w5) T7_3.out (hb6) T7_3.out.lt)
     have X_4 := Lib.hid (IntAt.below (w := w5) X_3.out (hb6))
     have Y_4 := Lib.hid (IntAt.below (w := w5) Y_3.out (hb6))
     have R0_4 := Lib.hid (OwnI.below (w := w5) R0_3.out (hb6))
     have R1_4 := Lib.hid (OwnI.below (w := w5) R1_3.out (hb6))
     have M0_4 := Lib.hid (OwnI.below (w := w5) M0_3.out (hb6))
     have bw_4 := Lib.hid (Below.trans bw_3.out (Below.mono (hb6) (by have := bw_3.out.size; omega)))
     clear A_3 B_3 P_3 Q_3 R_3 T7_3 X_3 Y_3 R0_3 R1_3 M0_3 bw_3
     obtain ⟨b4, o4, l4, k4, rfl⟩ := h6.parts
     have M1_4 : Hid (OwnI w6 (w.heap.size + 5) (.agg #[.bool b4, .slice o4 l4 k4]) (0)) := Lib.hid (h6.mono (by omega))
     clear h6 hb6
     go_wp2
     have hr8 := RowAt.new w6 #[.bool b3, .slice o3 l3 k3, .bool b4, .slice o4 l4 k4] 155
     have hb8 : Below w6.heap.size w6 (w6.alloc (.cells #[.bool b3, .slice o3 l3 k3, .bool b4, .slice o4 l4 k4] 155)) := (Below.refl _ _).alloc (Nat.le_refl _) _
     generalize (w6.alloc (.cells #[.bool b3, .slice o3 l3 k3, .bool b4, .slice o4 l4 k4] 155)) = w7 at *
     have sz_5 := (hb8).size
     have A_5 := Lib.hid (RowAt.below (w := w6) A_4.out (hb8) A_4.out.lt)
     have B_5 := Lib.hid (RowAt.below (w := w6) B_4.out (hb8) B_4.out.lt)
     have P_5 := Lib.hid (RowAt.below (w := w6) P_4.out (hb8) P_4.out.lt)
     have Q_5 := Lib.hid (RowAt.below (w := w6) Q_4.out (hb8) Q_4.out.lt)
     have R_5 := Lib.hid (RowAt.below (w := w6) R_4.out (hb8) R_4.out.lt)
     have T7_5 := Lib.hid (RowAt.below (w := w6) T7_4.out (hb8) T7_4.out.lt)
     have X_5 := Lib.hid (IntAt.below (w := w6) X_4.out (hb8))
     have Y_5 := Lib.hid (IntAt.below (w := w6) Y_4.out (hb8))
     have R0_5 := Lib.hid (OwnI.below (w := w6) R0_4.out (hb8))
     have R1_5 := Lib.hid (OwnI.below (w := w6) R1_4.out (hb8))
     have M0_5 := Lib.hid (OwnI.below (w := w6) M0_4.out (hb8))
     have M1_5 := Lib.hid (OwnI.below (w := w6) M1_4.out (hb8))
     have bw_5 := Lib.hid (Below.trans bw_4.out (Below.mono (hb8) (by have := bw_4.out.size; omega)))
     clear A_4 B_4 P_4 Q_4 R_4 T7_4 X_4 Y_4 R0_4 R1_4 M0_4 M1_4 bw_4
     have T8_5 : Hid (RowAt w7 (w6.heap.size) 155 [.bool b3, .slice o3 l3 k3, .bool b4, .slice o4 l4 k4]) := Lib.hid (hr8)
     obtain ⟨μ, hμ⟩ := least_fun (fun k wr => ExtL w a b n ao len cap n2 ao2 len2 cap2 g7 w6.heap.size k wr)
     go_loopw [] (fun wr => ∃ k, ExtL w a b n ao len cap n2 ao2 len2 cap2 g7 w6.heap.size k wr) (fun wr => μ wr)
     case atStart =>
      exact ⟨b.natAbs, A_5.out, B_5.out, P_5.out, Q_5.out, R_5.out, X_5.out, Y_5.out, bw_5.out, ⟨by omega, by omega⟩, _, _, _, _, _, _, _, _, _, _, _, _, _, _, _, _, _, _, _, EInv.start _ hb0, ⟨Nat.le_max_left .., Nat.le_max_right ..⟩, T7_5.out, T8_5.out, R0_5.out, R1_5.out, M0_5.out, M1_5.out⟩
     case round =>
      obtain ⟨k0, hk0⟩ := hrel
      have hI := (hμ _ _ hk0).1
      obtain ⟨kv, hK⟩ : ∃ kv, μ wr = kv := ⟨_, rfl⟩
      rw [hK] at hI
      have HK := Lib.hid hK
      clear hK hk0
      obtain ⟨iA, iB, iP, iQ, iR, iX, iY, ibw, ⟨lo1, lo2⟩, r0, m0, m1, b1, o1, l1, k1, b2, o2, l2, k2, b3, o3, l3, k3, b4, o4, l4, k4, iE, ⟨im0, im1⟩, iT7, iT8, iR0, iR1, iM0, iM1⟩ := hI
      obtain ⟨g8, hg8⟩ : ∃ g8, w6.heap.size = g8 := ⟨_, rfl⟩
      rw [hg8] at iT8 lo2 hμ ⊢
      have HG8 := Lib.hid hg8
      clear hg8
      clear A_5 B_5 P_5 Q_5 R_5 T7_5 T8_5 X_5 Y_5 R0_5 R1_5 M0_5 M1_5 bw_5
      have A_0 : Hid (RowAt wr (w.heap.size) 45 [.bool n, .slice ao len cap]) := Lib.hid (iA)
      have B_0 : Hid (RowAt wr (w.heap.size + 1) 45 [.bool n2, .slice ao2 len2 cap2]) := Lib.hid (iB)
      have P_0 : Hid (RowAt wr (w.heap.size + 2) 45 [.bool false, .slice none 0 0]) := Lib.hid (iP)
      have Q_0 : Hid (RowAt wr (w.heap.size + 3) 45 [.bool false, .slice none 0 0]) := Lib.hid (iQ)
      have R_0 : Hid (RowAt wr (w.heap.size + 4) 45 [.bool false, .slice none 0 0]) := Lib.hid (iR)
      have T7_0 : Hid (RowAt wr (g7) 155 [.bool b1, .slice o1 l1 k1, .bool b2, .slice o2 l2 k2]) := Lib.hid (iT7)
      have T8_0 : Hid (RowAt wr (g8) 155 [.bool b3, .slice o3 l3 k3, .bool b4, .slice o4 l4 k4]) := Lib.hid (iT8)
      have X_0 : Hid (IntAt wr (17592186044415) (.agg #[.bool n, .slice ao len cap]) (a)) := Lib.hid (iX)
      have Y_0 : Hid (IntAt wr (17592186044415) (.agg #[.bool n2, .slice ao2 len2 cap2]) (b)) := Lib.hid (iY)
      have R0_0 : Hid (OwnI wr (w.heap.size + 5) (.agg #[.bool b1, .slice o1 l1 k1]) ((r0 : Int))) := Lib.hid (iR0)
      have R1_0 : Hid (OwnI wr (w.heap.size + 5) (.agg #[.bool b2, .slice o2 l2 k2]) ((kv : Int))) := Lib.hid (iR1)
      have M0_0 : Hid (OwnI wr (w.heap.size + 5) (.agg #[.bool b3, .slice o3 l3 k3]) (m0)) := Lib.hid (iM0)
      have M1_0 : Hid (OwnI wr (w.heap.size + 5) (.agg #[.bool b4, .slice o4 l4 k4]) (m1)) := Lib.hid (iM1)
      have bw_0 : Hid (Below (w.heap.size) w wr) := Lib.hid (ibw)
      have hs8 : g8 < wr.heap.size := iT8.lt
      clear iA iB iP iQ iR iX iY ibw iT7 iT8 iR0 iR1 iM0 iM1
      have HE := Lib.hid iE; clear iE
      have hwmax : wlen (max a.natAbs b.natAbs) <= 4398046511103 := by rcases Nat.le_total a.natAbs b.natAbs with h | h <;> simp [Nat.max_eq_left, Nat.max_eq_right, h, hla, hlb]
      have hwr0 : wlen ((r0 : Int)).natAbs <= 4398046511103 := Nat.le_trans (wlen_mono im0) hwmax
      have hwr1 : wlen ((kv : Int)).natAbs <= 4398046511103 := Nat.le_trans (wlen_mono im1) hwmax
      have hwm0 : wlen m0.natAbs <= 4398046511103 := Nat.le_trans (wlen_mono HE.out.k0) hlb
      have hwm1 : wlen m1.natAbs <= 4398046511103 := Nat.le_trans (wlen_mono HE.out.k1) hlb
      have IM0 := Lib.hid im0; clear im0
      have IM1 := Lib.hid im1; clear im1
      have d0 : wr.cell? ⟨g7, 0, none⟩ = some (.bool b1) := T7_0.out.cell 0
      have d1 : wr.cell? ⟨g7, 1, none⟩ = some (.slice o1 l1 k1) := T7_0.out.cell 1
      have d2 : wr.cell? ⟨g7, 2, none⟩ = some (.bool b2) := T7_0.out.cell 2
      have d3 : wr.cell? ⟨g7, 3, none⟩ = some (.slice o2 l2 k2) := T7_0.out.cell 3
      go_wp2_with fail
      refine (ISign_c _ (kv : Int) _ (OwnI.int R1_0.out (by omega))).mono ?_
      rintro e w8 ⟨rfl, hb8⟩
      have sz_1 := (hb8).size
      have A_1 := Lib.hid (RowAt.below (w := wr) A_0.out (hb8) A_0.out.lt)
      have B_1 := Lib.hid (RowAt.below (w := wr) B_0.out (hb8) B_0.out.lt)
      have P_1 := Lib.hid (RowAt.below (w := wr) P_0.out (hb8) P_0.out.lt)
      have Q_1 := Lib.hid (RowAt.below (w := wr) Q_0.out (hb8) Q_0.out.lt)
      have R_1 := Lib.hid (RowAt.below (w := wr) R_0.out (hb8) R_0.out.lt)
      have T7_1 := Lib.hid (RowAt.below (w := wr) T7_0.out (hb8) T7_0.out.lt)
      have T8_1 := Lib.hid (RowAt.below (w := wr) T8_0.out (hb8) T8_0.out.lt)
      have X_1 := Lib.hid (IntAt.below (w := wr) X_0.out (hb8))
      have Y_1 := Lib.hid (IntAt.below (w := wr) Y_0.out (hb8))
      have R0_1 := Lib.hid (OwnI.below (w := wr) R0_0.out (hb8))
      have R1_1 := Lib.hid (OwnI.below (w := wr) R1_0.out (hb8))
      have M0_1 := Lib.hid (OwnI.below (w := wr) M0_0.out (hb8))
      have M1_1 := Lib.hid (OwnI.below (w := wr) M1_0.out (hb8))
      have bw_1 := Lib.hid (Below.trans bw_0.out (Below.mono (hb8) (by have := bw_0.out.size; omega)))
      clear A_0 B_0 P_0 Q_0 R_0 T7_0 T8_0 X_0 Y_0 R0_0 R1_0 M0_0 M1_0 bw_0
      clear d0 d1 d2 d3 hb8
      by_cases hK0 : kv = 0
      · have hz : zsign ((kv : Nat) : Int) = 0 := by rw [hK0]; rfl
        rw [hz]
        clear hz
        subst hK0
        have hdn := EInv.done hb0 HE.out
        have HDN := Lib.hid hdn; clear hdn
        go_wp2
        refine wp_region_J ⟨6, fun q_ => [60, 61, 62, 63, 1004, 1005].getD q_ 0,
         fun q_ => [.val (.pointer (some ⟨g7, 0, none⟩)), .val (.agg #[.bool b1, .slice o1 l1 k1]), .val (.pointer (some ⟨g8, 0, none⟩)), .val (.agg #[.bool b3, .slice o3 l3 k3]), .any, .any].getD q_ .any,
         [(4, w.heap.size + 2, .int (w.heap.size + 5) (r0 : Int)), (5, w.heap.size + 3, .int (w.heap.size + 5) m0)],
         [(.agg #[.bool n, .slice ao len cap], .at_ (17592186044415) (a)), (.agg #[.bool n2, .slice ao2 len2 cap2], .at_ (17592186044415) (b)), (.agg #[.bool b1, .slice o1 l1 k1], .int (w.heap.size + 5) ((r0 : Int))), (.agg #[.bool b2, .slice o2 l2 k2], .int (w.heap.size + 5) (((0 : Nat) : Int))), (.agg #[.bool b3, .slice o3 l3 k3], .int (w.heap.size + 5) (m0)), (.agg #[.bool b4, .slice o4 l4 k4], .int (w.heap.size + 5) (m1))],
         [(w.heap.size, 45, [.bool n, .slice ao len cap]), (w.heap.size + 1, 45, [.bool n2, .slice ao2 len2 cap2]), (w.heap.size + 4, 45, [.bool false, .slice none 0 0]), (g7, 155, [.bool b1, .slice o1 l1 k1, .bool b2, .slice o2 l2 k2]), (g8, 155, [.bool b3, .slice o3 l3 k3, .bool b4, .slice o4 l4 k4])],
         [], [], []⟩ [60, 61, 62, 63] (w.heap.size + 2) (by kernel_rfl) (by kernel_rfl) (by kernel_rfl) (by kernel_rfl) ?_ ?_ ?_ ?_ ?_ ?_
        · intro p hp
          rcases mc hp with rfl | hp
          · exact X_1.out
          rcases mc hp with rfl | hp
          · exact Y_1.out
          rcases mc hp with rfl | hp
          · exact R0_1.out
          rcases mc hp with rfl | hp
          · exact R1_1.out
          rcases mc hp with rfl | hp
          · exact M0_1.out
          rcases mc hp with rfl | hp
          · exact M1_1.out
          cases hp
        · intro p hp
          rcases mc hp with rfl | hp
          · refine ⟨A_1.out, by show w.heap.size < w8.heap.size; omega, ?_⟩
            intro t ht
            rcases mc ht with rfl | ht
            · show w.heap.size ≠ w.heap.size + 2; omega
            rcases mc ht with rfl | ht
            · show w.heap.size ≠ w.heap.size + 3; omega
            cases ht
          rcases mc hp with rfl | hp
          · refine ⟨B_1.out, by show w.heap.size + 1 < w8.heap.size; omega, ?_⟩
            intro t ht
            rcases mc ht with rfl | ht
            · show w.heap.size + 1 ≠ w.heap.size + 2; omega
            rcases mc ht with rfl | ht
            · show w.heap.size + 1 ≠ w.heap.size + 3; omega
            cases ht
          rcases mc hp with rfl | hp
          · refine ⟨R_1.out, by show w.heap.size + 4 < w8.heap.size; omega, ?_⟩
            intro t ht
            rcases mc ht with rfl | ht
            · show w.heap.size + 4 ≠ w.heap.size + 2; omega
            rcases mc ht with rfl | ht
            · show w.heap.size + 4 ≠ w.heap.size + 3; omega
            cases ht
          rcases mc hp with rfl | hp
          · refine ⟨T7_1.out, by show g7 < w8.heap.size; omega, ?_⟩
            intro t ht
            rcases mc ht with rfl | ht
            · show g7 ≠ w.heap.size + 2; omega
            rcases mc ht with rfl | ht
            · show g7 ≠ w.heap.size + 3; omega
            cases ht
          rcases mc hp with rfl | hp
          · refine ⟨T8_1.out, by show g8 < w8.heap.size; omega, ?_⟩
            intro t ht
            rcases mc ht with rfl | ht
            · show g8 ≠ w.heap.size + 2; omega
            rcases mc ht with rfl | ht
            · show g8 ≠ w.heap.size + 3; omega
            cases ht
          cases hp
        · intro p hp
          cases hp
        · intro t ht
          rcases mc ht with rfl | ht
          · exact ⟨by show w.heap.size + 2 <= w.heap.size + 2; omega, by show w.heap.size + 2 < w8.heap.size; omega, _, _, _, _, P_1.out⟩
          rcases mc ht with rfl | ht
          · exact ⟨by show w.heap.size + 2 <= w.heap.size + 3; omega, by show w.heap.size + 3 < w8.heap.size; omega, _, _, _, _, Q_1.out⟩
          cases ht
        · refine allc ?_ (allc ?_ (allc ?_ (allc ?_ (allc ?_ (allc ?_ alln)))))
          · intro L fx w' hJ hL hp hcl
            refine wpOp_step rfl (fun K hK => ?_)
            simp only [pN, Nat.reduceEqDiff, ↓reduceIte]
            go_simp
            exact hK _ _ ⟨_, by kernel_rfl, hJ.pC 0 rfl (by kernel_rfl) rfl (by omega)⟩
          · intro L fx w' hJ hL hp hcl
            have e0 := hJ.pt 0 60 (.pointer (some ⟨g7, 0, none⟩)) rfl rfl rfl (hp 0 (by decide))
            rw [e0] at hJ ⊢; clear e0
            refine wpOp_step rfl (fun K hK => ?_)
            simp only [pN, Nat.reduceEqDiff, ↓reduceIte]
            have rw0 := (hJ.rows _ mm3).1
            have cl0 : w'.cell? ⟨g7, 0, none⟩ = some (.bool b1) := rw0.cell 0
            have cl1 : w'.cell? ⟨g7, 1, none⟩ = some (.slice o1 l1 k1) := rw0.cell 1
            go_simp
            exact hK _ _ ⟨_, by kernel_rfl, hJ.pC 1 rfl (by kernel_rfl) rfl (by omega)⟩
          · intro L fx w' hJ hL hp hcl
            refine wpOp_step rfl (fun K hK => ?_)
            simp only [pN, Nat.reduceEqDiff, ↓reduceIte]
            go_simp
            exact hK _ _ ⟨_, by kernel_rfl, hJ.pC 2 rfl (by kernel_rfl) rfl (by omega)⟩
          · intro L fx w' hJ hL hp hcl
            have e2 := hJ.pt 2 62 (.pointer (some ⟨g8, 0, none⟩)) rfl rfl rfl (hp 2 (by decide))
            rw [e2] at hJ ⊢; clear e2
            refine wpOp_step rfl (fun K hK => ?_)
            simp only [pN, Nat.reduceEqDiff, ↓reduceIte]
            have rw0 := (hJ.rows _ mm4).1
            have cl0 : w'.cell? ⟨g8, 0, none⟩ = some (.bool b3) := rw0.cell 0
            have cl1 : w'.cell? ⟨g8, 1, none⟩ = some (.slice o3 l3 k3) := rw0.cell 1
            go_simp
            exact hK _ _ ⟨_, by kernel_rfl, hJ.pC 3 rfl (by kernel_rfl) rfl (by omega)⟩
          · intro L fx w' hJ hL hp hcl
            have e1 := hJ.pt 1 61 (.agg #[.bool b1, .slice o1 l1 k1]) rfl rfl rfl (hp 1 (by decide))
            rw [e1] at hJ ⊢; clear e1
            have hu0 : ∀ t ∈ ([(4, w.heap.size + 2, .int (w.heap.size + 5) (r0 : Int)), (5, w.heap.size + 3, .int (w.heap.size + 5) m0)] : List (Nat × Nat × AV)), t.2.1 = w.heap.size + 2 -> t = (4, w.heap.size + 2, .int (w.heap.size + 5) (r0 : Int)) := by
             intro t ht h
             rcases mc ht with rfl | ht
             · rfl
             rcases mc ht with rfl | ht
             · exact absurd (show w.heap.size + 3 = w.heap.size + 2 from h) (by omega)
             cases ht
            have hu1 : ∀ t ∈ ([(4, w.heap.size + 2, .int (w.heap.size + 5) (r0 : Int)), (5, w.heap.size + 3, .int (w.heap.size + 5) m0)] : List (Nat × Nat × AV)), t.1 = 4 -> t = (4, w.heap.size + 2, .int (w.heap.size + 5) (r0 : Int)) := by
             intro t ht h
             rcases mc ht with rfl | ht
             · rfl
             rcases mc ht with rfl | ht
             · exact absurd (show 5 = 4 from h) (by decide)
             cases ht
            obtain ⟨_, _, a0, b0, l0, k0, hr0, _⟩ := hJ.tgt _ mm0
            have hf0 := RowAt.free hr0 0
            have hf1 := RowAt.free hr0 1
            have hc0 := RowAt.cell hr0 0
            have hc1 := RowAt.cell hr0 1
            try dsimp only at hf0 hf1 hc0 hc1
            refine wpOp_step rfl (fun K hK => ?_)
            simp only [pN, Nat.reduceEqDiff, ↓reduceIte]
            go_simp
            exact hK _ _ ⟨_, by kernel_rfl, hJ.store 4 (w.heap.size + 2) _ (by show 4 < 6; decide) rfl mm0 hu0 hu1 (by kernel_rfl) (by kernel_rfl) _ _ _ _ (show OwnI w' (w.heap.size + 5) (.agg #[.bool b1, .slice o1 l1 k1]) ((r0 : Int)) from hJ.base _ mm2)⟩
          · intro L fx w' hJ hL hp hcl
            have e3 := hJ.pt 3 63 (.agg #[.bool b3, .slice o3 l3 k3]) rfl rfl rfl (hp 3 (by decide))
            rw [e3] at hJ ⊢; clear e3
            have hu0 : ∀ t ∈ ([(4, w.heap.size + 2, .int (w.heap.size + 5) (r0 : Int)), (5, w.heap.size + 3, .int (w.heap.size + 5) m0)] : List (Nat × Nat × AV)), t.2.1 = w.heap.size + 3 -> t = (5, w.heap.size + 3, .int (w.heap.size + 5) m0) := by
             intro t ht h
             rcases mc ht with rfl | ht
             · exact absurd (show w.heap.size + 2 = w.heap.size + 3 from h) (by omega)
             rcases mc ht with rfl | ht
             · rfl
             cases ht
            have hu1 : ∀ t ∈ ([(4, w.heap.size + 2, .int (w.heap.size + 5) (r0 : Int)), (5, w.heap.size + 3, .int (w.heap.size + 5) m0)] : List (Nat × Nat × AV)), t.1 = 5 -> t = (5, w.heap.size + 3, .int (w.heap.size + 5) m0) := by
             intro t ht h
             rcases mc ht with rfl | ht
             · exact absurd (show 4 = 5 from h) (by decide)
             rcases mc ht with rfl | ht
             · rfl
             cases ht
            obtain ⟨_, _, a0, b0, l0, k0, hr0, _⟩ := hJ.tgt _ mm1
            have hf0 := RowAt.free hr0 0
            have hf1 := RowAt.free hr0 1
            have hc0 := RowAt.cell hr0 0
            have hc1 := RowAt.cell hr0 1
            try dsimp only at hf0 hf1 hc0 hc1
            refine wpOp_step rfl (fun K hK => ?_)
            simp only [pN, Nat.reduceEqDiff, ↓reduceIte]
            go_simp
            exact hK _ _ ⟨_, by kernel_rfl, hJ.store 5 (w.heap.size + 3) _ (by show 5 < 6; decide) rfl mm1 hu0 hu1 (by kernel_rfl) (by kernel_rfl) _ _ _ _ (show OwnI w' (w.heap.size + 5) (.agg #[.bool b3, .slice o3 l3 k3]) (m0) from hJ.base _ mm4)⟩
        · intro L x' wc hL hJ
          have A_2 : Hid (RowAt wc (w.heap.size) 45 [.bool n, .slice ao len cap]) := Lib.hid (hJ.rows _ mm0).1
          have B_2 : Hid (RowAt wc (w.heap.size + 1) 45 [.bool n2, .slice ao2 len2 cap2]) := Lib.hid (hJ.rows _ mm1).1
          have R_2 : Hid (RowAt wc (w.heap.size + 4) 45 [.bool false, .slice none 0 0]) := Lib.hid (hJ.rows _ mm2).1
          have T7_2 : Hid (RowAt wc (g7) 155 [.bool b1, .slice o1 l1 k1, .bool b2, .slice o2 l2 k2]) := Lib.hid (hJ.rows _ mm3).1
          have T8_2 : Hid (RowAt wc (g8) 155 [.bool b3, .slice o3 l3 k3, .bool b4, .slice o4 l4 k4]) := Lib.hid (hJ.rows _ mm4).1
          have X_2 : Hid (IntAt wc (17592186044415) (.agg #[.bool n, .slice ao len cap]) (a)) := Lib.hid (hJ.base _ mm0)
          have Y_2 : Hid (IntAt wc (17592186044415) (.agg #[.bool n2, .slice ao2 len2 cap2]) (b)) := Lib.hid (hJ.base _ mm1)
          have R0_2 : Hid (OwnI wc (w.heap.size + 5) (.agg #[.bool b1, .slice o1 l1 k1]) ((r0 : Int))) := Lib.hid (hJ.base _ mm2)
          have R1_2 : Hid (OwnI wc (w.heap.size + 5) (.agg #[.bool b2, .slice o2 l2 k2]) (((0 : Nat) : Int))) := Lib.hid (hJ.base _ mm3)
          have M0_2 : Hid (OwnI wc (w.heap.size + 5) (.agg #[.bool b3, .slice o3 l3 k3]) (m0)) := Lib.hid (hJ.base _ mm4)
          have M1_2 : Hid (OwnI wc (w.heap.size + 5) (.agg #[.bool b4, .slice o4 l4 k4]) (m1)) := Lib.hid (hJ.base _ mm5)
          have bw_2 : Hid (Below (w.heap.size) w wc) := Lib.hid (bw_1.out.trans (((Below.refl (w.heap.size) w8).drew).trans (hJ.fr.mono (by omega))))
          have sz_2 : w8.heap.size <= wc.heap.size := hJ.size
          clear A_1 B_1 P_1 Q_1 R_1 T7_1 T8_1 X_1 Y_1 R0_1 R1_1 M0_1 M1_1 bw_1
          obtain ⟨_, _, bp, op, lp, kp, hr_P, hc_P⟩ := hJ.tgt _ mm0
          have P_2 : Hid (RowAt wc (w.heap.size + 2) 45 [.bool bp, .slice op lp kp]) := Lib.hid (hr_P)
          have GP_2 : Hid (OwnI wc (w.heap.size + 5) (.agg #[.bool bp, .slice op lp kp]) ((r0 : Int))) := Lib.hid (hc_P (hL 4 (by show 4 < 6; decide)))
          clear hr_P hc_P
          obtain ⟨_, _, bq, oq, lq, kq, hr_Q, hc_Q⟩ := hJ.tgt _ mm1
          have Q_2 : Hid (RowAt wc (w.heap.size + 3) 45 [.bool bq, .slice oq lq kq]) := Lib.hid (hr_Q)
          have MQ_2 : Hid (OwnI wc (w.heap.size + 5) (.agg #[.bool bq, .slice oq lq kq]) (m0)) := Lib.hid (hc_Q (hL 5 (by show 5 < 6; decide)))
          clear hr_Q hc_Q
          clear hJ hL
          clear R0_2
          clear R1_2
          clear M0_2
          clear M1_2
          clear T7_2
          clear T8_2
          simp only [pN, Nat.reduceEqDiff, ↓reduceIte]
          have d0 : wc.cell? ⟨w.heap.size, 0, none⟩ = some (.bool n) := A_2.out.cell 0
          have d1 : wc.cell? ⟨w.heap.size, 1, none⟩ = some (.slice ao len cap) := A_2.out.cell 1
          go_wp2_with fail
          clear d0 d1
          refine (ISign_c _ a _ X_2.out).mono ?_
          rintro e wd ⟨rfl, hbd⟩
          have sz_3 := (hbd).size
          have A_3 := Lib.hid (RowAt.below (w := wc) A_2.out (hbd) A_2.out.lt)
          have B_3 := Lib.hid (RowAt.below (w := wc) B_2.out (hbd) B_2.out.lt)
          have R_3 := Lib.hid (RowAt.below (w := wc) R_2.out (hbd) R_2.out.lt)
          have P_3 := Lib.hid (RowAt.below (w := wc) P_2.out (hbd) P_2.out.lt)
          have Q_3 := Lib.hid (RowAt.below (w := wc) Q_2.out (hbd) Q_2.out.lt)
          have X_3 := Lib.hid (IntAt.below (w := wc) X_2.out (hbd))
          have Y_3 := Lib.hid (IntAt.below (w := wc) Y_2.out (hbd))
          have GP_3 := Lib.hid (OwnI.below (w := wc) GP_2.out (hbd))
          have MQ_3 := Lib.hid (OwnI.below (w := wc) MQ_2.out (hbd))
          have bw_3 := Lib.hid (Below.trans bw_2.out (Below.mono (hbd) (by have := bw_2.out.size; omega)))
          clear A_2 B_2 R_2 P_2 Q_2 X_2 Y_2 GP_2 MQ_2 bw_2
          clear hbd
          by_cases ha : a < 0
          · have hs : (zsign a) = -1 := by unfold zsign; rw [if_pos ha]
            rw [hs]
            have hdm := HDN.out
            rw [if_pos ha] at hdm
            have HDM := Lib.hid hdm; clear hdm
            have HG0 : Hid ((r0 : Int) ≠ 0) := Lib.hid (fun h => by have := HDM.out.1; rw [h] at this; have h2 : Int.gcd a b = 0 := (by omega); exact hb0 (Int.gcd_eq_zero_iff.1 h2).2)
            have d0 : wd.cell? ⟨w.heap.size + 3, 0, none⟩ = some (.bool bq) := Q_3.out.cell 0
            have d1 : wd.cell? ⟨w.heap.size + 3, 1, none⟩ = some (.slice oq lq kq) := Q_3.out.cell 1
            go_wp2_with fail
            clear d0 d1 hs
            refine (INeg_c _ m0 _ (OwnI.int MQ_3.out (by omega))).mono ?_
            rintro e we ⟨⟨vn, rfl, hn⟩, hbe⟩
            have sz_4 := (hbe).size
            have A_4 := Lib.hid (RowAt.below (w := wd) A_3.out (hbe) A_3.out.lt)
            have B_4 := Lib.hid (RowAt.below (w := wd) B_3.out (hbe) B_3.out.lt)
            have R_4 := Lib.hid (RowAt.below (w := wd) R_3.out (hbe) R_3.out.lt)
            have P_4 := Lib.hid (RowAt.below (w := wd) P_3.out (hbe) P_3.out.lt)
            have Q_4 := Lib.hid (RowAt.below (w := wd) Q_3.out (hbe) Q_3.out.lt)
            have X_4 := Lib.hid (IntAt.below (w := wd) X_3.out (hbe))
            have Y_4 := Lib.hid (IntAt.below (w := wd) Y_3.out (hbe))
            have GP_4 := Lib.hid (OwnI.below (w := wd) GP_3.out (hbe))
            have MQ_4 := Lib.hid (OwnI.below (w := wd) MQ_3.out (hbe))
            have bw_4 := Lib.hid (Below.trans bw_3.out (Below.mono (hbe) (by have := bw_3.out.size; omega)))
            clear A_3 B_3 R_3 P_3 Q_3 X_3 Y_3 GP_3 MQ_3 bw_3
            clear hbe
            obtain ⟨bn, on, ln, kn, rfl⟩ := hn.parts
            clear MQ_4
            have MQ_4 : Hid (OwnI we (w.heap.size + 5) (.agg #[.bool bn, .slice on ln kn]) ((-m0))) := Lib.hid (hn.mono (by omega))
            have d0 : we.cell? ⟨w.heap.size + 3, 0, none⟩ = some (.bool bq) := Q_4.out.cell 0
            have d1 : we.cell? ⟨w.heap.size + 3, 1, none⟩ = some (.slice oq lq kq) := Q_4.out.cell 1
            have f0 : we.frozen? ⟨w.heap.size + 3, 0, none⟩ = false := Q_4.out.free 0
            have f1 : we.frozen? ⟨w.heap.size + 3, 1, none⟩ = false := Q_4.out.free 1
            clear hn
            have hwm0 : wlen (-m0).natAbs <= 4398046511103 := by rw [Int.natAbs_neg]; exact hwm0
            obtain ⟨q_1, hq_1⟩ : ∃ wq_, ((we.setCell ⟨w.heap.size + 3, 0, none⟩ (.bool bn)).setCell ⟨w.heap.size + 3, 1, none⟩ (.slice on ln kn)) = wq_ := ⟨_, rfl⟩
            have A_5 : Hid (RowAt q_1 (w.heap.size) 45 [.bool n, .slice ao len cap]) := Lib.hid (by rw [<- hq_1]; exact RowAt.setAll_other (w := we) (g := w.heap.size + 3) (by omega) [.bool bn, .slice on ln kn] 0 A_4.out)
            have B_5 : Hid (RowAt q_1 (w.heap.size + 1) 45 [.bool n2, .slice ao2 len2 cap2]) := Lib.hid (by rw [<- hq_1]; exact RowAt.setAll_other (w := we) (g := w.heap.size + 3) (by omega) [.bool bn, .slice on ln kn] 0 B_4.out)
            have R_5 : Hid (RowAt q_1 (w.heap.size + 4) 45 [.bool false, .slice none 0 0]) := Lib.hid (by rw [<- hq_1]; exact RowAt.setAll_other (w := we) (g := w.heap.size + 3) (by omega) [.bool bn, .slice on ln kn] 0 R_4.out)
            have P_5 : Hid (RowAt q_1 (w.heap.size + 2) 45 [.bool bp, .slice op lp kp]) := Lib.hid (by rw [<- hq_1]; exact RowAt.setAll_other (w := we) (g := w.heap.size + 3) (by omega) [.bool bn, .slice on ln kn] 0 P_4.out)
            have Q_5 : Hid (RowAt q_1 (w.heap.size + 3) 45 [.bool bn, .slice on ln kn]) := Lib.hid (by rw [<- hq_1]; exact RowAt.setAll (w := we) [.bool bn, .slice on ln kn] 0 Q_4.out rfl)
            have X_5 : Hid (IntAt q_1 (17592186044415) (.agg #[.bool n, .slice ao len cap]) (a)) := Lib.hid (by rw [<- hq_1]; exact AV.setAll (AV.at_ (17592186044415) (a)) (by decide) [.bool bn, .slice on ln kn] 0 (w := we) X_4.out Q_4.out (NoW.bool (NoW.slice NoW.nil)) (NoW.bool (NoW.slice NoW.nil)))
            have Y_5 : Hid (IntAt q_1 (17592186044415) (.agg #[.bool n2, .slice ao2 len2 cap2]) (b)) := Lib.hid (by rw [<- hq_1]; exact AV.setAll (AV.at_ (17592186044415) (b)) (by decide) [.bool bn, .slice on ln kn] 0 (w := we) Y_4.out Q_4.out (NoW.bool (NoW.slice NoW.nil)) (NoW.bool (NoW.slice NoW.nil)))
            have GP_5 : Hid (OwnI q_1 (w.heap.size + 5) (.agg #[.bool bp, .slice op lp kp]) ((r0 : Int))) := Lib.hid (by rw [<- hq_1]; exact AV.setAll (AV.int (w.heap.size + 5) ((r0 : Int))) (by decide) [.bool bn, .slice on ln kn] 0 (w := we) GP_4.out Q_4.out (NoW.bool (NoW.slice NoW.nil)) (NoW.bool (NoW.slice NoW.nil)))
            have MQ_5 : Hid (OwnI q_1 (w.heap.size + 5) (.agg #[.bool bn, .slice on ln kn]) ((-m0))) := Lib.hid (by rw [<- hq_1]; exact AV.setAll (AV.int (w.heap.size + 5) ((-m0))) (by decide) [.bool bn, .slice on ln kn] 0 (w := we) MQ_4.out Q_4.out (NoW.bool (NoW.slice NoW.nil)) (NoW.bool (NoW.slice NoW.nil)))
            have bw_5 : Hid (Below (w.heap.size) w q_1) := Lib.hid (by rw [<- hq_1]; exact below_setAll (g := w.heap.size + 3) (by omega) [.bool bn, .slice on ln kn] 0 bw_4.out)
            have sz_5 : q_1.heap.size = we.heap.size := by rw [<- hq_1]; simp
            clear A_4 B_4 R_4 P_4 Q_4 X_4 Y_4 GP_4 MQ_4 bw_4
            subst hq_1
            have dB0 : ((we.setCell ⟨w.heap.size + 3, 0, none⟩ (.bool bn)).setCell ⟨w.heap.size + 3, 1, none⟩ (.slice on ln kn)).cell? ⟨w.heap.size + 1, 0, none⟩ = some (.bool n2) := B_5.out.cell 0
            have dB1 : ((we.setCell ⟨w.heap.size + 3, 0, none⟩ (.bool bn)).setCell ⟨w.heap.size + 3, 1, none⟩ (.slice on ln kn)).cell? ⟨w.heap.size + 1, 1, none⟩ = some (.slice ao2 len2 cap2) := B_5.out.cell 1
            have dP0 : ((we.setCell ⟨w.heap.size + 3, 0, none⟩ (.bool bn)).setCell ⟨w.heap.size + 3, 1, none⟩ (.slice on ln kn)).cell? ⟨w.heap.size + 2, 0, none⟩ = some (.bool bp) := P_5.out.cell 0
            have dP1 : ((we.setCell ⟨w.heap.size + 3, 0, none⟩ (.bool bn)).setCell ⟨w.heap.size + 3, 1, none⟩ (.slice on ln kn)).cell? ⟨w.heap.size + 2, 1, none⟩ = some (.slice op lp kp) := P_5.out.cell 1
            go_wp2_with fail
            clear d0 d1 f0 f1 dB0 dB1 dP0 dP1
            generalize ((we.setCell ⟨w.heap.size + 3, 0, none⟩ (.bool bn)).setCell ⟨w.heap.size + 3, 1, none⟩ (.slice on ln kn)) = wn at *
            obtain ⟨hel1, hel2, hel3, hel4⟩ := ext_last hb0 HDM.out.1 HDM.out.2
            have hel1 := Lib.hid hel1; have hel2 := Lib.hid hel2; have hel3 := Lib.hid hel3; have hel4 := Lib.hid hel4
            have hwb : ((b / (r0 : Int))).natAbs <= b.natAbs := Int.natAbs_ediv_le_natAbs ..
            have hwb2 : wlen ((b / (r0 : Int))).natAbs <= 4398046511103 := Nat.le_trans (wlen_mono hwb) hlb
            have hwx : wlen (((-m0) % (b / (r0 : Int)))).natAbs <= 4398046511103 := Nat.le_trans (wlen_mono (by have h1 := Int.emod_nonneg ((-m0)) hel2.out; have h2 := Int.emod_lt ((-m0)) hel2.out; omega)) hwb2
            have hwax : wlen ((a * ((-m0) % (b / (r0 : Int))))).natAbs <= 8796093022206 := by rw [Int.natAbs_mul]; exact Nat.le_trans (wlen_mul _ _) (by omega)
            have hwg : wlen ((r0 : Int) - a * ((-m0) % (b / (r0 : Int)))).natAbs <= 17592186044415 := Nat.le_trans (wlen_mono (Int.natAbs_sub_le ..)) (Nat.le_trans (wlen_add ..) (by have := Nat.max_le.2 ⟨Nat.le_trans hwr0 (by omega : 4398046511103 <= 8796093022206), hwax⟩; omega))
            have d0 : wn.cell? ⟨w.heap.size + 1, 0, none⟩ = some (.bool n2) := B_5.out.cell 0
            have d1 : wn.cell? ⟨w.heap.size + 1, 1, none⟩ = some (.slice ao2 len2 cap2) := B_5.out.cell 1
            have e0 : wn.cell? ⟨w.heap.size + 2, 0, none⟩ = some (.bool bp) := P_5.out.cell 0
            have e1 : wn.cell? ⟨w.heap.size + 2, 1, none⟩ = some (.slice op lp kp) := P_5.out.cell 1
            go_wp2_with fail
            clear d0 d1 e0 e1
            refine (IExact_c _ _ b (r0 : Int) _ Y_5.out (OwnI.int GP_5.out (by omega)) HG0.out hel1.out).mono ?_
            rintro e wf ⟨⟨vp, rfl, hp⟩, hbf⟩
            have sz_6 := (hbf).size
            have A_6 := Lib.hid (RowAt.below (w := wn) A_5.out (hbf) A_5.out.lt)
            have B_6 := Lib.hid (RowAt.below (w := wn) B_5.out (hbf) B_5.out.lt)
            have R_6 := Lib.hid (RowAt.below (w := wn) R_5.out (hbf) R_5.out.lt)
            have P_6 := Lib.hid (RowAt.below (w := wn) P_5.out (hbf) P_5.out.lt)
            have Q_6 := Lib.hid (RowAt.below (w := wn) Q_5.out (hbf) Q_5.out.lt)
            have X_6 := Lib.hid (IntAt.below (w := wn) X_5.out (hbf))
            have Y_6 := Lib.hid (IntAt.below (w := wn) Y_5.out (hbf))
            have GP_6 := Lib.hid (OwnI.below (w := wn) GP_5.out (hbf))
            have MQ_6 := Lib.hid (OwnI.below (w := wn) MQ_5.out (hbf))
            have bw_6 := Lib.hid (Below.trans bw_5.out (Below.mono (hbf) (by have := bw_5.out.size; omega)))
            clear A_5 B_5 R_5 P_5 Q_5 X_5 Y_5 GP_5 MQ_5 bw_5
            clear hbf
            obtain ⟨be, oe, le, ke, rfl⟩ := hp.parts
            have PE_6 : Hid (OwnI wf (w.heap.size + 5) (.agg #[.bool be, .slice oe le ke]) ((b / (r0 : Int)))) := Lib.hid (hp.mono (by omega))
            clear hp
            have hre := RowAt.new wf #[.bool be, .slice oe le ke] 45
            have hbe : Below wf.heap.size wf (wf.alloc (.cells #[.bool be, .slice oe le ke] 45)) := (Below.refl _ _).alloc (Nat.le_refl _) _
            have sz_7 := (hbe).size
            have A_7 := Lib.hid (RowAt.below (w := wf) A_6.out (hbe) A_6.out.lt)
            have B_7 := Lib.hid (RowAt.below (w := wf) B_6.out (hbe) B_6.out.lt)
            have R_7 := Lib.hid (RowAt.below (w := wf) R_6.out (hbe) R_6.out.lt)
            have P_7 := Lib.hid (RowAt.below (w := wf) P_6.out (hbe) P_6.out.lt)
            have Q_7 := Lib.hid (RowAt.below (w := wf) Q_6.out (hbe) Q_6.out.lt)
            have X_7 := Lib.hid (IntAt.below (w := wf) X_6.out (hbe))
            have Y_7 := Lib.hid (IntAt.below (w := wf) Y_6.out (hbe))
            have GP_7 := Lib.hid (OwnI.below (w := wf) GP_6.out (hbe))
            have MQ_7 := Lib.hid (OwnI.below (w := wf) MQ_6.out (hbe))
            have PE_7 := Lib.hid (OwnI.below (w := wf) PE_6.out (hbe))
            have bw_7 := Lib.hid (Below.trans bw_6.out (Below.mono (hbe) (by have := bw_6.out.size; omega)))
            clear A_6 B_6 R_6 P_6 Q_6 X_6 Y_6 GP_6 MQ_6 PE_6 bw_6
            have PR_7 : Hid (RowAt (wf.alloc (.cells #[.bool be, .slice oe le ke] 45)) (wf.heap.size) 45 [.bool be, .slice oe le ke]) := Lib.hid (hre)
            clear hre hbe
            have d0 : (wf.alloc (.cells #[.bool be, .slice oe le ke] 45)).cell? ⟨w.heap.size + 3, 0, none⟩ = some (.bool bn) := Q_7.out.cell 0
            have d1 : (wf.alloc (.cells #[.bool be, .slice oe le ke] 45)).cell? ⟨w.heap.size + 3, 1, none⟩ = some (.slice on ln kn) := Q_7.out.cell 1
            have e0 : (wf.alloc (.cells #[.bool be, .slice oe le ke] 45)).cell? ⟨wf.heap.size, 0, none⟩ = some (.bool be) := PR_7.out.cell 0
            have e1 : (wf.alloc (.cells #[.bool be, .slice oe le ke] 45)).cell? ⟨wf.heap.size, 1, none⟩ = some (.slice oe le ke) := PR_7.out.cell 1
            go_wp2_with fail
            clear d0 d1 e0 e1
            generalize (wf.alloc (.cells #[.bool be, .slice oe le ke] 45)) = wh at *
            have hswh : wf.heap.size < wh.heap.size := PR_7.out.lt
            refine (IMod_c _ _ ((-m0)) (b / (r0 : Int)) _ (OwnI.int MQ_7.out (by omega)) (OwnI.int PE_7.out (by omega)) hel2.out).mono ?_
            rintro e wi ⟨⟨vx, rfl, hxx⟩, hbi⟩
            have sz_8 := (hbi).size
            have A_8 := Lib.hid (RowAt.below (w := wh) A_7.out (hbi) A_7.out.lt)
            have B_8 := Lib.hid (RowAt.below (w := wh) B_7.out (hbi) B_7.out.lt)
            have R_8 := Lib.hid (RowAt.below (w := wh) R_7.out (hbi) R_7.out.lt)
            have P_8 := Lib.hid (RowAt.below (w := wh) P_7.out (hbi) P_7.out.lt)
            have Q_8 := Lib.hid (RowAt.below (w := wh) Q_7.out (hbi) Q_7.out.lt)
            have PR_8 := Lib.hid (RowAt.below (w := wh) PR_7.out (hbi) PR_7.out.lt)
            have X_8 := Lib.hid (IntAt.below (w := wh) X_7.out (hbi))
            have Y_8 := Lib.hid (IntAt.below (w := wh) Y_7.out (hbi))
            have GP_8 := Lib.hid (OwnI.below (w := wh) GP_7.out (hbi))
            have MQ_8 := Lib.hid (OwnI.below (w := wh) MQ_7.out (hbi))
            have PE_8 := Lib.hid (OwnI.below (w := wh) PE_7.out (hbi))
            have bw_8 := Lib.hid (Below.trans bw_7.out (Below.mono (hbi) (by have := bw_7.out.size; omega)))
            clear A_7 B_7 R_7 P_7 Q_7 PR_7 X_7 Y_7 GP_7 MQ_7 PE_7 bw_7
            clear hbi
            obtain ⟨bx, ox, lx, kx, rfl⟩ := hxx.parts
            have XX_8 : Hid (OwnI wi (w.heap.size + 5) (.agg #[.bool bx, .slice ox lx kx]) ((((-m0)) % (b / (r0 : Int))))) := Lib.hid (hxx.mono (by omega))
            clear hxx
            clear MQ_8
            have d0 : wi.cell? ⟨w.heap.size + 3, 0, none⟩ = some (.bool bn) := Q_8.out.cell 0
            have d1 : wi.cell? ⟨w.heap.size + 3, 1, none⟩ = some (.slice on ln kn) := Q_8.out.cell 1
            have f0 : wi.frozen? ⟨w.heap.size + 3, 0, none⟩ = false := Q_8.out.free 0
            have f1 : wi.frozen? ⟨w.heap.size + 3, 1, none⟩ = false := Q_8.out.free 1
            go_wp2_with fail
            clear d0 d1 f0 f1
            obtain ⟨wj, hw_⟩ : ∃ wq_, ((wi.setCell ⟨w.heap.size + 3, 0, none⟩ (.bool bx)).setCell ⟨w.heap.size + 3, 1, none⟩ (.slice ox lx kx)) = wq_ := ⟨_, rfl⟩
            have A_9 : Hid (RowAt wj (w.heap.size) 45 [.bool n, .slice ao len cap]) := Lib.hid (by rw [<- hw_]; exact RowAt.setAll_other (w := wi) (g := w.heap.size + 3) (by omega) [.bool bx, .slice ox lx kx] 0 A_8.out)
            have B_9 : Hid (RowAt wj (w.heap.size + 1) 45 [.bool n2, .slice ao2 len2 cap2]) := Lib.hid (by rw [<- hw_]; exact RowAt.setAll_other (w := wi) (g := w.heap.size + 3) (by omega) [.bool bx, .slice ox lx kx] 0 B_8.out)
            have R_9 : Hid (RowAt wj (w.heap.size + 4) 45 [.bool false, .slice none 0 0]) := Lib.hid (by rw [<- hw_]; exact RowAt.setAll_other (w := wi) (g := w.heap.size + 3) (by omega) [.bool bx, .slice ox lx kx] 0 R_8.out)
            have P_9 : Hid (RowAt wj (w.heap.size + 2) 45 [.bool bp, .slice op lp kp]) := Lib.hid (by rw [<- hw_]; exact RowAt.setAll_other (w := wi) (g := w.heap.size + 3) (by omega) [.bool bx, .slice ox lx kx] 0 P_8.out)
            have Q_9 : Hid (RowAt wj (w.heap.size + 3) 45 [.bool bx, .slice ox lx kx]) := Lib.hid (by rw [<- hw_]; exact RowAt.setAll (w := wi) [.bool bx, .slice ox lx kx] 0 Q_8.out rfl)
            have PR_9 : Hid (RowAt wj (wf.heap.size) 45 [.bool be, .slice oe le ke]) := Lib.hid (by rw [<- hw_]; exact RowAt.setAll_other (w := wi) (g := w.heap.size + 3) (by omega) [.bool bx, .slice ox lx kx] 0 PR_8.out)
            have X_9 : Hid (IntAt wj (17592186044415) (.agg #[.bool n, .slice ao len cap]) (a)) := Lib.hid (by rw [<- hw_]; exact AV.setAll (AV.at_ (17592186044415) (a)) (by decide) [.bool bx, .slice ox lx kx] 0 (w := wi) X_8.out Q_8.out (NoW.bool (NoW.slice NoW.nil)) (NoW.bool (NoW.slice NoW.nil)))
            have Y_9 : Hid (IntAt wj (17592186044415) (.agg #[.bool n2, .slice ao2 len2 cap2]) (b)) := Lib.hid (by rw [<- hw_]; exact AV.setAll (AV.at_ (17592186044415) (b)) (by decide) [.bool bx, .slice ox lx kx] 0 (w := wi) Y_8.out Q_8.out (NoW.bool (NoW.slice NoW.nil)) (NoW.bool (NoW.slice NoW.nil)))
            have GP_9 : Hid (OwnI wj (w.heap.size + 5) (.agg #[.bool bp, .slice op lp kp]) ((r0 : Int))) := Lib.hid (by rw [<- hw_]; exact AV.setAll (AV.int (w.heap.size + 5) ((r0 : Int))) (by decide) [.bool bx, .slice ox lx kx] 0 (w := wi) GP_8.out Q_8.out (NoW.bool (NoW.slice NoW.nil)) (NoW.bool (NoW.slice NoW.nil)))
            have PE_9 : Hid (OwnI wj (w.heap.size + 5) (.agg #[.bool be, .slice oe le ke]) ((b / (r0 : Int)))) := Lib.hid (by rw [<- hw_]; exact AV.setAll (AV.int (w.heap.size + 5) ((b / (r0 : Int)))) (by decide) [.bool bx, .slice ox lx kx] 0 (w := wi) PE_8.out Q_8.out (NoW.bool (NoW.slice NoW.nil)) (NoW.bool (NoW.slice NoW.nil)))
            have XX_9 : Hid (OwnI wj (w.heap.size + 5) (.agg #[.bool bx, .slice ox lx kx]) ((((-m0)) % (b / (r0 : Int))))) := Lib.hid (by rw [<- hw_]; exact AV.setAll (AV.int (w.heap.size + 5) ((((-m0)) % (b / (r0 : Int))))) (by decide) [.bool bx, .slice ox lx kx] 0 (w := wi) XX_8.out Q_8.out (NoW.bool (NoW.slice NoW.nil)) (NoW.bool (NoW.slice NoW.nil)))
            have bw_9 : Hid (Below (w.heap.size) w wj) := Lib.hid (by rw [<- hw_]; exact below_setAll (g := w.heap.size + 3) (by omega) [.bool bx, .slice ox lx kx] 0 bw_8.out)
            have sz_9 : wj.heap.size = wi.heap.size := by rw [<- hw_]; simp
            clear A_8 B_8 R_8 P_8 Q_8 PR_8 X_8 Y_8 GP_8 PE_8 XX_8 bw_8
            rw [hw_]
            clear hw_
            have XL_9 : Hid (IntAt wj (4398046511103) (.agg #[.bool n, .slice ao len cap]) (a)) := Lib.hid (IntAt.below hXL.out bw_9.out)
            refine wp_region_J ⟨11, fun q_ => [82, 83, 84, 85, 86, 87, 88, 81, 89, 90, 1010].getD q_ 0,
             fun q_ => [.val (.agg #[.bool bp, .slice op lp kp]), .val (.agg #[.bool n, .slice ao len cap]), .val (.agg #[.bool bx, .slice ox lx kx]), .int (w.heap.size + 5) (a * (((-m0)) % (b / (r0 : Int)))), .int (w.heap.size + 5) ((r0 : Int) - a * (((-m0)) % (b / (r0 : Int)))), .val (.agg #[.bool n2, .slice ao2 len2 cap2]), .tup1 (w.heap.size + 5) (((r0 : Int) - a * (((-m0)) % (b / (r0 : Int)))) / b), .tup1 (w.heap.size + 5) (((r0 : Int) - a * (((-m0)) % (b / (r0 : Int)))) / b), .int (w.heap.size + 5) (((r0 : Int) - a * (((-m0)) % (b / (r0 : Int)))) / b), .val (.int .i64 0), .any].getD q_ .any,
             [(10, w.heap.size + 4, .int (w.heap.size + 5) (((r0 : Int) - a * (((-m0)) % (b / (r0 : Int)))) / b))],
             [(.agg #[.bool n, .slice ao len cap], .at_ (17592186044415) (a)), (.agg #[.bool n2, .slice ao2 len2 cap2], .at_ (17592186044415) (b)), (.agg #[.bool bp, .slice op lp kp], .int (w.heap.size + 5) ((r0 : Int))), (.agg #[.bool be, .slice oe le ke], .int (w.heap.size + 5) ((b / (r0 : Int)))), (.agg #[.bool bx, .slice ox lx kx], .int (w.heap.size + 5) ((((-m0)) % (b / (r0 : Int))))), (.agg #[.bool n, .slice ao len cap], .at_ (4398046511103) (a))],
             [(w.heap.size, 45, [.bool n, .slice ao len cap]), (w.heap.size + 1, 45, [.bool n2, .slice ao2 len2 cap2]), (w.heap.size + 2, 45, [.bool bp, .slice op lp kp]), (w.heap.size + 3, 45, [.bool bx, .slice ox lx kx]), (wf.heap.size, 45, [.bool be, .slice oe le ke])],
             [], [], []⟩ [82, 83, 84, 85, 86, 87, 88, 81, 89, 90] (w.heap.size + 4) (by kernel_rfl) (by kernel_rfl) (by kernel_rfl) (by kernel_rfl) ?_ ?_ ?_ ?_ ?_ ?_
            · intro p hp
              rcases mc hp with rfl | hp
              · exact X_9.out
              rcases mc hp with rfl | hp
              · exact Y_9.out
              rcases mc hp with rfl | hp
              · exact GP_9.out
              rcases mc hp with rfl | hp
              · exact PE_9.out
              rcases mc hp with rfl | hp
              · exact XX_9.out
              rcases mc hp with rfl | hp
              · exact XL_9.out
              cases hp
            · intro p hp
              rcases mc hp with rfl | hp
              · refine ⟨A_9.out, by show w.heap.size < wj.heap.size; omega, ?_⟩
                intro t ht
                rcases mc ht with rfl | ht
                · show w.heap.size ≠ w.heap.size + 4; omega
                cases ht
              rcases mc hp with rfl | hp
              · refine ⟨B_9.out, by show w.heap.size + 1 < wj.heap.size; omega, ?_⟩
                intro t ht
                rcases mc ht with rfl | ht
                · show w.heap.size + 1 ≠ w.heap.size + 4; omega
                cases ht
              rcases mc hp with rfl | hp
              · refine ⟨P_9.out, by show w.heap.size + 2 < wj.heap.size; omega, ?_⟩
                intro t ht
                rcases mc ht with rfl | ht
                · show w.heap.size + 2 ≠ w.heap.size + 4; omega
                cases ht
              rcases mc hp with rfl | hp
              · refine ⟨Q_9.out, by show w.heap.size + 3 < wj.heap.size; omega, ?_⟩
                intro t ht
                rcases mc ht with rfl | ht
                · show w.heap.size + 3 ≠ w.heap.size + 4; omega
                cases ht
              rcases mc hp with rfl | hp
              · refine ⟨PR_9.out, by show wf.heap.size < wj.heap.size; omega, ?_⟩
                intro t ht
                rcases mc ht with rfl | ht
                · show wf.heap.size ≠ w.heap.size + 4; omega
                cases ht
              cases hp
            · intro p hp
              cases hp
            · intro t ht
              rcases mc ht with rfl | ht
              · exact ⟨by show w.heap.size + 4 <= w.heap.size + 4; omega, by show w.heap.size + 4 < wj.heap.size; omega, _, _, _, _, R_9.out⟩
              cases ht
            · refine allc ?_ (allc ?_ (allc ?_ (allc ?_ (allc ?_ (allc ?_ (allc ?_ (allc ?_ (allc ?_ (allc ?_ (allc ?_ alln))))))))))
              · intro L fx w' hJ hL hp hcl
                refine wpOp_step rfl (fun K hK => ?_)
                simp only [pN, Nat.reduceEqDiff, ↓reduceIte]
                have rw0 := (hJ.rows _ mm2).1
                have cl0 : w'.cell? ⟨w.heap.size + 2, 0, none⟩ = some (.bool bp) := rw0.cell 0
                have cl1 : w'.cell? ⟨w.heap.size + 2, 1, none⟩ = some (.slice op lp kp) := rw0.cell 1
                go_simp
                exact hK _ _ ⟨_, by kernel_rfl, hJ.pC 0 rfl (by kernel_rfl) rfl (by omega)⟩
              · intro L fx w' hJ hL hp hcl
                refine wpOp_step rfl (fun K hK => ?_)
                simp only [pN, Nat.reduceEqDiff, ↓reduceIte]
                have rw0 := (hJ.rows _ mm0).1
                have cl0 : w'.cell? ⟨w.heap.size, 0, none⟩ = some (.bool n) := rw0.cell 0
                have cl1 : w'.cell? ⟨w.heap.size, 1, none⟩ = some (.slice ao len cap) := rw0.cell 1
                go_simp
                exact hK _ _ ⟨_, by kernel_rfl, hJ.pC 1 rfl (by kernel_rfl) rfl (by omega)⟩
              · intro L fx w' hJ hL hp hcl
                refine wpOp_step rfl (fun K hK => ?_)
                simp only [pN, Nat.reduceEqDiff, ↓reduceIte]
                have rw0 := (hJ.rows _ mm3).1
                have cl0 : w'.cell? ⟨w.heap.size + 3, 0, none⟩ = some (.bool bx) := rw0.cell 0
                have cl1 : w'.cell? ⟨w.heap.size + 3, 1, none⟩ = some (.slice ox lx kx) := rw0.cell 1
                go_simp
                exact hK _ _ ⟨_, by kernel_rfl, hJ.pC 2 rfl (by kernel_rfl) rfl (by omega)⟩
              · intro L fx w' hJ hL hp hcl
                have e1 := hJ.pt 1 83 (.agg #[.bool n, .slice ao len cap]) rfl rfl rfl (hp 1 (by decide))
                rw [e1] at hJ ⊢; clear e1
                have e2 := hJ.pt 2 84 (.agg #[.bool bx, .slice ox lx kx]) rfl rfl rfl (hp 2 (by decide))
                rw [e2] at hJ ⊢; clear e2
                refine wpOp_step rfl (fun K hK => ?_)
                simp only [pN, Nat.reduceEqDiff, ↓reduceIte]
                go_simp
                go_at_call 72
                refine (IMul_c _ _ a (((-m0)) % (b / (r0 : Int))) 4398046511103 4398046511103 _ (show IntAt w' (4398046511103) (.agg #[.bool n, .slice ao len cap]) (a) from hJ.base _ mm5) (OwnI.int (show OwnI w' (w.heap.size + 5) (.agg #[.bool bx, .slice ox lx kx]) ((((-m0)) % (b / (r0 : Int)))) from hJ.base _ mm4) hwx) (by omega)).mono ?_
                rintro e w4 ⟨⟨v5, rfl, h5⟩, hb4⟩
                try dsimp only
                exact hK _ _ ⟨_, by kernel_rfl, hJ.gC 3 rfl (by kernel_rfl) hb4 (OwnI.mono h5 (Nat.le_trans (by omega) hJ.size)) (by omega)⟩
              · intro L fx w' hJ hL hp hcl
                have e3 := hJ.slot 3 (by show 3 < 11; decide) (hp 3 (by decide))
                have e0 := hJ.pt 0 82 (.agg #[.bool bp, .slice op lp kp]) rfl rfl rfl (hp 0 (by decide))
                rw [e0] at hJ ⊢; clear e0
                refine wpOp_step rfl (fun K hK => ?_)
                simp only [pN, Nat.reduceEqDiff, ↓reduceIte]
                go_simp
                go_at_call 71
                refine (ISub_c _ _ (r0 : Int) (a * (((-m0)) % (b / (r0 : Int)))) _ (OwnI.int (show OwnI w' (w.heap.size + 5) (.agg #[.bool bp, .slice op lp kp]) ((r0 : Int)) from hJ.base _ mm2) (by omega)) (OwnI.int (show OwnI w' _ (fx 85) _ from e3) (by omega))).mono ?_
                rintro e w4 ⟨⟨v5, rfl, h5⟩, hb4⟩
                try dsimp only
                exact hK _ _ ⟨_, by kernel_rfl, hJ.gC 4 rfl (by kernel_rfl) hb4 (OwnI.mono h5 (Nat.le_trans (by omega) hJ.size)) (by omega)⟩
              · intro L fx w' hJ hL hp hcl
                refine wpOp_step rfl (fun K hK => ?_)
                simp only [pN, Nat.reduceEqDiff, ↓reduceIte]
                have rw0 := (hJ.rows _ mm1).1
                have cl0 : w'.cell? ⟨w.heap.size + 1, 0, none⟩ = some (.bool n2) := rw0.cell 0
                have cl1 : w'.cell? ⟨w.heap.size + 1, 1, none⟩ = some (.slice ao2 len2 cap2) := rw0.cell 1
                go_simp
                exact hK _ _ ⟨_, by kernel_rfl, hJ.pC 5 rfl (by kernel_rfl) rfl (by omega)⟩
              · intro L fx w' hJ hL hp hcl
                have e4 := hJ.slot 4 (by show 4 < 11; decide) (hp 4 (by decide))
                have e5 := hJ.pt 5 87 (.agg #[.bool n2, .slice ao2 len2 cap2]) rfl rfl rfl (hp 5 (by decide))
                rw [e5] at hJ ⊢; clear e5
                refine wpOp_step rfl (fun K hK => ?_)
                simp only [pN, Nat.reduceEqDiff, ↓reduceIte]
                go_simp
                go_at_call 173
                refine (IExact_c _ _ ((r0 : Int) - a * (((-m0)) % (b / (r0 : Int)))) b _ (OwnI.int (show OwnI w' _ (fx 86) _ from e4) hwg) (show IntAt w' (17592186044415) (.agg #[.bool n2, .slice ao2 len2 cap2]) (b) from hJ.base _ mm1) hb0 hel3.out).mono ?_
                rintro e w4 ⟨⟨v5, rfl, h5⟩, hb4⟩
                try dsimp only
                exact hK _ _ ⟨_, by kernel_rfl, hJ.gC 6 rfl (by kernel_rfl) hb4 ⟨_, rfl, (OwnI.mono h5 (Nat.le_trans (by omega) hJ.size))⟩ (by omega)⟩
              · intro L fx w' hJ hL hp hcl
                have e6 := hJ.slot 6 (by show 6 < 11; decide) (hp 6 (by decide))
                refine wpOp_step rfl (fun K hK => ?_)
                simp only [pN, Nat.reduceEqDiff, ↓reduceIte]
                go_simp
                exact hK _ _ ⟨_, by kernel_rfl, hJ.pC 7 rfl (by kernel_rfl) e6 (by omega)⟩
              · intro L fx w' hJ hL hp hcl
                have e7 := hJ.slot 7 (by show 7 < 11; decide) (hp 7 (by decide))
                obtain ⟨vt, hvt, hot⟩ := e7
                rw [patchX (x := fx) (d := 81) (v := (.tuple #[vt, .int .i64 0])) hvt] at hJ ⊢
                refine wpOp_step rfl (fun K hK => ?_)
                simp only [pN, Nat.reduceEqDiff, ↓reduceIte]
                go_simp
                exact hK _ _ ⟨_, by kernel_rfl, hJ.pC 8 rfl (by kernel_rfl) hot (by omega)⟩
              · intro L fx w' hJ hL hp hcl
                have e7 := hJ.slot 7 (by show 7 < 11; decide) (hp 7 (by decide))
                obtain ⟨vt, hvt, hot⟩ := e7
                rw [patchX (x := fx) (d := 81) (v := (.tuple #[vt, .int .i64 0])) hvt] at hJ ⊢
                refine wpOp_step rfl (fun K hK => ?_)
                simp only [pN, Nat.reduceEqDiff, ↓reduceIte]
                go_simp
                exact hK _ _ ⟨_, by kernel_rfl, hJ.pC 9 rfl (by kernel_rfl) rfl (by omega)⟩
              · intro L fx w' hJ hL hp hcl
                have e8 := hJ.slot 8 (by show 8 < 11; decide) (hp 8 (by decide))
                have hu0 : ∀ t ∈ ([(10, w.heap.size + 4, .int (w.heap.size + 5) (((r0 : Int) - a * (((-m0)) % (b / (r0 : Int)))) / b))] : List (Nat × Nat × AV)), t.2.1 = w.heap.size + 4 -> t = (10, w.heap.size + 4, .int (w.heap.size + 5) (((r0 : Int) - a * (((-m0)) % (b / (r0 : Int)))) / b)) := by
                 intro t ht h
                 rcases mc ht with rfl | ht
                 · rfl
                 cases ht
                have hu1 : ∀ t ∈ ([(10, w.heap.size + 4, .int (w.heap.size + 5) (((r0 : Int) - a * (((-m0)) % (b / (r0 : Int)))) / b))] : List (Nat × Nat × AV)), t.1 = 10 -> t = (10, w.heap.size + 4, .int (w.heap.size + 5) (((r0 : Int) - a * (((-m0)) % (b / (r0 : Int)))) / b)) := by
                 intro t ht h
                 rcases mc ht with rfl | ht
                 · rfl
                 cases ht
                obtain ⟨ao0, cap0, hv0, hO0⟩ := e8
                rw [patchX (x := fx) (d := 89) hv0] at hJ ⊢
                obtain ⟨_, _, a0, b0, l0, k0, hr0, _⟩ := hJ.tgt _ mm0
                have hf0 := RowAt.free hr0 0
                have hf1 := RowAt.free hr0 1
                have hc0 := RowAt.cell hr0 0
                have hc1 := RowAt.cell hr0 1
                try dsimp only at hf0 hf1 hc0 hc1
                refine wpOp_step rfl (fun K hK => ?_)
                simp only [pN, Nat.reduceEqDiff, ↓reduceIte]
                go_simp
                exact hK _ _ ⟨_, by kernel_rfl, hJ.store 10 (w.heap.size + 4) _ (by show 10 < 11; decide) rfl mm0 hu0 hu1 (by kernel_rfl) (by kernel_rfl) _ _ _ _ ⟨ao0, cap0, rfl, hO0⟩⟩
            · intro L x' wk hL hJ
              have A_10 : Hid (RowAt wk (w.heap.size) 45 [.bool n, .slice ao len cap]) := Lib.hid (hJ.rows _ mm0).1
              have B_10 : Hid (RowAt wk (w.heap.size + 1) 45 [.bool n2, .slice ao2 len2 cap2]) := Lib.hid (hJ.rows _ mm1).1
              have P_10 : Hid (RowAt wk (w.heap.size + 2) 45 [.bool bp, .slice op lp kp]) := Lib.hid (hJ.rows _ mm2).1
              have Q_10 : Hid (RowAt wk (w.heap.size + 3) 45 [.bool bx, .slice ox lx kx]) := Lib.hid (hJ.rows _ mm3).1
              have PR_10 : Hid (RowAt wk (wf.heap.size) 45 [.bool be, .slice oe le ke]) := Lib.hid (hJ.rows _ mm4).1
              have X_10 : Hid (IntAt wk (17592186044415) (.agg #[.bool n, .slice ao len cap]) (a)) := Lib.hid (hJ.base _ mm0)
              have Y_10 : Hid (IntAt wk (17592186044415) (.agg #[.bool n2, .slice ao2 len2 cap2]) (b)) := Lib.hid (hJ.base _ mm1)
              have GP_10 : Hid (OwnI wk (w.heap.size + 5) (.agg #[.bool bp, .slice op lp kp]) ((r0 : Int))) := Lib.hid (hJ.base _ mm2)
              have PE_10 : Hid (OwnI wk (w.heap.size + 5) (.agg #[.bool be, .slice oe le ke]) ((b / (r0 : Int)))) := Lib.hid (hJ.base _ mm3)
              have XX_10 : Hid (OwnI wk (w.heap.size + 5) (.agg #[.bool bx, .slice ox lx kx]) ((((-m0)) % (b / (r0 : Int))))) := Lib.hid (hJ.base _ mm4)
              have XL_10 : Hid (IntAt wk (4398046511103) (.agg #[.bool n, .slice ao len cap]) (a)) := Lib.hid (hJ.base _ mm5)
              have bw_10 : Hid (Below (w.heap.size) w wk) := Lib.hid (bw_9.out.trans (((Below.refl (w.heap.size) wj).drew).trans (hJ.fr.mono (by omega))))
              have sz_10 : wj.heap.size <= wk.heap.size := hJ.size
              clear A_9 B_9 R_9 P_9 Q_9 PR_9 X_9 Y_9 GP_9 PE_9 XX_9 XL_9 bw_9
              obtain ⟨_, _, br, or_, lr, kr, hr_R, hc_R⟩ := hJ.tgt _ mm0
              have R_10 : Hid (RowAt wk (w.heap.size + 4) 45 [.bool br, .slice or_ lr kr]) := Lib.hid (hr_R)
              have YR_10 : Hid (OwnI wk (w.heap.size + 5) (.agg #[.bool br, .slice or_ lr kr]) ((((r0 : Int) - a * (((-m0)) % (b / (r0 : Int)))) / b))) := Lib.hid (hc_R (hL 10 (by show 10 < 11; decide)))
              clear hr_R hc_R
              clear hJ hL
              simp only [pN, Nat.reduceEqDiff, ↓reduceIte]
              try go_wp2
              have d0 : wk.cell? ⟨w.heap.size + 2, 0, none⟩ = some (.bool bp) := P_10.out.cell 0
              have d1 : wk.cell? ⟨w.heap.size + 2, 1, none⟩ = some (.slice op lp kp) := P_10.out.cell 1
              have e0 : wk.cell? ⟨w.heap.size + 3, 0, none⟩ = some (.bool bx) := Q_10.out.cell 0
              have e1 : wk.cell? ⟨w.heap.size + 3, 1, none⟩ = some (.slice ox lx kx) := Q_10.out.cell 1
              have f0 : wk.cell? ⟨w.heap.size + 4, 0, none⟩ = some (.bool br) := R_10.out.cell 0
              have f1 : wk.cell? ⟨w.heap.size + 4, 1, none⟩ = some (.slice or_ lr kr) := R_10.out.cell 1
              have g0 : wk.frozen? ⟨w.heap.size + 2, 0, none⟩ = false := P_10.out.free 0
              have g1 : wk.frozen? ⟨w.heap.size + 2, 1, none⟩ = false := P_10.out.free 1
              have h0 : wk.frozen? ⟨w.heap.size + 3, 0, none⟩ = false := Q_10.out.free 0
              have h1 : wk.frozen? ⟨w.heap.size + 3, 1, none⟩ = false := Q_10.out.free 1
              have i0 : wk.frozen? ⟨w.heap.size + 4, 0, none⟩ = false := R_10.out.free 0
              have i1 : wk.frozen? ⟨w.heap.size + 4, 1, none⟩ = false := R_10.out.free 1
              go_region
              go_wp2
              simp only [Nat.add_assoc, Nat.reduceAdd]
              clear A_10
              clear B_10
              clear PR_10
              clear X_10
              clear Y_10
              clear PE_10
              clear XL_10
              obtain ⟨q_2, hq_2⟩ : ∃ wq_, ((wk.setCell ⟨w.heap.size + 2, 0, none⟩ (.bool bp)).setCell ⟨w.heap.size + 2, 1, none⟩ (.slice op lp kp)) = wq_ := ⟨_, rfl⟩
              have P_11 : Hid (RowAt q_2 (w.heap.size + 2) 45 [.bool bp, .slice op lp kp]) := Lib.hid (by rw [<- hq_2]; exact RowAt.setAll (w := wk) [.bool bp, .slice op lp kp] 0 P_10.out rfl)
              have Q_11 : Hid (RowAt q_2 (w.heap.size + 3) 45 [.bool bx, .slice ox lx kx]) := Lib.hid (by rw [<- hq_2]; exact RowAt.setAll_other (w := wk) (g := w.heap.size + 2) (by omega) [.bool bp, .slice op lp kp] 0 Q_10.out)
              have R_11 : Hid (RowAt q_2 (w.heap.size + 4) 45 [.bool br, .slice or_ lr kr]) := Lib.hid (by rw [<- hq_2]; exact RowAt.setAll_other (w := wk) (g := w.heap.size + 2) (by omega) [.bool bp, .slice op lp kp] 0 R_10.out)
              have GP_11 : Hid (OwnI q_2 (w.heap.size + 5) (.agg #[.bool bp, .slice op lp kp]) ((r0 : Int))) := Lib.hid (by rw [<- hq_2]; exact AV.setAll (AV.int (w.heap.size + 5) ((r0 : Int))) (by decide) [.bool bp, .slice op lp kp] 0 (w := wk) GP_10.out P_10.out (NoW.bool (NoW.slice NoW.nil)) (NoW.bool (NoW.slice NoW.nil)))
              have XX_11 : Hid (OwnI q_2 (w.heap.size + 5) (.agg #[.bool bx, .slice ox lx kx]) ((((-m0)) % (b / (r0 : Int))))) := Lib.hid (by rw [<- hq_2]; exact AV.setAll (AV.int (w.heap.size + 5) ((((-m0)) % (b / (r0 : Int))))) (by decide) [.bool bp, .slice op lp kp] 0 (w := wk) XX_10.out P_10.out (NoW.bool (NoW.slice NoW.nil)) (NoW.bool (NoW.slice NoW.nil)))
              have YR_11 : Hid (OwnI q_2 (w.heap.size + 5) (.agg #[.bool br, .slice or_ lr kr]) ((((r0 : Int) - a * (((-m0)) % (b / (r0 : Int)))) / b))) := Lib.hid (by rw [<- hq_2]; exact AV.setAll (AV.int (w.heap.size + 5) ((((r0 : Int) - a * (((-m0)) % (b / (r0 : Int)))) / b))) (by decide) [.bool bp, .slice op lp kp] 0 (w := wk) YR_10.out P_10.out (NoW.bool (NoW.slice NoW.nil)) (NoW.bool (NoW.slice NoW.nil)))
              have bw_11 : Hid (Below (w.heap.size) w q_2) := Lib.hid (by rw [<- hq_2]; exact below_setAll (g := w.heap.size + 2) (by omega) [.bool bp, .slice op lp kp] 0 bw_10.out)
              have sz_11 : q_2.heap.size = wk.heap.size := by rw [<- hq_2]; simp
              clear P_10 Q_10 R_10 GP_10 XX_10 YR_10 bw_10
              obtain ⟨q_3, hq_3⟩ : ∃ wq_, ((q_2.setCell ⟨w.heap.size + 3, 0, none⟩ (.bool bx)).setCell ⟨w.heap.size + 3, 1, none⟩ (.slice ox lx kx)) = wq_ := ⟨_, rfl⟩
              have P_12 : Hid (RowAt q_3 (w.heap.size + 2) 45 [.bool bp, .slice op lp kp]) := Lib.hid (by rw [<- hq_3]; exact RowAt.setAll_other (w := q_2) (g := w.heap.size + 3) (by omega) [.bool bx, .slice ox lx kx] 0 P_11.out)
              have Q_12 : Hid (RowAt q_3 (w.heap.size + 3) 45 [.bool bx, .slice ox lx kx]) := Lib.hid (by rw [<- hq_3]; exact RowAt.setAll (w := q_2) [.bool bx, .slice ox lx kx] 0 Q_11.out rfl)
              have R_12 : Hid (RowAt q_3 (w.heap.size + 4) 45 [.bool br, .slice or_ lr kr]) := Lib.hid (by rw [<- hq_3]; exact RowAt.setAll_other (w := q_2) (g := w.heap.size + 3) (by omega) [.bool bx, .slice ox lx kx] 0 R_11.out)
              have GP_12 : Hid (OwnI q_3 (w.heap.size + 5) (.agg #[.bool bp, .slice op lp kp]) ((r0 : Int))) := Lib.hid (by rw [<- hq_3]; exact AV.setAll (AV.int (w.heap.size + 5) ((r0 : Int))) (by decide) [.bool bx, .slice ox lx kx] 0 (w := q_2) GP_11.out Q_11.out (NoW.bool (NoW.slice NoW.nil)) (NoW.bool (NoW.slice NoW.nil)))
              have XX_12 : Hid (OwnI q_3 (w.heap.size + 5) (.agg #[.bool bx, .slice ox lx kx]) ((((-m0)) % (b / (r0 : Int))))) := Lib.hid (by rw [<- hq_3]; exact AV.setAll (AV.int (w.heap.size + 5) ((((-m0)) % (b / (r0 : Int))))) (by decide) [.bool bx, .slice ox lx kx] 0 (w := q_2) XX_11.out Q_11.out (NoW.bool (NoW.slice NoW.nil)) (NoW.bool (NoW.slice NoW.nil)))
              have YR_12 : Hid (OwnI q_3 (w.heap.size + 5) (.agg #[.bool br, .slice or_ lr kr]) ((((r0 : Int) - a * (((-m0)) % (b / (r0 : Int)))) / b))) := Lib.hid (by rw [<- hq_3]; exact AV.setAll (AV.int (w.heap.size + 5) ((((r0 : Int) - a * (((-m0)) % (b / (r0 : Int)))) / b))) (by decide) [.bool bx, .slice ox lx kx] 0 (w := q_2) YR_11.out Q_11.out (NoW.bool (NoW.slice NoW.nil)) (NoW.bool (NoW.slice NoW.nil)))
              have bw_12 : Hid (Below (w.heap.size) w q_3) := Lib.hid (by rw [<- hq_3]; exact below_setAll (g := w.heap.size + 3) (by omega) [.bool bx, .slice ox lx kx] 0 bw_11.out)
              have sz_12 : q_3.heap.size = q_2.heap.size := by rw [<- hq_3]; simp
              clear P_11 Q_11 R_11 GP_11 XX_11 YR_11 bw_11
              obtain ⟨q_4, hq_4⟩ : ∃ wq_, ((q_3.setCell ⟨w.heap.size + 4, 0, none⟩ (.bool br)).setCell ⟨w.heap.size + 4, 1, none⟩ (.slice or_ lr kr)) = wq_ := ⟨_, rfl⟩
              have P_13 : Hid (RowAt q_4 (w.heap.size + 2) 45 [.bool bp, .slice op lp kp]) := Lib.hid (by rw [<- hq_4]; exact RowAt.setAll_other (w := q_3) (g := w.heap.size + 4) (by omega) [.bool br, .slice or_ lr kr] 0 P_12.out)
              have Q_13 : Hid (RowAt q_4 (w.heap.size + 3) 45 [.bool bx, .slice ox lx kx]) := Lib.hid (by rw [<- hq_4]; exact RowAt.setAll_other (w := q_3) (g := w.heap.size + 4) (by omega) [.bool br, .slice or_ lr kr] 0 Q_12.out)
              have R_13 : Hid (RowAt q_4 (w.heap.size + 4) 45 [.bool br, .slice or_ lr kr]) := Lib.hid (by rw [<- hq_4]; exact RowAt.setAll (w := q_3) [.bool br, .slice or_ lr kr] 0 R_12.out rfl)
              have GP_13 : Hid (OwnI q_4 (w.heap.size + 5) (.agg #[.bool bp, .slice op lp kp]) ((r0 : Int))) := Lib.hid (by rw [<- hq_4]; exact AV.setAll (AV.int (w.heap.size + 5) ((r0 : Int))) (by decide) [.bool br, .slice or_ lr kr] 0 (w := q_3) GP_12.out R_12.out (NoW.bool (NoW.slice NoW.nil)) (NoW.bool (NoW.slice NoW.nil)))
              have XX_13 : Hid (OwnI q_4 (w.heap.size + 5) (.agg #[.bool bx, .slice ox lx kx]) ((((-m0)) % (b / (r0 : Int))))) := Lib.hid (by rw [<- hq_4]; exact AV.setAll (AV.int (w.heap.size + 5) ((((-m0)) % (b / (r0 : Int))))) (by decide) [.bool br, .slice or_ lr kr] 0 (w := q_3) XX_12.out R_12.out (NoW.bool (NoW.slice NoW.nil)) (NoW.bool (NoW.slice NoW.nil)))
              have YR_13 : Hid (OwnI q_4 (w.heap.size + 5) (.agg #[.bool br, .slice or_ lr kr]) ((((r0 : Int) - a * (((-m0)) % (b / (r0 : Int)))) / b))) := Lib.hid (by rw [<- hq_4]; exact AV.setAll (AV.int (w.heap.size + 5) ((((r0 : Int) - a * (((-m0)) % (b / (r0 : Int)))) / b))) (by decide) [.bool br, .slice or_ lr kr] 0 (w := q_3) YR_12.out R_12.out (NoW.bool (NoW.slice NoW.nil)) (NoW.bool (NoW.slice NoW.nil)))
              have bw_13 : Hid (Below (w.heap.size) w q_4) := Lib.hid (by rw [<- hq_4]; exact below_setAll (g := w.heap.size + 4) (by omega) [.bool br, .slice or_ lr kr] 0 bw_12.out)
              have sz_13 : q_4.heap.size = q_3.heap.size := by rw [<- hq_4]; simp
              clear P_12 Q_12 R_12 GP_12 XX_12 YR_12 bw_12
              subst hq_4
              subst hq_3
              subst hq_2
              refine bodyPost_ret (results_int3 (p := 4) (p2 := 5) (p3 := 6) (by kernel_rfl) _ _ (w.heap.size + 2) (w.heap.size + 3) (w.heap.size + 4) _ _ _ _ _ _ rfl rfl rfl (RowAt.drew P_13.out) (RowAt.drew Q_13.out) (RowAt.drew R_13.out)) rfl ?_
              refine ⟨⟨_, _, _, _, _, _, rfl, hel4.out, ?_, ?_, ?_⟩, ?_⟩
              · exact (OwnI.drew GP_13.out).mono (by omega)
              · exact (OwnI.drew XX_13.out).mono (by omega)
              · exact (OwnI.drew YR_13.out).mono (by omega)
              · exact Below.drew bw_13.out
          · have hs : zsign a = 0 ∨ zsign a = 1 := by unfold zsign; rw [if_neg ha]; split <;> simp
            have hs1 : ¬ zsign a < 0 := by omega
            have hs2 : decide (zsign a < 0) = false := by simpa using hs1
            obtain ⟨sa, hsa⟩ : ∃ s, zsign a = s := ⟨_, rfl⟩
            rw [hsa] at hs1 hs2 ⊢
            clear hsa hs
            have hdm := HDN.out
            rw [if_neg ha] at hdm
            have HDM := Lib.hid hdm; clear hdm
            have HG0 : Hid ((r0 : Int) ≠ 0) := Lib.hid (fun h => by have := HDM.out.1; rw [h] at this; have h2 : Int.gcd a b = 0 := (by omega); exact hb0 (Int.gcd_eq_zero_iff.1 h2).2)
            obtain ⟨hel1, hel2, hel3, hel4⟩ := ext_last hb0 HDM.out.1 HDM.out.2
            have hel1 := Lib.hid hel1; have hel2 := Lib.hid hel2; have hel3 := Lib.hid hel3; have hel4 := Lib.hid hel4
            have hwb : ((b / (r0 : Int))).natAbs <= b.natAbs := Int.natAbs_ediv_le_natAbs ..
            have hwb2 : wlen ((b / (r0 : Int))).natAbs <= 4398046511103 := Nat.le_trans (wlen_mono hwb) hlb
            have hwx : wlen ((m0 % (b / (r0 : Int)))).natAbs <= 4398046511103 := Nat.le_trans (wlen_mono (by have h1 := Int.emod_nonneg (m0) hel2.out; have h2 := Int.emod_lt (m0) hel2.out; omega)) hwb2
            have hwax : wlen ((a * (m0 % (b / (r0 : Int))))).natAbs <= 8796093022206 := by rw [Int.natAbs_mul]; exact Nat.le_trans (wlen_mul _ _) (by omega)
            have hwg : wlen ((r0 : Int) - a * (m0 % (b / (r0 : Int)))).natAbs <= 17592186044415 := Nat.le_trans (wlen_mono (Int.natAbs_sub_le ..)) (Nat.le_trans (wlen_add ..) (by have := Nat.max_le.2 ⟨Nat.le_trans hwr0 (by omega : 4398046511103 <= 8796093022206), hwax⟩; omega))
            have d0 : wd.cell? ⟨w.heap.size + 1, 0, none⟩ = some (.bool n2) := B_3.out.cell 0
            have d1 : wd.cell? ⟨w.heap.size + 1, 1, none⟩ = some (.slice ao2 len2 cap2) := B_3.out.cell 1
            have e0 : wd.cell? ⟨w.heap.size + 2, 0, none⟩ = some (.bool bp) := P_3.out.cell 0
            have e1 : wd.cell? ⟨w.heap.size + 2, 1, none⟩ = some (.slice op lp kp) := P_3.out.cell 1
            go_wp2_with fail
            clear d0 d1 e0 e1
            refine (IExact_c _ _ b (r0 : Int) _ Y_3.out (OwnI.int GP_3.out (by omega)) HG0.out hel1.out).mono ?_
            rintro e wf ⟨⟨vp, rfl, hp⟩, hbf⟩
            have sz_4 := (hbf).size
            have A_4 := Lib.hid (RowAt.below (w := wd) A_3.out (hbf) A_3.out.lt)
            have B_4 := Lib.hid (RowAt.below (w := wd) B_3.out (hbf) B_3.out.lt)
            have R_4 := Lib.hid (RowAt.below (w := wd) R_3.out (hbf) R_3.out.lt)
            have P_4 := Lib.hid (RowAt.below (w := wd) P_3.out (hbf) P_3.out.lt)
            have Q_4 := Lib.hid (RowAt.below (w := wd) Q_3.out (hbf) Q_3.out.lt)
            have X_4 := Lib.hid (IntAt.below (w := wd) X_3.out (hbf))
            have Y_4 := Lib.hid (IntAt.below (w := wd) Y_3.out (hbf))
            have GP_4 := Lib.hid (OwnI.below (w := wd) GP_3.out (hbf))
            have MQ_4 := Lib.hid (OwnI.below (w := wd) MQ_3.out (hbf))
            have bw_4 := Lib.hid (Below.trans bw_3.out (Below.mono (hbf) (by have := bw_3.out.size; omega)))
            clear A_3 B_3 R_3 P_3 Q_3 X_3 Y_3 GP_3 MQ_3 bw_3
            clear hbf
            obtain ⟨be, oe, le, ke, rfl⟩ := hp.parts
            have PE_4 : Hid (OwnI wf (w.heap.size + 5) (.agg #[.bool be, .slice oe le ke]) ((b / (r0 : Int)))) := Lib.hid (hp.mono (by omega))
            clear hp
            have hre := RowAt.new wf #[.bool be, .slice oe le ke] 45
            have hbe : Below wf.heap.size wf (wf.alloc (.cells #[.bool be, .slice oe le ke] 45)) := (Below.refl _ _).alloc (Nat.le_refl _) _
            have sz_5 := (hbe).size
            have A_5 := Lib.hid (RowAt.below (w := wf) A_4.out (hbe) A_4.out.lt)
            have B_5 := Lib.hid (RowAt.below (w := wf) B_4.out (hbe) B_4.out.lt)
            have R_5 := Lib.hid (RowAt.below (w := wf) R_4.out (hbe) R_4.out.lt)
            have P_5 := Lib.hid (RowAt.below (w := wf) P_4.out (hbe) P_4.out.lt)
            have Q_5 := Lib.hid (RowAt.below (w := wf) Q_4.out (hbe) Q_4.out.lt)
            have X_5 := Lib.hid (IntAt.below (w := wf) X_4.out (hbe))
            have Y_5 := Lib.hid (IntAt.below (w := wf) Y_4.out (hbe))
            have GP_5 := Lib.hid (OwnI.below (w := wf) GP_4.out (hbe))
            have MQ_5 := Lib.hid (OwnI.below (w := wf) MQ_4.out (hbe))
            have PE_5 := Lib.hid (OwnI.below (w := wf) PE_4.out (hbe))
            have bw_5 := Lib.hid (Below.trans bw_4.out (Below.mono (hbe) (by have := bw_4.out.size; omega)))
            clear A_4 B_4 R_4 P_4 Q_4 X_4 Y_4 GP_4 MQ_4 PE_4 bw_4
            have PR_5 : Hid (RowAt (wf.alloc (.cells #[.bool be, .slice oe le ke] 45)) (wf.heap.size) 45 [.bool be, .slice oe le ke]) := Lib.hid (hre)
            clear hre hbe
            have d0 : (wf.alloc (.cells #[.bool be, .slice oe le ke] 45)).cell? ⟨w.heap.size + 3, 0, none⟩ = some (.bool bq) := Q_5.out.cell 0
            have d1 : (wf.alloc (.cells #[.bool be, .slice oe le ke] 45)).cell? ⟨w.heap.size + 3, 1, none⟩ = some (.slice oq lq kq) := Q_5.out.cell 1
            have e0 : (wf.alloc (.cells #[.bool be, .slice oe le ke] 45)).cell? ⟨wf.heap.size, 0, none⟩ = some (.bool be) := PR_5.out.cell 0
            have e1 : (wf.alloc (.cells #[.bool be, .slice oe le ke] 45)).cell? ⟨wf.heap.size, 1, none⟩ = some (.slice oe le ke) := PR_5.out.cell 1
            go_wp2_with fail
            clear d0 d1 e0 e1
            generalize (wf.alloc (.cells #[.bool be, .slice oe le ke] 45)) = wh at *
            have hswh : wf.heap.size < wh.heap.size := PR_5.out.lt
            refine (IMod_c _ _ (m0) (b / (r0 : Int)) _ (OwnI.int MQ_5.out (by omega)) (OwnI.int PE_5.out (by omega)) hel2.out).mono ?_
            rintro e wi ⟨⟨vx, rfl, hxx⟩, hbi⟩
            have sz_6 := (hbi).size
            have A_6 := Lib.hid (RowAt.below (w := wh) A_5.out (hbi) A_5.out.lt)
            have B_6 := Lib.hid (RowAt.below (w := wh) B_5.out (hbi) B_5.out.lt)
            have R_6 := Lib.hid (RowAt.below (w := wh) R_5.out (hbi) R_5.out.lt)
            have P_6 := Lib.hid (RowAt.below (w := wh) P_5.out (hbi) P_5.out.lt)
            have Q_6 := Lib.hid (RowAt.below (w := wh) Q_5.out (hbi) Q_5.out.lt)
            have PR_6 := Lib.hid (RowAt.below (w := wh) PR_5.out (hbi) PR_5.out.lt)
            have X_6 := Lib.hid (IntAt.below (w := wh) X_5.out (hbi))
            have Y_6 := Lib.hid (IntAt.below (w := wh) Y_5.out (hbi))
            have GP_6 := Lib.hid (OwnI.below (w := wh) GP_5.out (hbi))
            have MQ_6 := Lib.hid (OwnI.below (w := wh) MQ_5.out (hbi))
            have PE_6 := Lib.hid (OwnI.below (w := wh) PE_5.out (hbi))
            have bw_6 := Lib.hid (Below.trans bw_5.out (Below.mono (hbi) (by have := bw_5.out.size; omega)))
            clear A_5 B_5 R_5 P_5 Q_5 PR_5 X_5 Y_5 GP_5 MQ_5 PE_5 bw_5
            clear hbi
            obtain ⟨bx, ox, lx, kx, rfl⟩ := hxx.parts
            have XX_6 : Hid (OwnI wi (w.heap.size + 5) (.agg #[.bool bx, .slice ox lx kx]) (((m0) % (b / (r0 : Int))))) := Lib.hid (hxx.mono (by omega))
            clear hxx
            clear MQ_6
            have d0 : wi.cell? ⟨w.heap.size + 3, 0, none⟩ = some (.bool bq) := Q_6.out.cell 0
            have d1 : wi.cell? ⟨w.heap.size + 3, 1, none⟩ = some (.slice oq lq kq) := Q_6.out.cell 1
            have f0 : wi.frozen? ⟨w.heap.size + 3, 0, none⟩ = false := Q_6.out.free 0
            have f1 : wi.frozen? ⟨w.heap.size + 3, 1, none⟩ = false := Q_6.out.free 1
            go_wp2_with fail
            clear d0 d1 f0 f1
            obtain ⟨wj, hw_⟩ : ∃ wq_, ((wi.setCell ⟨w.heap.size + 3, 0, none⟩ (.bool bx)).setCell ⟨w.heap.size + 3, 1, none⟩ (.slice ox lx kx)) = wq_ := ⟨_, rfl⟩
            have A_7 : Hid (RowAt wj (w.heap.size) 45 [.bool n, .slice ao len cap]) := Lib.hid (by rw [<- hw_]; exact RowAt.setAll_other (w := wi) (g := w.heap.size + 3) (by omega) [.bool bx, .slice ox lx kx] 0 A_6.out)
            have B_7 : Hid (RowAt wj (w.heap.size + 1) 45 [.bool n2, .slice ao2 len2 cap2]) := Lib.hid (by rw [<- hw_]; exact RowAt.setAll_other (w := wi) (g := w.heap.size + 3) (by omega) [.bool bx, .slice ox lx kx] 0 B_6.out)
            have R_7 : Hid (RowAt wj (w.heap.size + 4) 45 [.bool false, .slice none 0 0]) := Lib.hid (by rw [<- hw_]; exact RowAt.setAll_other (w := wi) (g := w.heap.size + 3) (by omega) [.bool bx, .slice ox lx kx] 0 R_6.out)
            have P_7 : Hid (RowAt wj (w.heap.size + 2) 45 [.bool bp, .slice op lp kp]) := Lib.hid (by rw [<- hw_]; exact RowAt.setAll_other (w := wi) (g := w.heap.size + 3) (by omega) [.bool bx, .slice ox lx kx] 0 P_6.out)
            have Q_7 : Hid (RowAt wj (w.heap.size + 3) 45 [.bool bx, .slice ox lx kx]) := Lib.hid (by rw [<- hw_]; exact RowAt.setAll (w := wi) [.bool bx, .slice ox lx kx] 0 Q_6.out rfl)
            have PR_7 : Hid (RowAt wj (wf.heap.size) 45 [.bool be, .slice oe le ke]) := Lib.hid (by rw [<- hw_]; exact RowAt.setAll_other (w := wi) (g := w.heap.size + 3) (by omega) [.bool bx, .slice ox lx kx] 0 PR_6.out)
            have X_7 : Hid (IntAt wj (17592186044415) (.agg #[.bool n, .slice ao len cap]) (a)) := Lib.hid (by rw [<- hw_]; exact AV.setAll (AV.at_ (17592186044415) (a)) (by decide) [.bool bx, .slice ox lx kx] 0 (w := wi) X_6.out Q_6.out (NoW.bool (NoW.slice NoW.nil)) (NoW.bool (NoW.slice NoW.nil)))
            have Y_7 : Hid (IntAt wj (17592186044415) (.agg #[.bool n2, .slice ao2 len2 cap2]) (b)) := Lib.hid (by rw [<- hw_]; exact AV.setAll (AV.at_ (17592186044415) (b)) (by decide) [.bool bx, .slice ox lx kx] 0 (w := wi) Y_6.out Q_6.out (NoW.bool (NoW.slice NoW.nil)) (NoW.bool (NoW.slice NoW.nil)))
            have GP_7 : Hid (OwnI wj (w.heap.size + 5) (.agg #[.bool bp, .slice op lp kp]) ((r0 : Int))) := Lib.hid (by rw [<- hw_]; exact AV.setAll (AV.int (w.heap.size + 5) ((r0 : Int))) (by decide) [.bool bx, .slice ox lx kx] 0 (w := wi) GP_6.out Q_6.out (NoW.bool (NoW.slice NoW.nil)) (NoW.bool (NoW.slice NoW.nil)))
            have PE_7 : Hid (OwnI wj (w.heap.size + 5) (.agg #[.bool be, .slice oe le ke]) ((b / (r0 : Int)))) := Lib.hid (by rw [<- hw_]; exact AV.setAll (AV.int (w.heap.size + 5) ((b / (r0 : Int)))) (by decide) [.bool bx, .slice ox lx kx] 0 (w := wi) PE_6.out Q_6.out (NoW.bool (NoW.slice NoW.nil)) (NoW.bool (NoW.slice NoW.nil)))
            have XX_7 : Hid (OwnI wj (w.heap.size + 5) (.agg #[.bool bx, .slice ox lx kx]) (((m0) % (b / (r0 : Int))))) := Lib.hid (by rw [<- hw_]; exact AV.setAll (AV.int (w.heap.size + 5) (((m0) % (b / (r0 : Int))))) (by decide) [.bool bx, .slice ox lx kx] 0 (w := wi) XX_6.out Q_6.out (NoW.bool (NoW.slice NoW.nil)) (NoW.bool (NoW.slice NoW.nil)))
            have bw_7 : Hid (Below (w.heap.size) w wj) := Lib.hid (by rw [<- hw_]; exact below_setAll (g := w.heap.size + 3) (by omega) [.bool bx, .slice ox lx kx] 0 bw_6.out)
            have sz_7 : wj.heap.size = wi.heap.size := by rw [<- hw_]; simp
            clear A_6 B_6 R_6 P_6 Q_6 PR_6 X_6 Y_6 GP_6 PE_6 XX_6 bw_6
            rw [hw_]
            clear hw_
            have XL_7 : Hid (IntAt wj (4398046511103) (.agg #[.bool n, .slice ao len cap]) (a)) := Lib.hid (IntAt.below hXL.out bw_7.out)
            refine wp_region_J ⟨11, fun q_ => [82, 83, 84, 85, 86, 87, 88, 81, 89, 90, 1010].getD q_ 0,
             fun q_ => [.val (.agg #[.bool bp, .slice op lp kp]), .val (.agg #[.bool n, .slice ao len cap]), .val (.agg #[.bool bx, .slice ox lx kx]), .int (w.heap.size + 5) (a * ((m0) % (b / (r0 : Int)))), .int (w.heap.size + 5) ((r0 : Int) - a * ((m0) % (b / (r0 : Int)))), .val (.agg #[.bool n2, .slice ao2 len2 cap2]), .tup1 (w.heap.size + 5) (((r0 : Int) - a * ((m0) % (b / (r0 : Int)))) / b), .tup1 (w.heap.size + 5) (((r0 : Int) - a * ((m0) % (b / (r0 : Int)))) / b), .int (w.heap.size + 5) (((r0 : Int) - a * ((m0) % (b / (r0 : Int)))) / b), .val (.int .i64 0), .any].getD q_ .any,
             [(10, w.heap.size + 4, .int (w.heap.size + 5) (((r0 : Int) - a * ((m0) % (b / (r0 : Int)))) / b))],
             [(.agg #[.bool n, .slice ao len cap], .at_ (17592186044415) (a)), (.agg #[.bool n2, .slice ao2 len2 cap2], .at_ (17592186044415) (b)), (.agg #[.bool bp, .slice op lp kp], .int (w.heap.size + 5) ((r0 : Int))), (.agg #[.bool be, .slice oe le ke], .int (w.heap.size + 5) ((b / (r0 : Int)))), (.agg #[.bool bx, .slice ox lx kx], .int (w.heap.size + 5) (((m0) % (b / (r0 : Int))))), (.agg #[.bool n, .slice ao len cap], .at_ (4398046511103) (a))],
             [(w.heap.size, 45, [.bool n, .slice ao len cap]), (w.heap.size + 1, 45, [.bool n2, .slice ao2 len2 cap2]), (w.heap.size + 2, 45, [.bool bp, .slice op lp kp]), (w.heap.size + 3, 45, [.bool bx, .slice ox lx kx]), (wf.heap.size, 45, [.bool be, .slice oe le ke])],
             [], [], []⟩ [82, 83, 84, 85, 86, 87, 88, 81, 89, 90] (w.heap.size + 4) (by kernel_rfl) (by kernel_rfl) (by kernel_rfl) (by kernel_rfl) ?_ ?_ ?_ ?_ ?_ ?_
            · intro p hp
              rcases mc hp with rfl | hp
              · exact X_7.out
              rcases mc hp with rfl | hp
              · exact Y_7.out
              rcases mc hp with rfl | hp
              · exact GP_7.out
              rcases mc hp with rfl | hp
              · exact PE_7.out
              rcases mc hp with rfl | hp
              · exact XX_7.out
              rcases mc hp with rfl | hp
              · exact XL_7.out
              cases hp
            · intro p hp
              rcases mc hp with rfl | hp
              · refine ⟨A_7.out, by show w.heap.size < wj.heap.size; omega, ?_⟩
                intro t ht
                rcases mc ht with rfl | ht
                · show w.heap.size ≠ w.heap.size + 4; omega
                cases ht
              rcases mc hp with rfl | hp
              · refine ⟨B_7.out, by show w.heap.size + 1 < wj.heap.size; omega, ?_⟩
                intro t ht
                rcases mc ht with rfl | ht
                · show w.heap.size + 1 ≠ w.heap.size + 4; omega
                cases ht
              rcases mc hp with rfl | hp
              · refine ⟨P_7.out, by show w.heap.size + 2 < wj.heap.size; omega, ?_⟩
                intro t ht
                rcases mc ht with rfl | ht
                · show w.heap.size + 2 ≠ w.heap.size + 4; omega
                cases ht
              rcases mc hp with rfl | hp
              · refine ⟨Q_7.out, by show w.heap.size + 3 < wj.heap.size; omega, ?_⟩
                intro t ht
                rcases mc ht with rfl | ht
                · show w.heap.size + 3 ≠ w.heap.size + 4; omega
                cases ht
              rcases mc hp with rfl | hp
              · refine ⟨PR_7.out, by show wf.heap.size < wj.heap.size; omega, ?_⟩
                intro t ht
                rcases mc ht with rfl | ht
                · show wf.heap.size ≠ w.heap.size + 4; omega
                cases ht
              cases hp
            · intro p hp
              cases hp
            · intro t ht
              rcases mc ht with rfl | ht
              · exact ⟨by show w.heap.size + 4 <= w.heap.size + 4; omega, by show w.heap.size + 4 < wj.heap.size; omega, _, _, _, _, R_7.out⟩
              cases ht
            · refine allc ?_ (allc ?_ (allc ?_ (allc ?_ (allc ?_ (allc ?_ (allc ?_ (allc ?_ (allc ?_ (allc ?_ (allc ?_ alln))))))))))
              · intro L fx w' hJ hL hp hcl
                refine wpOp_step rfl (fun K hK => ?_)
                simp only [pN, Nat.reduceEqDiff, ↓reduceIte]
                have rw0 := (hJ.rows _ mm2).1
                have cl0 : w'.cell? ⟨w.heap.size + 2, 0, none⟩ = some (.bool bp) := rw0.cell 0
                have cl1 : w'.cell? ⟨w.heap.size + 2, 1, none⟩ = some (.slice op lp kp) := rw0.cell 1
                go_simp
                exact hK _ _ ⟨_, by kernel_rfl, hJ.pC 0 rfl (by kernel_rfl) rfl (by omega)⟩
              · intro L fx w' hJ hL hp hcl
                refine wpOp_step rfl (fun K hK => ?_)
                simp only [pN, Nat.reduceEqDiff, ↓reduceIte]
                have rw0 := (hJ.rows _ mm0).1
                have cl0 : w'.cell? ⟨w.heap.size, 0, none⟩ = some (.bool n) := rw0.cell 0
                have cl1 : w'.cell? ⟨w.heap.size, 1, none⟩ = some (.slice ao len cap) := rw0.cell 1
                go_simp
                exact hK _ _ ⟨_, by kernel_rfl, hJ.pC 1 rfl (by kernel_rfl) rfl (by omega)⟩
              · intro L fx w' hJ hL hp hcl
                refine wpOp_step rfl (fun K hK => ?_)
                simp only [pN, Nat.reduceEqDiff, ↓reduceIte]
                have rw0 := (hJ.rows _ mm3).1
                have cl0 : w'.cell? ⟨w.heap.size + 3, 0, none⟩ = some (.bool bx) := rw0.cell 0
                have cl1 : w'.cell? ⟨w.heap.size + 3, 1, none⟩ = some (.slice ox lx kx) := rw0.cell 1
                go_simp
                exact hK _ _ ⟨_, by kernel_rfl, hJ.pC 2 rfl (by kernel_rfl) rfl (by omega)⟩
              · intro L fx w' hJ hL hp hcl
                have e1 := hJ.pt 1 83 (.agg #[.bool n, .slice ao len cap]) rfl rfl rfl (hp 1 (by decide))
                rw [e1] at hJ ⊢; clear e1
                have e2 := hJ.pt 2 84 (.agg #[.bool bx, .slice ox lx kx]) rfl rfl rfl (hp 2 (by decide))
                rw [e2] at hJ ⊢; clear e2
                refine wpOp_step rfl (fun K hK => ?_)
                simp only [pN, Nat.reduceEqDiff, ↓reduceIte]
                go_simp
                go_at_call 72
                refine (IMul_c _ _ a ((m0) % (b / (r0 : Int))) 4398046511103 4398046511103 _ (show IntAt w' (4398046511103) (.agg #[.bool n, .slice ao len cap]) (a) from hJ.base _ mm5) (OwnI.int (show OwnI w' (w.heap.size + 5) (.agg #[.bool bx, .slice ox lx kx]) (((m0) % (b / (r0 : Int)))) from hJ.base _ mm4) hwx) (by omega)).mono ?_
                rintro e w4 ⟨⟨v5, rfl, h5⟩, hb4⟩
                try dsimp only
                exact hK _ _ ⟨_, by kernel_rfl, hJ.gC 3 rfl (by kernel_rfl) hb4 (OwnI.mono h5 (Nat.le_trans (by omega) hJ.size)) (by omega)⟩
              · intro L fx w' hJ hL hp hcl
                have e3 := hJ.slot 3 (by show 3 < 11; decide) (hp 3 (by decide))
                have e0 := hJ.pt 0 82 (.agg #[.bool bp, .slice op lp kp]) rfl rfl rfl (hp 0 (by decide))
                rw [e0] at hJ ⊢; clear e0
                refine wpOp_step rfl (fun K hK => ?_)
                simp only [pN, Nat.reduceEqDiff, ↓reduceIte]
                go_simp
                go_at_call 71
                refine (ISub_c _ _ (r0 : Int) (a * ((m0) % (b / (r0 : Int)))) _ (OwnI.int (show OwnI w' (w.heap.size + 5) (.agg #[.bool bp, .slice op lp kp]) ((r0 : Int)) from hJ.base _ mm2) (by omega)) (OwnI.int (show OwnI w' _ (fx 85) _ from e3) (by omega))).mono ?_
                rintro e w4 ⟨⟨v5, rfl, h5⟩, hb4⟩
                try dsimp only
                exact hK _ _ ⟨_, by kernel_rfl, hJ.gC 4 rfl (by kernel_rfl) hb4 (OwnI.mono h5 (Nat.le_trans (by omega) hJ.size)) (by omega)⟩
              · intro L fx w' hJ hL hp hcl
                refine wpOp_step rfl (fun K hK => ?_)
                simp only [pN, Nat.reduceEqDiff, ↓reduceIte]
                have rw0 := (hJ.rows _ mm1).1
                have cl0 : w'.cell? ⟨w.heap.size + 1, 0, none⟩ = some (.bool n2) := rw0.cell 0
                have cl1 : w'.cell? ⟨w.heap.size + 1, 1, none⟩ = some (.slice ao2 len2 cap2) := rw0.cell 1
                go_simp
                exact hK _ _ ⟨_, by kernel_rfl, hJ.pC 5 rfl (by kernel_rfl) rfl (by omega)⟩
              · intro L fx w' hJ hL hp hcl
                have e4 := hJ.slot 4 (by show 4 < 11; decide) (hp 4 (by decide))
                have e5 := hJ.pt 5 87 (.agg #[.bool n2, .slice ao2 len2 cap2]) rfl rfl rfl (hp 5 (by decide))
                rw [e5] at hJ ⊢; clear e5
                refine wpOp_step rfl (fun K hK => ?_)
                simp only [pN, Nat.reduceEqDiff, ↓reduceIte]
                go_simp
                go_at_call 173
                refine (IExact_c _ _ ((r0 : Int) - a * ((m0) % (b / (r0 : Int)))) b _ (OwnI.int (show OwnI w' _ (fx 86) _ from e4) hwg) (show IntAt w' (17592186044415) (.agg #[.bool n2, .slice ao2 len2 cap2]) (b) from hJ.base _ mm1) hb0 hel3.out).mono ?_
                rintro e w4 ⟨⟨v5, rfl, h5⟩, hb4⟩
                try dsimp only
                exact hK _ _ ⟨_, by kernel_rfl, hJ.gC 6 rfl (by kernel_rfl) hb4 ⟨_, rfl, (OwnI.mono h5 (Nat.le_trans (by omega) hJ.size))⟩ (by omega)⟩
              · intro L fx w' hJ hL hp hcl
                have e6 := hJ.slot 6 (by show 6 < 11; decide) (hp 6 (by decide))
                refine wpOp_step rfl (fun K hK => ?_)
                simp only [pN, Nat.reduceEqDiff, ↓reduceIte]
                go_simp
                exact hK _ _ ⟨_, by kernel_rfl, hJ.pC 7 rfl (by kernel_rfl) e6 (by omega)⟩
              · intro L fx w' hJ hL hp hcl
                have e7 := hJ.slot 7 (by show 7 < 11; decide) (hp 7 (by decide))
                obtain ⟨vt, hvt, hot⟩ := e7
                rw [patchX (x := fx) (d := 81) (v := (.tuple #[vt, .int .i64 0])) hvt] at hJ ⊢
                refine wpOp_step rfl (fun K hK => ?_)
                simp only [pN, Nat.reduceEqDiff, ↓reduceIte]
                go_simp
                exact hK _ _ ⟨_, by kernel_rfl, hJ.pC 8 rfl (by kernel_rfl) hot (by omega)⟩
              · intro L fx w' hJ hL hp hcl
                have e7 := hJ.slot 7 (by show 7 < 11; decide) (hp 7 (by decide))
                obtain ⟨vt, hvt, hot⟩ := e7
                rw [patchX (x := fx) (d := 81) (v := (.tuple #[vt, .int .i64 0])) hvt] at hJ ⊢
                refine wpOp_step rfl (fun K hK => ?_)
                simp only [pN, Nat.reduceEqDiff, ↓reduceIte]
                go_simp
                exact hK _ _ ⟨_, by kernel_rfl, hJ.pC 9 rfl (by kernel_rfl) rfl (by omega)⟩
              · intro L fx w' hJ hL hp hcl
                have e8 := hJ.slot 8 (by show 8 < 11; decide) (hp 8 (by decide))
                have hu0 : ∀ t ∈ ([(10, w.heap.size + 4, .int (w.heap.size + 5) (((r0 : Int) - a * ((m0) % (b / (r0 : Int)))) / b))] : List (Nat × Nat × AV)), t.2.1 = w.heap.size + 4 -> t = (10, w.heap.size + 4, .int (w.heap.size + 5) (((r0 : Int) - a * ((m0) % (b / (r0 : Int)))) / b)) := by
                 intro t ht h
                 rcases mc ht with rfl | ht
                 · rfl
                 cases ht
                have hu1 : ∀ t ∈ ([(10, w.heap.size + 4, .int (w.heap.size + 5) (((r0 : Int) - a * ((m0) % (b / (r0 : Int)))) / b))] : List (Nat × Nat × AV)), t.1 = 10 -> t = (10, w.heap.size + 4, .int (w.heap.size + 5) (((r0 : Int) - a * ((m0) % (b / (r0 : Int)))) / b)) := by
                 intro t ht h
                 rcases mc ht with rfl | ht
                 · rfl
                 cases ht
                obtain ⟨ao0, cap0, hv0, hO0⟩ := e8
                rw [patchX (x := fx) (d := 89) hv0] at hJ ⊢
                obtain ⟨_, _, a0, b0, l0, k0, hr0, _⟩ := hJ.tgt _ mm0
                have hf0 := RowAt.free hr0 0
                have hf1 := RowAt.free hr0 1
                have hc0 := RowAt.cell hr0 0
                have hc1 := RowAt.cell hr0 1
                try dsimp only at hf0 hf1 hc0 hc1
                refine wpOp_step rfl (fun K hK => ?_)
                simp only [pN, Nat.reduceEqDiff, ↓reduceIte]
                go_simp
                exact hK _ _ ⟨_, by kernel_rfl, hJ.store 10 (w.heap.size + 4) _ (by show 10 < 11; decide) rfl mm0 hu0 hu1 (by kernel_rfl) (by kernel_rfl) _ _ _ _ ⟨ao0, cap0, rfl, hO0⟩⟩
            · intro L x' wk hL hJ
              have A_8 : Hid (RowAt wk (w.heap.size) 45 [.bool n, .slice ao len cap]) := Lib.hid (hJ.rows _ mm0).1
              have B_8 : Hid (RowAt wk (w.heap.size + 1) 45 [.bool n2, .slice ao2 len2 cap2]) := Lib.hid (hJ.rows _ mm1).1
              have P_8 : Hid (RowAt wk (w.heap.size + 2) 45 [.bool bp, .slice op lp kp]) := Lib.hid (hJ.rows _ mm2).1
              have Q_8 : Hid (RowAt wk (w.heap.size + 3) 45 [.bool bx, .slice ox lx kx]) := Lib.hid (hJ.rows _ mm3).1
              have PR_8 : Hid (RowAt wk (wf.heap.size) 45 [.bool be, .slice oe le ke]) := Lib.hid (hJ.rows _ mm4).1
              have X_8 : Hid (IntAt wk (17592186044415) (.agg #[.bool n, .slice ao len cap]) (a)) := Lib.hid (hJ.base _ mm0)
              have Y_8 : Hid (IntAt wk (17592186044415) (.agg #[.bool n2, .slice ao2 len2 cap2]) (b)) := Lib.hid (hJ.base _ mm1)
              have GP_8 : Hid (OwnI wk (w.heap.size + 5) (.agg #[.bool bp, .slice op lp kp]) ((r0 : Int))) := Lib.hid (hJ.base _ mm2)
              have PE_8 : Hid (OwnI wk (w.heap.size + 5) (.agg #[.bool be, .slice oe le ke]) ((b / (r0 : Int)))) := Lib.hid (hJ.base _ mm3)
              have XX_8 : Hid (OwnI wk (w.heap.size + 5) (.agg #[.bool bx, .slice ox lx kx]) (((m0) % (b / (r0 : Int))))) := Lib.hid (hJ.base _ mm4)
              have XL_8 : Hid (IntAt wk (4398046511103) (.agg #[.bool n, .slice ao len cap]) (a)) := Lib.hid (hJ.base _ mm5)
              have bw_8 : Hid (Below (w.heap.size) w wk) := Lib.hid (bw_7.out.trans (((Below.refl (w.heap.size) wj).drew).trans (hJ.fr.mono (by omega))))
              have sz_8 : wj.heap.size <= wk.heap.size := hJ.size
              clear A_7 B_7 R_7 P_7 Q_7 PR_7 X_7 Y_7 GP_7 PE_7 XX_7 XL_7 bw_7
              obtain ⟨_, _, br, or_, lr, kr, hr_R, hc_R⟩ := hJ.tgt _ mm0
              have R_8 : Hid (RowAt wk (w.heap.size + 4) 45 [.bool br, .slice or_ lr kr]) := Lib.hid (hr_R)
              have YR_8 : Hid (OwnI wk (w.heap.size + 5) (.agg #[.bool br, .slice or_ lr kr]) ((((r0 : Int) - a * ((m0) % (b / (r0 : Int)))) / b))) := Lib.hid (hc_R (hL 10 (by show 10 < 11; decide)))
              clear hr_R hc_R
              clear hJ hL
              simp only [pN, Nat.reduceEqDiff, ↓reduceIte]
              try go_wp2
              have d0 : wk.cell? ⟨w.heap.size + 2, 0, none⟩ = some (.bool bp) := P_8.out.cell 0
              have d1 : wk.cell? ⟨w.heap.size + 2, 1, none⟩ = some (.slice op lp kp) := P_8.out.cell 1
              have e0 : wk.cell? ⟨w.heap.size + 3, 0, none⟩ = some (.bool bx) := Q_8.out.cell 0
              have e1 : wk.cell? ⟨w.heap.size + 3, 1, none⟩ = some (.slice ox lx kx) := Q_8.out.cell 1
              have f0 : wk.cell? ⟨w.heap.size + 4, 0, none⟩ = some (.bool br) := R_8.out.cell 0
              have f1 : wk.cell? ⟨w.heap.size + 4, 1, none⟩ = some (.slice or_ lr kr) := R_8.out.cell 1
              have g0 : wk.frozen? ⟨w.heap.size + 2, 0, none⟩ = false := P_8.out.free 0
              have g1 : wk.frozen? ⟨w.heap.size + 2, 1, none⟩ = false := P_8.out.free 1
              have h0 : wk.frozen? ⟨w.heap.size + 3, 0, none⟩ = false := Q_8.out.free 0
              have h1 : wk.frozen? ⟨w.heap.size + 3, 1, none⟩ = false := Q_8.out.free 1
              have i0 : wk.frozen? ⟨w.heap.size + 4, 0, none⟩ = false := R_8.out.free 0
              have i1 : wk.frozen? ⟨w.heap.size + 4, 1, none⟩ = false := R_8.out.free 1
              go_region
              go_wp2
              simp only [Nat.add_assoc, Nat.reduceAdd]
              clear A_8
              clear B_8
              clear PR_8
              clear X_8
              clear Y_8
              clear PE_8
              clear XL_8
              obtain ⟨q_1, hq_1⟩ : ∃ wq_, ((wk.setCell ⟨w.heap.size + 2, 0, none⟩ (.bool bp)).setCell ⟨w.heap.size + 2, 1, none⟩ (.slice op lp kp)) = wq_ := ⟨_, rfl⟩
              have P_9 : Hid (RowAt q_1 (w.heap.size + 2) 45 [.bool bp, .slice op lp kp]) := Lib.hid (by rw [<- hq_1]; exact RowAt.setAll (w := wk) [.bool bp, .slice op lp kp] 0 P_8.out rfl)
              have Q_9 : Hid (RowAt q_1 (w.heap.size + 3) 45 [.bool bx, .slice ox lx kx]) := Lib.hid (by rw [<- hq_1]; exact RowAt.setAll_other (w := wk) (g := w.heap.size + 2) (by omega) [.bool bp, .slice op lp kp] 0 Q_8.out)
              have R_9 : Hid (RowAt q_1 (w.heap.size + 4) 45 [.bool br, .slice or_ lr kr]) := Lib.hid (by rw [<- hq_1]; exact RowAt.setAll_other (w := wk) (g := w.heap.size + 2) (by omega) [.bool bp, .slice op lp kp] 0 R_8.out)
              have GP_9 : Hid (OwnI q_1 (w.heap.size + 5) (.agg #[.bool bp, .slice op lp kp]) ((r0 : Int))) := Lib.hid (by rw [<- hq_1]; exact AV.setAll (AV.int (w.heap.size + 5) ((r0 : Int))) (by decide) [.bool bp, .slice op lp kp] 0 (w := wk) GP_8.out P_8.out (NoW.bool (NoW.slice NoW.nil)) (NoW.bool (NoW.slice NoW.nil)))
              have XX_9 : Hid (OwnI q_1 (w.heap.size + 5) (.agg #[.bool bx, .slice ox lx kx]) (((m0) % (b / (r0 : Int))))) := Lib.hid (by rw [<- hq_1]; exact AV.setAll (AV.int (w.heap.size + 5) (((m0) % (b / (r0 : Int))))) (by decide) [.bool bp, .slice op lp kp] 0 (w := wk) XX_8.out P_8.out (NoW.bool (NoW.slice NoW.nil)) (NoW.bool (NoW.slice NoW.nil)))
              have YR_9 : Hid (OwnI q_1 (w.heap.size + 5) (.agg #[.bool br, .slice or_ lr kr]) ((((r0 : Int) - a * ((m0) % (b / (r0 : Int)))) / b))) := Lib.hid (by rw [<- hq_1]; exact AV.setAll (AV.int (w.heap.size + 5) ((((r0 : Int) - a * ((m0) % (b / (r0 : Int)))) / b))) (by decide) [.bool bp, .slice op lp kp] 0 (w := wk) YR_8.out P_8.out (NoW.bool (NoW.slice NoW.nil)) (NoW.bool (NoW.slice NoW.nil)))
              have bw_9 : Hid (Below (w.heap.size) w q_1) := Lib.hid (by rw [<- hq_1]; exact below_setAll (g := w.heap.size + 2) (by omega) [.bool bp, .slice op lp kp] 0 bw_8.out)
              have sz_9 : q_1.heap.size = wk.heap.size := by rw [<- hq_1]; simp
              clear P_8 Q_8 R_8 GP_8 XX_8 YR_8 bw_8
              obtain ⟨q_2, hq_2⟩ : ∃ wq_, ((q_1.setCell ⟨w.heap.size + 3, 0, none⟩ (.bool bx)).setCell ⟨w.heap.size + 3, 1, none⟩ (.slice ox lx kx)) = wq_ := ⟨_, rfl⟩
              have P_10 : Hid (RowAt q_2 (w.heap.size + 2) 45 [.bool bp, .slice op lp kp]) := Lib.hid (by rw [<- hq_2]; exact RowAt.setAll_other (w := q_1) (g := w.heap.size + 3) (by omega) [.bool bx, .slice ox lx kx] 0 P_9.out)
              have Q_10 : Hid (RowAt q_2 (w.heap.size + 3) 45 [.bool bx, .slice ox lx kx]) := Lib.hid (by rw [<- hq_2]; exact RowAt.setAll (w := q_1) [.bool bx, .slice ox lx kx] 0 Q_9.out rfl)
              have R_10 : Hid (RowAt q_2 (w.heap.size + 4) 45 [.bool br, .slice or_ lr kr]) := Lib.hid (by rw [<- hq_2]; exact RowAt.setAll_other (w := q_1) (g := w.heap.size + 3) (by omega) [.bool bx, .slice ox lx kx] 0 R_9.out)
              have GP_10 : Hid (OwnI q_2 (w.heap.size + 5) (.agg #[.bool bp, .slice op lp kp]) ((r0 : Int))) := Lib.hid (by rw [<- hq_2]; exact AV.setAll (AV.int (w.heap.size + 5) ((r0 : Int))) (by decide) [.bool bx, .slice ox lx kx] 0 (w := q_1) GP_9.out Q_9.out (NoW.bool (NoW.slice NoW.nil)) (NoW.bool (NoW.slice NoW.nil)))
              have XX_10 : Hid (OwnI q_2 (w.heap.size + 5) (.agg #[.bool bx, .slice ox lx kx]) (((m0) % (b / (r0 : Int))))) := Lib.hid (by rw [<- hq_2]; exact AV.setAll (AV.int (w.heap.size + 5) (((m0) % (b / (r0 : Int))))) (by decide) [.bool bx, .slice ox lx kx] 0 (w := q_1) XX_9.out Q_9.out (NoW.bool (NoW.slice NoW.nil)) (NoW.bool (NoW.slice NoW.nil)))
              have YR_10 : Hid (OwnI q_2 (w.heap.size + 5) (.agg #[.bool br, .slice or_ lr kr]) ((((r0 : Int) - a * ((m0) % (b / (r0 : Int)))) / b))) := Lib.hid (by rw [<- hq_2]; exact AV.setAll (AV.int (w.heap.size + 5) ((((r0 : Int) - a * ((m0) % (b / (r0 : Int)))) / b))) (by decide) [.bool bx, .slice ox lx kx] 0 (w := q_1) YR_9.out Q_9.out (NoW.bool (NoW.slice NoW.nil)) (NoW.bool (NoW.slice NoW.nil)))
              have bw_10 : Hid (Below (w.heap.size) w q_2) := Lib.hid (by rw [<- hq_2]; exact below_setAll (g := w.heap.size + 3) (by omega) [.bool bx, .slice ox lx kx] 0 bw_9.out)
              have sz_10 : q_2.heap.size = q_1.heap.size := by rw [<- hq_2]; simp
              clear P_9 Q_9 R_9 GP_9 XX_9 YR_9 bw_9
              obtain ⟨q_3, hq_3⟩ : ∃ wq_, ((q_2.setCell ⟨w.heap.size + 4, 0, none⟩ (.bool br)).setCell ⟨w.heap.size + 4, 1, none⟩ (.slice or_ lr kr)) = wq_ := ⟨_, rfl⟩
              have P_11 : Hid (RowAt q_3 (w.heap.size + 2) 45 [.bool bp, .slice op lp kp]) := Lib.hid (by rw [<- hq_3]; exact RowAt.setAll_other (w := q_2) (g := w.heap.size + 4) (by omega) [.bool br, .slice or_ lr kr] 0 P_10.out)
              have Q_11 : Hid (RowAt q_3 (w.heap.size + 3) 45 [.bool bx, .slice ox lx kx]) := Lib.hid (by rw [<- hq_3]; exact RowAt.setAll_other (w := q_2) (g := w.heap.size + 4) (by omega) [.bool br, .slice or_ lr kr] 0 Q_10.out)
              have R_11 : Hid (RowAt q_3 (w.heap.size + 4) 45 [.bool br, .slice or_ lr kr]) := Lib.hid (by rw [<- hq_3]; exact RowAt.setAll (w := q_2) [.bool br, .slice or_ lr kr] 0 R_10.out rfl)
              have GP_11 : Hid (OwnI q_3 (w.heap.size + 5) (.agg #[.bool bp, .slice op lp kp]) ((r0 : Int))) := Lib.hid (by rw [<- hq_3]; exact AV.setAll (AV.int (w.heap.size + 5) ((r0 : Int))) (by decide) [.bool br, .slice or_ lr kr] 0 (w := q_2) GP_10.out R_10.out (NoW.bool (NoW.slice NoW.nil)) (NoW.bool (NoW.slice NoW.nil)))
              have XX_11 : Hid (OwnI q_3 (w.heap.size + 5) (.agg #[.bool bx, .slice ox lx kx]) (((m0) % (b / (r0 : Int))))) := Lib.hid (by rw [<- hq_3]; exact AV.setAll (AV.int (w.heap.size + 5) (((m0) % (b / (r0 : Int))))) (by decide) [.bool br, .slice or_ lr kr] 0 (w := q_2) XX_10.out R_10.out (NoW.bool (NoW.slice NoW.nil)) (NoW.bool (NoW.slice NoW.nil)))
              have YR_11 : Hid (OwnI q_3 (w.heap.size + 5) (.agg #[.bool br, .slice or_ lr kr]) ((((r0 : Int) - a * ((m0) % (b / (r0 : Int)))) / b))) := Lib.hid (by rw [<- hq_3]; exact AV.setAll (AV.int (w.heap.size + 5) ((((r0 : Int) - a * ((m0) % (b / (r0 : Int)))) / b))) (by decide) [.bool br, .slice or_ lr kr] 0 (w := q_2) YR_10.out R_10.out (NoW.bool (NoW.slice NoW.nil)) (NoW.bool (NoW.slice NoW.nil)))
              have bw_11 : Hid (Below (w.heap.size) w q_3) := Lib.hid (by rw [<- hq_3]; exact below_setAll (g := w.heap.size + 4) (by omega) [.bool br, .slice or_ lr kr] 0 bw_10.out)
              have sz_11 : q_3.heap.size = q_2.heap.size := by rw [<- hq_3]; simp
              clear P_10 Q_10 R_10 GP_10 XX_10 YR_10 bw_10
              subst hq_3
              subst hq_2
              subst hq_1
              refine bodyPost_ret (results_int3 (p := 4) (p2 := 5) (p3 := 6) (by kernel_rfl) _ _ (w.heap.size + 2) (w.heap.size + 3) (w.heap.size + 4) _ _ _ _ _ _ rfl rfl rfl (RowAt.drew P_11.out) (RowAt.drew Q_11.out) (RowAt.drew R_11.out)) rfl ?_
              refine ⟨⟨_, _, _, _, _, _, rfl, hel4.out, ?_, ?_, ?_⟩, ?_⟩
              · exact (OwnI.drew GP_11.out).mono (by omega)
              · exact (OwnI.drew XX_11.out).mono (by omega)
              · exact (OwnI.drew YR_11.out).mono (by omega)
              · exact Below.drew bw_11.out
      · have hK1 : ((kv : Nat) : Int) ≠ 0 := by omega
        have hz0 : ¬ zsign (kv : Int) = 0 := fun h => hK1 (zsign_beq.1 h)
        obtain ⟨sb, hsb⟩ : ∃ s, zsign (kv : Int) = s := ⟨_, rfl⟩
        rw [hsb] at hz0 ⊢
        clear hsb
        have hz : (sb != 0) = true := by simpa using hz0
        have d0 : w8.cell? ⟨g7, 0, none⟩ = some (.bool b1) := T7_1.out.cell 0
        have d1 : w8.cell? ⟨g7, 1, none⟩ = some (.slice o1 l1 k1) := T7_1.out.cell 1
        have d2 : w8.cell? ⟨g7, 2, none⟩ = some (.bool b2) := T7_1.out.cell 2
        have d3 : w8.cell? ⟨g7, 3, none⟩ = some (.slice o2 l2 k2) := T7_1.out.cell 3
        go_wp2_with fail
        clear hz hz0 d0 d1 d2 d3
        refine (ITrunc_c _ _ (r0 : Int) (kv : Int) _ (OwnI.int R0_1.out (by omega)) (OwnI.int R1_1.out (by omega)) hK1).mono ?_
        rintro e w9 ⟨⟨vq, vr, rfl, hq, hr⟩, hb9⟩
        have sz_2 := (hb9).size
        have A_2 := Lib.hid (RowAt.below (w := w8) A_1.out (hb9) A_1.out.lt)
        have B_2 := Lib.hid (RowAt.below (w := w8) B_1.out (hb9) B_1.out.lt)
        have P_2 := Lib.hid (RowAt.below (w := w8) P_1.out (hb9) P_1.out.lt)
        have Q_2 := Lib.hid (RowAt.below (w := w8) Q_1.out (hb9) Q_1.out.lt)
        have R_2 := Lib.hid (RowAt.below (w := w8) R_1.out (hb9) R_1.out.lt)
        have T7_2 := Lib.hid (RowAt.below (w := w8) T7_1.out (hb9) T7_1.out.lt)
        have T8_2 := Lib.hid (RowAt.below (w := w8) T8_1.out (hb9) T8_1.out.lt)
        have X_2 := Lib.hid (IntAt.below (w := w8) X_1.out (hb9))
        have Y_2 := Lib.hid (IntAt.below (w := w8) Y_1.out (hb9))
        have R0_2 := Lib.hid (OwnI.below (w := w8) R0_1.out (hb9))
        have R1_2 := Lib.hid (OwnI.below (w := w8) R1_1.out (hb9))
        have M0_2 := Lib.hid (OwnI.below (w := w8) M0_1.out (hb9))
        have M1_2 := Lib.hid (OwnI.below (w := w8) M1_1.out (hb9))
        have bw_2 := Lib.hid (Below.trans bw_1.out (Below.mono (hb9) (by have := bw_1.out.size; omega)))
        clear A_1 B_1 P_1 Q_1 R_1 T7_1 T8_1 X_1 Y_1 R0_1 R1_1 M0_1 M1_1 bw_1
        clear hb9
        obtain ⟨b5, o5, l5, k5, rfl⟩ := hq.parts
        obtain ⟨b6, o6, l6, k6, rfl⟩ := hr.parts
        have eq1 : ((r0 : Nat) : Int).tdiv ((kv : Nat) : Int) = ((r0 / kv : Nat) : Int) := rfl
        have er1 : ((r0 : Nat) : Int).tmod ((kv : Nat) : Int) = ((r0 % kv : Nat) : Int) := rfl
        rw [eq1] at hq
        rw [er1] at hr
        clear eq1 er1
        have QQ_2 : Hid (OwnI w9 (w.heap.size + 5) (.agg #[.bool b5, .slice o5 l5 k5]) (((r0 / kv : Nat) : Int))) := Lib.hid (hq.mono (by omega))
        have RR_2 : Hid (OwnI w9 (w.heap.size + 5) (.agg #[.bool b6, .slice o6 l6 k6]) (((r0 % kv : Nat) : Int))) := Lib.hid (hr.mono (by omega))
        clear hq hr
        go_wp2_with fail
        obtain ⟨n9, n10, hb10⟩ := two_new w9 #[.bool b5, .slice o5 l5 k5] #[.bool b6, .slice o6 l6 k6] 45 45
        generalize (w9.alloc (.cells #[.bool b5, .slice o5 l5 k5] 45)).alloc (.cells #[.bool b6, .slice o6 l6 k6] 45) = w10 at *
        have sz_3 := (hb10).size
        have A_3 := Lib.hid (RowAt.below (w := w9) A_2.out (hb10) A_2.out.lt)
        have B_3 := Lib.hid (RowAt.below (w := w9) B_2.out (hb10) B_2.out.lt)
        have P_3 := Lib.hid (RowAt.below (w := w9) P_2.out (hb10) P_2.out.lt)
        have Q_3 := Lib.hid (RowAt.below (w := w9) Q_2.out (hb10) Q_2.out.lt)
        have R_3 := Lib.hid (RowAt.below (w := w9) R_2.out (hb10) R_2.out.lt)
        have T7_3 := Lib.hid (RowAt.below (w := w9) T7_2.out (hb10) T7_2.out.lt)
        have T8_3 := Lib.hid (RowAt.below (w := w9) T8_2.out (hb10) T8_2.out.lt)
        have X_3 := Lib.hid (IntAt.below (w := w9) X_2.out (hb10))
        have Y_3 := Lib.hid (IntAt.below (w := w9) Y_2.out (hb10))
        have R0_3 := Lib.hid (OwnI.below (w := w9) R0_2.out (hb10))
        have R1_3 := Lib.hid (OwnI.below (w := w9) R1_2.out (hb10))
        have M0_3 := Lib.hid (OwnI.below (w := w9) M0_2.out (hb10))
        have M1_3 := Lib.hid (OwnI.below (w := w9) M1_2.out (hb10))
        have QQ_3 := Lib.hid (OwnI.below (w := w9) QQ_2.out (hb10))
        have RR_3 := Lib.hid (OwnI.below (w := w9) RR_2.out (hb10))
        have bw_3 := Lib.hid (Below.trans bw_2.out (Below.mono (hb10) (by have := bw_2.out.size; omega)))
        clear A_2 B_2 P_2 Q_2 R_2 T7_2 T8_2 X_2 Y_2 R0_2 R1_2 M0_2 M1_2 QQ_2 RR_2 bw_2
        have L9_3 : Hid (RowAt w10 (w9.heap.size) 45 [.bool b5, .slice o5 l5 k5]) := Lib.hid (n9)
        have L10_3 : Hid (RowAt w10 (w9.heap.size + 1) 45 [.bool b6, .slice o6 l6 k6]) := Lib.hid (n10)
        have hs10 : w9.heap.size + 1 < w10.heap.size := n10.lt
        clear n9 n10 hb10
        have hwq : wlen (((r0 / kv : Nat) : Int)).natAbs <= 4398046511103 := Nat.le_trans (wlen_mono (Nat.le_trans (Nat.div_le_self _ _) IM0.out)) hwmax
        have hn1 : (m0 - ((r0 / kv : Nat) : Int) * m1).natAbs <= b.natAbs := (HE.out.step hK0).k1
        have hwqm : wlen ((((r0 / kv : Nat) : Int) * m1)).natAbs <= 17592186044415 := by rw [Int.natAbs_mul]; exact Nat.le_trans (wlen_mul _ _) (by omega)
        refine wp_region_J ⟨9, fun q_ => [45, 46, 47, 48, 49, 50, 51, 12, 1008].getD q_ 0,
         fun q_ => [.val (.pointer (some ⟨g8, 0, none⟩)), .val (.agg #[.bool b3, .slice o3 l3 k3]), .val (.agg #[.bool b5, .slice o5 l5 k5]), .val (.pointer (some ⟨g8, 2, none⟩)), .val (.agg #[.bool b4, .slice o4 l4 k4]), .int (w.heap.size + 5) (((r0 / kv : Nat) : Int) * m1), .int (w.heap.size + 5) (m0 - ((r0 / kv : Nat) : Int) * m1), .ptr w10.heap.size 45 2, .any].getD q_ .any,
         [],
         [(.agg #[.bool n, .slice ao len cap], .at_ (17592186044415) (a)), (.agg #[.bool n2, .slice ao2 len2 cap2], .at_ (17592186044415) (b)), (.agg #[.bool b1, .slice o1 l1 k1], .int (w.heap.size + 5) ((r0 : Int))), (.agg #[.bool b2, .slice o2 l2 k2], .int (w.heap.size + 5) ((kv : Int))), (.agg #[.bool b3, .slice o3 l3 k3], .int (w.heap.size + 5) (m0)), (.agg #[.bool b4, .slice o4 l4 k4], .int (w.heap.size + 5) (m1)), (.agg #[.bool b5, .slice o5 l5 k5], .int (w.heap.size + 5) (((r0 / kv : Nat) : Int))), (.agg #[.bool b6, .slice o6 l6 k6], .int (w.heap.size + 5) (((r0 % kv : Nat) : Int)))],
         [(w.heap.size, 45, [.bool n, .slice ao len cap]), (w.heap.size + 1, 45, [.bool n2, .slice ao2 len2 cap2]), (w.heap.size + 2, 45, [.bool false, .slice none 0 0]), (w.heap.size + 3, 45, [.bool false, .slice none 0 0]), (w.heap.size + 4, 45, [.bool false, .slice none 0 0]), (g7, 155, [.bool b1, .slice o1 l1 k1, .bool b2, .slice o2 l2 k2]), (g8, 155, [.bool b3, .slice o3 l3 k3, .bool b4, .slice o4 l4 k4]), (w9.heap.size, 45, [.bool b5, .slice o5 l5 k5]), (w9.heap.size + 1, 45, [.bool b6, .slice o6 l6 k6])],
         [(8, 12, 45, .int (w.heap.size + 5) (m0 - ((r0 / kv : Nat) : Int) * m1))], [], [(7, 12)]⟩ [45, 46, 47, 48, 49, 50, 51, 12] (w.heap.size + 5) (by kernel_rfl) (by kernel_rfl) (by kernel_rfl) (by kernel_rfl) ?_ ?_ ?_ ?_ ?_ ?_
        · intro p hp
          rcases mc hp with rfl | hp
          · exact X_3.out
          rcases mc hp with rfl | hp
          · exact Y_3.out
          rcases mc hp with rfl | hp
          · exact R0_3.out
          rcases mc hp with rfl | hp
          · exact R1_3.out
          rcases mc hp with rfl | hp
          · exact M0_3.out
          rcases mc hp with rfl | hp
          · exact M1_3.out
          rcases mc hp with rfl | hp
          · exact QQ_3.out
          rcases mc hp with rfl | hp
          · exact RR_3.out
          cases hp
        · intro p hp
          rcases mc hp with rfl | hp
          · refine ⟨A_3.out, by show w.heap.size < w10.heap.size; omega, ?_⟩
            intro t ht
            cases ht
          rcases mc hp with rfl | hp
          · refine ⟨B_3.out, by show w.heap.size + 1 < w10.heap.size; omega, ?_⟩
            intro t ht
            cases ht
          rcases mc hp with rfl | hp
          · refine ⟨P_3.out, by show w.heap.size + 2 < w10.heap.size; omega, ?_⟩
            intro t ht
            cases ht
          rcases mc hp with rfl | hp
          · refine ⟨Q_3.out, by show w.heap.size + 3 < w10.heap.size; omega, ?_⟩
            intro t ht
            cases ht
          rcases mc hp with rfl | hp
          · refine ⟨R_3.out, by show w.heap.size + 4 < w10.heap.size; omega, ?_⟩
            intro t ht
            cases ht
          rcases mc hp with rfl | hp
          · refine ⟨T7_3.out, by show g7 < w10.heap.size; omega, ?_⟩
            intro t ht
            cases ht
          rcases mc hp with rfl | hp
          · refine ⟨T8_3.out, by show g8 < w10.heap.size; omega, ?_⟩
            intro t ht
            cases ht
          rcases mc hp with rfl | hp
          · refine ⟨L9_3.out, by show w9.heap.size < w10.heap.size; omega, ?_⟩
            intro t ht
            cases ht
          rcases mc hp with rfl | hp
          · refine ⟨L10_3.out, by show w9.heap.size + 1 < w10.heap.size; omega, ?_⟩
            intro t ht
            cases ht
          cases hp
        · intro p hp
          cases hp
        · intro t ht
          cases ht
        · refine allc ?_ (allc ?_ (allc ?_ (allc ?_ (allc ?_ (allc ?_ (allc ?_ (allc ?_ (allc ?_ alln))))))))
          · intro L fx w' hJ hL hp hcl
            refine wpOp_step rfl (fun K hK => ?_)
            simp only [pN, Nat.reduceEqDiff, ↓reduceIte]
            go_simp
            exact hK _ _ ⟨_, by kernel_rfl, hJ.pC 0 rfl (by kernel_rfl) rfl (by omega)⟩
          · intro L fx w' hJ hL hp hcl
            have e0 := hJ.pt 0 45 (.pointer (some ⟨g8, 0, none⟩)) rfl rfl rfl (hp 0 (by decide))
            rw [e0] at hJ ⊢; clear e0
            refine wpOp_step rfl (fun K hK => ?_)
            simp only [pN, Nat.reduceEqDiff, ↓reduceIte]
            have rw0 := (hJ.rows _ mm6).1
            have cl0 : w'.cell? ⟨g8, 0, none⟩ = some (.bool b3) := rw0.cell 0
            have cl1 : w'.cell? ⟨g8, 1, none⟩ = some (.slice o3 l3 k3) := rw0.cell 1
            go_simp
            exact hK _ _ ⟨_, by kernel_rfl, hJ.pC 1 rfl (by kernel_rfl) rfl (by omega)⟩
          · intro L fx w' hJ hL hp hcl
            refine wpOp_step rfl (fun K hK => ?_)
            simp only [pN, Nat.reduceEqDiff, ↓reduceIte]
            have rw0 := (hJ.rows _ mm7).1
            have cl0 : w'.cell? ⟨w9.heap.size, 0, none⟩ = some (.bool b5) := rw0.cell 0
            have cl1 : w'.cell? ⟨w9.heap.size, 1, none⟩ = some (.slice o5 l5 k5) := rw0.cell 1
            go_simp
            exact hK _ _ ⟨_, by kernel_rfl, hJ.pC 2 rfl (by kernel_rfl) rfl (by omega)⟩
          · intro L fx w' hJ hL hp hcl
            refine wpOp_step rfl (fun K hK => ?_)
            simp only [pN, Nat.reduceEqDiff, ↓reduceIte]
            go_simp
            exact hK _ _ ⟨_, by kernel_rfl, hJ.pC 3 rfl (by kernel_rfl) rfl (by omega)⟩
          · intro L fx w' hJ hL hp hcl
            have e3 := hJ.pt 3 48 (.pointer (some ⟨g8, 2, none⟩)) rfl rfl rfl (hp 3 (by decide))
            rw [e3] at hJ ⊢; clear e3
            refine wpOp_step rfl (fun K hK => ?_)
            simp only [pN, Nat.reduceEqDiff, ↓reduceIte]
            have rw0 := (hJ.rows _ mm6).1
            have cl2 : w'.cell? ⟨g8, 2, none⟩ = some (.bool b4) := rw0.cell 2
            have cl3 : w'.cell? ⟨g8, 3, none⟩ = some (.slice o4 l4 k4) := rw0.cell 3
            go_simp
            exact hK _ _ ⟨_, by kernel_rfl, hJ.pC 4 rfl (by kernel_rfl) rfl (by omega)⟩
          · intro L fx w' hJ hL hp hcl
            have e2 := hJ.pt 2 47 (.agg #[.bool b5, .slice o5 l5 k5]) rfl rfl rfl (hp 2 (by decide))
            rw [e2] at hJ ⊢; clear e2
            have e4 := hJ.pt 4 49 (.agg #[.bool b4, .slice o4 l4 k4]) rfl rfl rfl (hp 4 (by decide))
            rw [e4] at hJ ⊢; clear e4
            refine wpOp_step rfl (fun K hK => ?_)
            simp only [pN, Nat.reduceEqDiff, ↓reduceIte]
            go_simp
            go_at_call 72
            refine (IMul_c _ _ ((r0 / kv : Nat) : Int) m1 4398046511103 4398046511103 _ (OwnI.int (show OwnI w' (w.heap.size + 5) (.agg #[.bool b5, .slice o5 l5 k5]) (((r0 / kv : Nat) : Int)) from hJ.base _ mm6) hwq) (OwnI.int (show OwnI w' (w.heap.size + 5) (.agg #[.bool b4, .slice o4 l4 k4]) (m1) from hJ.base _ mm5) hwm1) (by omega)).mono ?_
            rintro e w4 ⟨⟨v5, rfl, h5⟩, hb4⟩
            try dsimp only
            exact hK _ _ ⟨_, by kernel_rfl, hJ.gC 5 rfl (by kernel_rfl) hb4 (OwnI.mono h5 (Nat.le_trans (by omega) hJ.size)) (by omega)⟩
          · intro L fx w' hJ hL hp hcl
            have e5 := hJ.slot 5 (by show 5 < 9; decide) (hp 5 (by decide))
            have e1 := hJ.pt 1 46 (.agg #[.bool b3, .slice o3 l3 k3]) rfl rfl rfl (hp 1 (by decide))
            rw [e1] at hJ ⊢; clear e1
            refine wpOp_step rfl (fun K hK => ?_)
            simp only [pN, Nat.reduceEqDiff, ↓reduceIte]
            go_simp
            go_at_call 71
            refine (ISub_c _ _ m0 (((r0 / kv : Nat) : Int) * m1) _ (OwnI.int (show OwnI w' (w.heap.size + 5) (.agg #[.bool b3, .slice o3 l3 k3]) (m0) from hJ.base _ mm4) (by omega)) (OwnI.int (show OwnI w' _ (fx 50) _ from e5) hwqm)).mono ?_
            rintro e w4 ⟨⟨v5, rfl, h5⟩, hb4⟩
            try dsimp only
            exact hK _ _ ⟨_, by kernel_rfl, hJ.gC 6 rfl (by kernel_rfl) hb4 (OwnI.mono h5 (Nat.le_trans (by omega) hJ.size)) (by omega)⟩
          · intro L fx w' hJ hL hp hcl
            have hg0 : w.heap.size + 5 <= w'.heap.size := Nat.le_trans (by omega : w.heap.size + 5 <= w10.heap.size) hJ.size
            refine wpOp_step rfl (fun K hK => ?_)
            simp only [pN, Nat.reduceEqDiff, ↓reduceIte]
            go_simp
            exact hK _ _ ⟨_, by kernel_rfl, hJ.grow 7 (by show 7 < 9; decide) _ (by kernel_rfl) (by kernel_rfl) (by intro t ht; rcases mc ht with rfl | ht; exact ⟨by show 8 ≠ 7; decide, fun _ => by cases hh : L 8 with | false => rfl | true => have := hcl 8 (by show 8 < 9; decide) hh 7 (by decide); rw [hL] at this; cases this⟩; cases ht) (by intro p hp; rcases mc hp with rfl | hp; exact ⟨⟨fun _ => rfl, fun _ => rfl⟩, fun _ q hq hne hLq => (by rcases mc hq with rfl | hq; exact absurd rfl hne; cases hq)⟩; cases hp) ((Below.refl _ _).alloc (Nat.le_refl _) _) ⟨w'.heap.size, _, rfl, hJ.size, RowAt.new _ _ _, NoW.two _ _ _ _, rfl⟩ hg0⟩
          · intro L fx w' hJ hL hp hcl
            have e7 := hJ.slot 7 (by show 7 < 9; decide) (hp 7 (by decide))
            have e6 := hJ.slot 6 (by show 6 < 9; decide) (hp 6 (by decide))
            have e6' := e6
            obtain ⟨b7, o7, l7, k7, hv0⟩ := OwnI.parts e6
            rw [hv0] at e6'
            rw [patchX (x := fx) (d := 51) (v := (.agg #[.bool b7, .slice o7 l7 k7])) hv0] at hJ ⊢
            obtain ⟨g, cs, hx, hgB, hr0, hn0, hl0⟩ := e7
            obtain ⟨z0, z1, rfl⟩ : ∃ z0 z1, cs = [z0, z1] := list2 hl0
            have hf0 := RowAt.free hr0 0
            have hc0 := RowAt.cell hr0 0
            have hf1 := RowAt.free hr0 1
            have hc1 := RowAt.cell hr0 1
            try dsimp only at hf0 hc0 hf1 hc1
            have hx1 := hx
            rw [patchX (x := (updX fx 51 (.agg #[.bool b7, .slice o7 l7 k7]))) (d := 12) hx] at hJ ⊢
            refine wpOp_step rfl (fun K hK => ?_)
            simp only [pN, Nat.reduceEqDiff, ↓reduceIte]
            go_simp
            exact hK _ _ ⟨_, by kernel_rfl, hJ.storeNew (us := [.bool b7, .slice o7 l7 k7]) 8 12 _ _ (by show 8 < 9; decide) rfl mm0 (by intro t ht h; rcases mc ht with rfl | ht; rfl; cases ht) (by intro t ht hne hLt; rcases mc ht with rfl | ht; exact absurd rfl hne; cases ht) (by kernel_rfl) (by kernel_rfl) (by decide) (by rfl) hgB hr0 hn0 rfl (NoW.two _ _ _ _) ⟨_, _, _, _, rfl, e6'⟩ (by omega)⟩
        · intro L x' w11 hL hJ
          have A_4 : Hid (RowAt w11 (w.heap.size) 45 [.bool n, .slice ao len cap]) := Lib.hid (hJ.rows _ mm0).1
          have B_4 : Hid (RowAt w11 (w.heap.size + 1) 45 [.bool n2, .slice ao2 len2 cap2]) := Lib.hid (hJ.rows _ mm1).1
          have P_4 : Hid (RowAt w11 (w.heap.size + 2) 45 [.bool false, .slice none 0 0]) := Lib.hid (hJ.rows _ mm2).1
          have Q_4 : Hid (RowAt w11 (w.heap.size + 3) 45 [.bool false, .slice none 0 0]) := Lib.hid (hJ.rows _ mm3).1
          have R_4 : Hid (RowAt w11 (w.heap.size + 4) 45 [.bool false, .slice none 0 0]) := Lib.hid (hJ.rows _ mm4).1
          have T7_4 : Hid (RowAt w11 (g7) 155 [.bool b1, .slice o1 l1 k1, .bool b2, .slice o2 l2 k2]) := Lib.hid (hJ.rows _ mm5).1
          have T8_4 : Hid (RowAt w11 (g8) 155 [.bool b3, .slice o3 l3 k3, .bool b4, .slice o4 l4 k4]) := Lib.hid (hJ.rows _ mm6).1
          have L9_4 : Hid (RowAt w11 (w9.heap.size) 45 [.bool b5, .slice o5 l5 k5]) := Lib.hid (hJ.rows _ mm7).1
          have L10_4 : Hid (RowAt w11 (w9.heap.size + 1) 45 [.bool b6, .slice o6 l6 k6]) := Lib.hid (hJ.rows _ mm8).1
          have X_4 : Hid (IntAt w11 (17592186044415) (.agg #[.bool n, .slice ao len cap]) (a)) := Lib.hid (hJ.base _ mm0)
          have Y_4 : Hid (IntAt w11 (17592186044415) (.agg #[.bool n2, .slice ao2 len2 cap2]) (b)) := Lib.hid (hJ.base _ mm1)
          have R0_4 : Hid (OwnI w11 (w.heap.size + 5) (.agg #[.bool b1, .slice o1 l1 k1]) ((r0 : Int))) := Lib.hid (hJ.base _ mm2)
          have R1_4 : Hid (OwnI w11 (w.heap.size + 5) (.agg #[.bool b2, .slice o2 l2 k2]) ((kv : Int))) := Lib.hid (hJ.base _ mm3)
          have M0_4 : Hid (OwnI w11 (w.heap.size + 5) (.agg #[.bool b3, .slice o3 l3 k3]) (m0)) := Lib.hid (hJ.base _ mm4)
          have M1_4 : Hid (OwnI w11 (w.heap.size + 5) (.agg #[.bool b4, .slice o4 l4 k4]) (m1)) := Lib.hid (hJ.base _ mm5)
          have QQ_4 : Hid (OwnI w11 (w.heap.size + 5) (.agg #[.bool b5, .slice o5 l5 k5]) (((r0 / kv : Nat) : Int))) := Lib.hid (hJ.base _ mm6)
          have RR_4 : Hid (OwnI w11 (w.heap.size + 5) (.agg #[.bool b6, .slice o6 l6 k6]) (((r0 % kv : Nat) : Int))) := Lib.hid (hJ.base _ mm7)
          have bw_4 : Hid (Below (w.heap.size) w w11) := Lib.hid (bw_3.out.trans (((Below.refl (w.heap.size) w10).drew).trans (hJ.fr.mono (by omega))))
          have sz_4 : w10.heap.size <= w11.heap.size := hJ.size
          clear A_3 B_3 P_3 Q_3 R_3 T7_3 T8_3 L9_3 L10_3 X_3 Y_3 R0_3 R1_3 M0_3 M1_3 QQ_3 RR_3 bw_3
          obtain ⟨g12, cs12, hx12, hg12, hr12, b7, o7, l7, k7, hcs, hI7⟩ := hJ.new _ mm0 (hL 8 (by show 8 < 9; decide))
          subst hcs
          have hx12 : x' 12 = _ := hx12
          rw [patchX (x := x') (d := 12) hx12] at hJ ⊢
          have T12_4 : Hid (RowAt w11 (g12) 45 [.bool b7, .slice o7 l7 k7]) := Lib.hid (hr12)
          have M2_4 : Hid (OwnI w11 (w.heap.size + 5) (.agg #[.bool b7, .slice o7 l7 k7]) ((m0 - ((r0 / kv : Nat) : Int) * m1))) := Lib.hid (hI7)
          have hg12 : w10.heap.size <= g12 := hg12
          have hs12 : g12 < w11.heap.size := hr12.lt
          clear hJ hx12 hr12 hI7 hL
          simp only [pN, Nat.reduceEqDiff, ↓reduceIte]
          have d0 : w11.cell? ⟨g7, 0, none⟩ = some (.bool b1) := T7_4.out.cell 0
          have d1 : w11.cell? ⟨g7, 1, none⟩ = some (.slice o1 l1 k1) := T7_4.out.cell 1
          have d2 : w11.cell? ⟨g7, 2, none⟩ = some (.bool b2) := T7_4.out.cell 2
          have d3 : w11.cell? ⟨g7, 3, none⟩ = some (.slice o2 l2 k2) := T7_4.out.cell 3
          have e0 : w11.cell? ⟨g8, 0, none⟩ = some (.bool b3) := T8_4.out.cell 0
          have e1 : w11.cell? ⟨g8, 1, none⟩ = some (.slice o3 l3 k3) := T8_4.out.cell 1
          have e2 : w11.cell? ⟨g8, 2, none⟩ = some (.bool b4) := T8_4.out.cell 2
          have e3 : w11.cell? ⟨g8, 3, none⟩ = some (.slice o4 l4 k4) := T8_4.out.cell 3
          have f0 : w11.cell? ⟨w9.heap.size + 1, 0, none⟩ = some (.bool b6) := L10_4.out.cell 0
          have f1 : w11.cell? ⟨w9.heap.size + 1, 1, none⟩ = some (.slice o6 l6 k6) := L10_4.out.cell 1
          have h0 : w11.cell? ⟨g12, 0, none⟩ = some (.bool b7) := T12_4.out.cell 0
          have h1 : w11.cell? ⟨g12, 1, none⟩ = some (.slice o7 l7 k7) := T12_4.out.cell 1
          have i0 : w11.frozen? ⟨g7, 0, none⟩ = false := T7_4.out.free 0
          have i1 : w11.frozen? ⟨g7, 1, none⟩ = false := T7_4.out.free 1
          have i2 : w11.frozen? ⟨g7, 2, none⟩ = false := T7_4.out.free 2
          have i3 : w11.frozen? ⟨g7, 3, none⟩ = false := T7_4.out.free 3
          have j0 : w11.frozen? ⟨g8, 0, none⟩ = false := T8_4.out.free 0
          have j1 : w11.frozen? ⟨g8, 1, none⟩ = false := T8_4.out.free 1
          have j2 : w11.frozen? ⟨g8, 2, none⟩ = false := T8_4.out.free 2
          have j3 : w11.frozen? ⟨g8, 3, none⟩ = false := T8_4.out.free 3
          have : ¬ g7 = g8 := by omega
          have : ¬ g8 = g7 := by omega
          have : ¬ g7 = w9.heap.size + 1 := by omega
          have : ¬ w9.heap.size + 1 = g7 := by omega
          have : ¬ g7 = g12 := by omega
          have : ¬ g12 = g7 := by omega
          have : ¬ g8 = w9.heap.size + 1 := by omega
          have : ¬ w9.heap.size + 1 = g8 := by omega
          have : ¬ g8 = g12 := by omega
          have : ¬ g12 = g8 := by omega
          go_wp2
          obtain ⟨q_1, hq_1⟩ : ∃ wq_, ((((w11.setCell ⟨g7, 0, none⟩ (.bool b2)).setCell ⟨g7, 1, none⟩ (.slice o2 l2 k2)).setCell ⟨g7, 2, none⟩ (.bool b6)).setCell ⟨g7, 3, none⟩ (.slice o6 l6 k6)) = wq_ := ⟨_, rfl⟩
          have A_5 : Hid (RowAt q_1 (w.heap.size) 45 [.bool n, .slice ao len cap]) := Lib.hid (by rw [<- hq_1]; exact RowAt.setAll_other (w := w11) (g := g7) (by omega) [.bool b2, .slice o2 l2 k2, .bool b6, .slice o6 l6 k6] 0 A_4.out)
          have B_5 : Hid (RowAt q_1 (w.heap.size + 1) 45 [.bool n2, .slice ao2 len2 cap2]) := Lib.hid (by rw [<- hq_1]; exact RowAt.setAll_other (w := w11) (g := g7) (by omega) [.bool b2, .slice o2 l2 k2, .bool b6, .slice o6 l6 k6] 0 B_4.out)
          have P_5 : Hid (RowAt q_1 (w.heap.size + 2) 45 [.bool false, .slice none 0 0]) := Lib.hid (by rw [<- hq_1]; exact RowAt.setAll_other (w := w11) (g := g7) (by omega) [.bool b2, .slice o2 l2 k2, .bool b6, .slice o6 l6 k6] 0 P_4.out)
          have Q_5 : Hid (RowAt q_1 (w.heap.size + 3) 45 [.bool false, .slice none 0 0]) := Lib.hid (by rw [<- hq_1]; exact RowAt.setAll_other (w := w11) (g := g7) (by omega) [.bool b2, .slice o2 l2 k2, .bool b6, .slice o6 l6 k6] 0 Q_4.out)
          have R_5 : Hid (RowAt q_1 (w.heap.size + 4) 45 [.bool false, .slice none 0 0]) := Lib.hid (by rw [<- hq_1]; exact RowAt.setAll_other (w := w11) (g := g7) (by omega) [.bool b2, .slice o2 l2 k2, .bool b6, .slice o6 l6 k6] 0 R_4.out)
          have T7_5 : Hid (RowAt q_1 (g7) 155 [.bool b2, .slice o2 l2 k2, .bool b6, .slice o6 l6 k6]) := Lib.hid (by rw [<- hq_1]; exact RowAt.setAll (w := w11) [.bool b2, .slice o2 l2 k2, .bool b6, .slice o6 l6 k6] 0 T7_4.out rfl)
          have T8_5 : Hid (RowAt q_1 (g8) 155 [.bool b3, .slice o3 l3 k3, .bool b4, .slice o4 l4 k4]) := Lib.hid (by rw [<- hq_1]; exact RowAt.setAll_other (w := w11) (g := g7) (by omega) [.bool b2, .slice o2 l2 k2, .bool b6, .slice o6 l6 k6] 0 T8_4.out)
          have L9_5 : Hid (RowAt q_1 (w9.heap.size) 45 [.bool b5, .slice o5 l5 k5]) := Lib.hid (by rw [<- hq_1]; exact RowAt.setAll_other (w := w11) (g := g7) (by omega) [.bool b2, .slice o2 l2 k2, .bool b6, .slice o6 l6 k6] 0 L9_4.out)
          have L10_5 : Hid (RowAt q_1 (w9.heap.size + 1) 45 [.bool b6, .slice o6 l6 k6]) := Lib.hid (by rw [<- hq_1]; exact RowAt.setAll_other (w := w11) (g := g7) (by omega) [.bool b2, .slice o2 l2 k2, .bool b6, .slice o6 l6 k6] 0 L10_4.out)
          have T12_5 : Hid (RowAt q_1 (g12) 45 [.bool b7, .slice o7 l7 k7]) := Lib.hid (by rw [<- hq_1]; exact RowAt.setAll_other (w := w11) (g := g7) (by omega) [.bool b2, .slice o2 l2 k2, .bool b6, .slice o6 l6 k6] 0 T12_4.out)
          have X_5 : Hid (IntAt q_1 (17592186044415) (.agg #[.bool n, .slice ao len cap]) (a)) := Lib.hid (by rw [<- hq_1]; exact AV.setAll (AV.at_ (17592186044415) (a)) (by decide) [.bool b2, .slice o2 l2 k2, .bool b6, .slice o6 l6 k6] 0 (w := w11) X_4.out T7_4.out (NoW.bool (NoW.slice (NoW.bool (NoW.slice NoW.nil)))) (NoW.bool (NoW.slice (NoW.bool (NoW.slice NoW.nil)))))
          have Y_5 : Hid (IntAt q_1 (17592186044415) (.agg #[.bool n2, .slice ao2 len2 cap2]) (b)) := Lib.hid (by rw [<- hq_1]; exact AV.setAll (AV.at_ (17592186044415) (b)) (by decide) [.bool b2, .slice o2 l2 k2, .bool b6, .slice o6 l6 k6] 0 (w := w11) Y_4.out T7_4.out (NoW.bool (NoW.slice (NoW.bool (NoW.slice NoW.nil)))) (NoW.bool (NoW.slice (NoW.bool (NoW.slice NoW.nil)))))
          have R0_5 : Hid (OwnI q_1 (w.heap.size + 5) (.agg #[.bool b1, .slice o1 l1 k1]) ((r0 : Int))) := Lib.hid (by rw [<- hq_1]; exact AV.setAll (AV.int (w.heap.size + 5) ((r0 : Int))) (by decide) [.bool b2, .slice o2 l2 k2, .bool b6, .slice o6 l6 k6] 0 (w := w11) R0_4.out T7_4.out (NoW.bool (NoW.slice (NoW.bool (NoW.slice NoW.nil)))) (NoW.bool (NoW.slice (NoW.bool (NoW.slice NoW.nil)))))
          have R1_5 : Hid (OwnI q_1 (w.heap.size + 5) (.agg #[.bool b2, .slice o2 l2 k2]) ((kv : Int))) := Lib.hid (by rw [<- hq_1]; exact AV.setAll (AV.int (w.heap.size + 5) ((kv : Int))) (by decide) [.bool b2, .slice o2 l2 k2, .bool b6, .slice o6 l6 k6] 0 (w := w11) R1_4.out T7_4.out (NoW.bool (NoW.slice (NoW.bool (NoW.slice NoW.nil)))) (NoW.bool (NoW.slice (NoW.bool (NoW.slice NoW.nil)))))
          have M0_5 : Hid (OwnI q_1 (w.heap.size + 5) (.agg #[.bool b3, .slice o3 l3 k3]) (m0)) := Lib.hid (by rw [<- hq_1]; exact AV.setAll (AV.int (w.heap.size + 5) (m0)) (by decide) [.bool b2, .slice o2 l2 k2, .bool b6, .slice o6 l6 k6] 0 (w := w11) M0_4.out T7_4.out (NoW.bool (NoW.slice (NoW.bool (NoW.slice NoW.nil)))) (NoW.bool (NoW.slice (NoW.bool (NoW.slice NoW.nil)))))
          have M1_5 : Hid (OwnI q_1 (w.heap.size + 5) (.agg #[.bool b4, .slice o4 l4 k4]) (m1)) := Lib.hid (by rw [<- hq_1]; exact AV.setAll (AV.int (w.heap.size + 5) (m1)) (by decide) [.bool b2, .slice o2 l2 k2, .bool b6, .slice o6 l6 k6] 0 (w := w11) M1_4.out T7_4.out (NoW.bool (NoW.slice (NoW.bool (NoW.slice NoW.nil)))) (NoW.bool (NoW.slice (NoW.bool (NoW.slice NoW.nil)))))
          have QQ_5 : Hid (OwnI q_1 (w.heap.size + 5) (.agg #[.bool b5, .slice o5 l5 k5]) (((r0 / kv : Nat) : Int))) := Lib.hid (by rw [<- hq_1]; exact AV.setAll (AV.int (w.heap.size + 5) (((r0 / kv : Nat) : Int))) (by decide) [.bool b2, .slice o2 l2 k2, .bool b6, .slice o6 l6 k6] 0 (w := w11) QQ_4.out T7_4.out (NoW.bool (NoW.slice (NoW.bool (NoW.slice NoW.nil)))) (NoW.bool (NoW.slice (NoW.bool (NoW.slice NoW.nil)))))
          have RR_5 : Hid (OwnI q_1 (w.heap.size + 5) (.agg #[.bool b6, .slice o6 l6 k6]) (((r0 % kv : Nat) : Int))) := Lib.hid (by rw [<- hq_1]; exact AV.setAll (AV.int (w.heap.size + 5) (((r0 % kv : Nat) : Int))) (by decide) [.bool b2, .slice o2 l2 k2, .bool b6, .slice o6 l6 k6] 0 (w := w11) RR_4.out T7_4.out (NoW.bool (NoW.slice (NoW.bool (NoW.slice NoW.nil)))) (NoW.bool (NoW.slice (NoW.bool (NoW.slice NoW.nil)))))
          have M2_5 : Hid (OwnI q_1 (w.heap.size + 5) (.agg #[.bool b7, .slice o7 l7 k7]) ((m0 - ((r0 / kv : Nat) : Int) * m1))) := Lib.hid (by rw [<- hq_1]; exact AV.setAll (AV.int (w.heap.size + 5) ((m0 - ((r0 / kv : Nat) : Int) * m1))) (by decide) [.bool b2, .slice o2 l2 k2, .bool b6, .slice o6 l6 k6] 0 (w := w11) M2_4.out T7_4.out (NoW.bool (NoW.slice (NoW.bool (NoW.slice NoW.nil)))) (NoW.bool (NoW.slice (NoW.bool (NoW.slice NoW.nil)))))
          have bw_5 : Hid (Below (w.heap.size) w q_1) := Lib.hid (by rw [<- hq_1]; exact below_setAll (g := g7) (by omega) [.bool b2, .slice o2 l2 k2, .bool b6, .slice o6 l6 k6] 0 bw_4.out)
          have sz_5 : q_1.heap.size = w11.heap.size := by rw [<- hq_1]; simp
          clear A_4 B_4 P_4 Q_4 R_4 T7_4 T8_4 L9_4 L10_4 T12_4 X_4 Y_4 R0_4 R1_4 M0_4 M1_4 QQ_4 RR_4 M2_4 bw_4
          obtain ⟨q_2, hq_2⟩ : ∃ wq_, ((((q_1.setCell ⟨g8, 0, none⟩ (.bool b4)).setCell ⟨g8, 1, none⟩ (.slice o4 l4 k4)).setCell ⟨g8, 2, none⟩ (.bool b7)).setCell ⟨g8, 3, none⟩ (.slice o7 l7 k7)) = wq_ := ⟨_, rfl⟩
          have A_6 : Hid (RowAt q_2 (w.heap.size) 45 [.bool n, .slice ao len cap]) := Lib.hid (by rw [<- hq_2]; exact RowAt.setAll_other (w := q_1) (g := g8) (by omega) [.bool b4, .slice o4 l4 k4, .bool b7, .slice o7 l7 k7] 0 A_5.out)
          have B_6 : Hid (RowAt q_2 (w.heap.size + 1) 45 [.bool n2, .slice ao2 len2 cap2]) := Lib.hid (by rw [<- hq_2]; exact RowAt.setAll_other (w := q_1) (g := g8) (by omega) [.bool b4, .slice o4 l4 k4, .bool b7, .slice o7 l7 k7] 0 B_5.out)
          have P_6 : Hid (RowAt q_2 (w.heap.size + 2) 45 [.bool false, .slice none 0 0]) := Lib.hid (by rw [<- hq_2]; exact RowAt.setAll_other (w := q_1) (g := g8) (by omega) [.bool b4, .slice o4 l4 k4, .bool b7, .slice o7 l7 k7] 0 P_5.out)
          have Q_6 : Hid (RowAt q_2 (w.heap.size + 3) 45 [.bool false, .slice none 0 0]) := Lib.hid (by rw [<- hq_2]; exact RowAt.setAll_other (w := q_1) (g := g8) (by omega) [.bool b4, .slice o4 l4 k4, .bool b7, .slice o7 l7 k7] 0 Q_5.out)
          have R_6 : Hid (RowAt q_2 (w.heap.size + 4) 45 [.bool false, .slice none 0 0]) := Lib.hid (by rw [<- hq_2]; exact RowAt.setAll_other (w := q_1) (g := g8) (by omega) [.bool b4, .slice o4 l4 k4, .bool b7, .slice o7 l7 k7] 0 R_5.out)
          have T7_6 : Hid (RowAt q_2 (g7) 155 [.bool b2, .slice o2 l2 k2, .bool b6, .slice o6 l6 k6]) := Lib.hid (by rw [<- hq_2]; exact RowAt.setAll_other (w := q_1) (g := g8) (by omega) [.bool b4, .slice o4 l4 k4, .bool b7, .slice o7 l7 k7] 0 T7_5.out)
          have T8_6 : Hid (RowAt q_2 (g8) 155 [.bool b4, .slice o4 l4 k4, .bool b7, .slice o7 l7 k7]) := Lib.hid (by rw [<- hq_2]; exact RowAt.setAll (w := q_1) [.bool b4, .slice o4 l4 k4, .bool b7, .slice o7 l7 k7] 0 T8_5.out rfl)
          have L9_6 : Hid (RowAt q_2 (w9.heap.size) 45 [.bool b5, .slice o5 l5 k5]) := Lib.hid (by rw [<- hq_2]; exact RowAt.setAll_other (w := q_1) (g := g8) (by omega) [.bool b4, .slice o4 l4 k4, .bool b7, .slice o7 l7 k7] 0 L9_5.out)
          have L10_6 : Hid (RowAt q_2 (w9.heap.size + 1) 45 [.bool b6, .slice o6 l6 k6]) := Lib.hid (by rw [<- hq_2]; exact RowAt.setAll_other (w := q_1) (g := g8) (by omega) [.bool b4, .slice o4 l4 k4, .bool b7, .slice o7 l7 k7] 0 L10_5.out)
          have T12_6 : Hid (RowAt q_2 (g12) 45 [.bool b7, .slice o7 l7 k7]) := Lib.hid (by rw [<- hq_2]; exact RowAt.setAll_other (w := q_1) (g := g8) (by omega) [.bool b4, .slice o4 l4 k4, .bool b7, .slice o7 l7 k7] 0 T12_5.out)
          have X_6 : Hid (IntAt q_2 (17592186044415) (.agg #[.bool n, .slice ao len cap]) (a)) := Lib.hid (by rw [<- hq_2]; exact AV.setAll (AV.at_ (17592186044415) (a)) (by decide) [.bool b4, .slice o4 l4 k4, .bool b7, .slice o7 l7 k7] 0 (w := q_1) X_5.out T8_5.out (NoW.bool (NoW.slice (NoW.bool (NoW.slice NoW.nil)))) (NoW.bool (NoW.slice (NoW.bool (NoW.slice NoW.nil)))))
          have Y_6 : Hid (IntAt q_2 (17592186044415) (.agg #[.bool n2, .slice ao2 len2 cap2]) (b)) := Lib.hid (by rw [<- hq_2]; exact AV.setAll (AV.at_ (17592186044415) (b)) (by decide) [.bool b4, .slice o4 l4 k4, .bool b7, .slice o7 l7 k7] 0 (w := q_1) Y_5.out T8_5.out (NoW.bool (NoW.slice (NoW.bool (NoW.slice NoW.nil)))) (NoW.bool (NoW.slice (NoW.bool (NoW.slice NoW.nil)))))
          have R0_6 : Hid (OwnI q_2 (w.heap.size + 5) (.agg #[.bool b1, .slice o1 l1 k1]) ((r0 : Int))) := Lib.hid (by rw [<- hq_2]; exact AV.setAll (AV.int (w.heap.size + 5) ((r0 : Int))) (by decide) [.bool b4, .slice o4 l4 k4, .bool b7, .slice o7 l7 k7] 0 (w := q_1) R0_5.out T8_5.out (NoW.bool (NoW.slice (NoW.bool (NoW.slice NoW.nil)))) (NoW.bool (NoW.slice (NoW.bool (NoW.slice NoW.nil)))))
          have R1_6 : Hid (OwnI q_2 (w.heap.size + 5) (.agg #[.bool b2, .slice o2 l2 k2]) ((kv : Int))) := Lib.hid (by rw [<- hq_2]; exact AV.setAll (AV.int (w.heap.size + 5) ((kv : Int))) (by decide) [.bool b4, .slice o4 l4 k4, .bool b7, .slice o7 l7 k7] 0 (w := q_1) R1_5.out T8_5.out (NoW.bool (NoW.slice (NoW.bool (NoW.slice NoW.nil)))) (NoW.bool (NoW.slice (NoW.bool (NoW.slice NoW.nil)))))
          have M0_6 : Hid (OwnI q_2 (w.heap.size + 5) (.agg #[.bool b3, .slice o3 l3 k3]) (m0)) := Lib.hid (by rw [<- hq_2]; exact AV.setAll (AV.int (w.heap.size + 5) (m0)) (by decide) [.bool b4, .slice o4 l4 k4, .bool b7, .slice o7 l7 k7] 0 (w := q_1) M0_5.out T8_5.out (NoW.bool (NoW.slice (NoW.bool (NoW.slice NoW.nil)))) (NoW.bool (NoW.slice (NoW.bool (NoW.slice NoW.nil)))))
          have M1_6 : Hid (OwnI q_2 (w.heap.size + 5) (.agg #[.bool b4, .slice o4 l4 k4]) (m1)) := Lib.hid (by rw [<- hq_2]; exact AV.setAll (AV.int (w.heap.size + 5) (m1)) (by decide) [.bool b4, .slice o4 l4 k4, .bool b7, .slice o7 l7 k7] 0 (w := q_1) M1_5.out T8_5.out (NoW.bool (NoW.slice (NoW.bool (NoW.slice NoW.nil)))) (NoW.bool (NoW.slice (NoW.bool (NoW.slice NoW.nil)))))
          have QQ_6 : Hid (OwnI q_2 (w.heap.size + 5) (.agg #[.bool b5, .slice o5 l5 k5]) (((r0 / kv : Nat) : Int))) := Lib.hid (by rw [<- hq_2]; exact AV.setAll (AV.int (w.heap.size + 5) (((r0 / kv : Nat) : Int))) (by decide) [.bool b4, .slice o4 l4 k4, .bool b7, .slice o7 l7 k7] 0 (w := q_1) QQ_5.out T8_5.out (NoW.bool (NoW.slice (NoW.bool (NoW.slice NoW.nil)))) (NoW.bool (NoW.slice (NoW.bool (NoW.slice NoW.nil)))))
          have RR_6 : Hid (OwnI q_2 (w.heap.size + 5) (.agg #[.bool b6, .slice o6 l6 k6]) (((r0 % kv : Nat) : Int))) := Lib.hid (by rw [<- hq_2]; exact AV.setAll (AV.int (w.heap.size + 5) (((r0 % kv : Nat) : Int))) (by decide) [.bool b4, .slice o4 l4 k4, .bool b7, .slice o7 l7 k7] 0 (w := q_1) RR_5.out T8_5.out (NoW.bool (NoW.slice (NoW.bool (NoW.slice NoW.nil)))) (NoW.bool (NoW.slice (NoW.bool (NoW.slice NoW.nil)))))
          have M2_6 : Hid (OwnI q_2 (w.heap.size + 5) (.agg #[.bool b7, .slice o7 l7 k7]) ((m0 - ((r0 / kv : Nat) : Int) * m1))) := Lib.hid (by rw [<- hq_2]; exact AV.setAll (AV.int (w.heap.size + 5) ((m0 - ((r0 / kv : Nat) : Int) * m1))) (by decide) [.bool b4, .slice o4 l4 k4, .bool b7, .slice o7 l7 k7] 0 (w := q_1) M2_5.out T8_5.out (NoW.bool (NoW.slice (NoW.bool (NoW.slice NoW.nil)))) (NoW.bool (NoW.slice (NoW.bool (NoW.slice NoW.nil)))))
          have bw_6 : Hid (Below (w.heap.size) w q_2) := Lib.hid (by rw [<- hq_2]; exact below_setAll (g := g8) (by omega) [.bool b4, .slice o4 l4 k4, .bool b7, .slice o7 l7 k7] 0 bw_5.out)
          have sz_6 : q_2.heap.size = q_1.heap.size := by rw [<- hq_2]; simp
          clear A_5 B_5 P_5 Q_5 R_5 T7_5 T8_5 L9_5 L10_5 T12_5 X_5 Y_5 R0_5 R1_5 M0_5 M1_5 QQ_5 RR_5 M2_5 bw_5
          subst hq_2
          subst hq_1
          have hL' : ExtL w a b n ao len cap n2 ao2 len2 cap2 g7 g8 (r0 % kv) ((((((((w11.setCell ⟨g7, 0, none⟩ (.bool b2)).setCell ⟨g7, 1, none⟩ (.slice o2 l2 k2)).setCell ⟨g7, 2, none⟩ (.bool b6)).setCell ⟨g7, 3, none⟩ (.slice o6 l6 k6)).setCell ⟨g8, 0, none⟩ (.bool b4)).setCell ⟨g8, 1, none⟩ (.slice o4 l4 k4)).setCell ⟨g8, 2, none⟩ (.bool b7)).setCell ⟨g8, 3, none⟩ (.slice o7 l7 k7)) :=
           ⟨A_6.out, B_6.out, P_6.out, Q_6.out, R_6.out, X_6.out, Y_6.out, bw_6.out, ⟨lo1, lo2⟩, kv, m1, _, _, _, _, _, _, _, _, _, _, _, _, _, _, _, _, _, HE.out.step hK0, ⟨IM1.out, Nat.le_trans (Nat.le_of_lt (Nat.mod_lt _ (Nat.pos_of_ne_zero hK0))) IM1.out⟩, T7_6.out, T8_6.out, R1_6.out, RR_6.out, M1_6.out, M2_6.out⟩
          go_roundw
          case rel => exact ⟨_, hL'⟩
          case measure =>
           have h1 := (hμ _ _ hL').2
           rw [HK.out]
           exact Nat.lt_of_le_of_lt h1 (Nat.mod_lt _ (Nat.pos_of_ne_zero hK0))
end Go.Proofs.YtknkkceioockjaaGreat
namespace Go.Proofs.YtknkkceioockjaaGreat
def extM (r0 r1 : Nat) (m0 m1 : Int) : Nat × Int :=
 if h : r1 = 0 then (r0, m0) else extM r1 (r0 % r1) m1 (m0 - ((r0 / r1 : Nat) : Int) * m1)
termination_by r1
decreasing_by exact Nat.mod_lt _ (Nat.pos_of_ne_zero h)
theorem extM_inv {A : Nat} {b : Int} : ∀ (r1 r0 : Nat) (m0 m1 : Int), EInv A b r0 r1 m0 m1 -> ∃ m', EInv A b (extM r0 r1 m0 m1).1 0 (extM r0 r1 m0 m1).2 m' := by
 intro r1
 induction r1 using Nat.strongRecOn with
 | _ r1 ih =>
  intro r0 m0 m1 h
  by_cases h0 : r1 = 0
  · subst h0; rw [extM]; exact ⟨m1, by simpa using h⟩
  · rw [extM, dif_neg h0]
    exact ih (r0 % r1) (Nat.mod_lt _ (Nat.pos_of_ne_zero h0)) _ _ _ (h.step h0)
def extG (a b : Int) : Int := if b = 0 then a.natAbs else (extM a.natAbs b.natAbs 1 0).1
def extX (a b : Int) : Int := if b = 0 then a.sign else (if a < 0 then -(extM a.natAbs b.natAbs 1 0).2 else (extM a.natAbs b.natAbs 1 0).2) % (b / extG a b)
def extY (a b : Int) : Int := if b = 0 then 0 else (extG a b - a * extX a b) / b
theorem ext_is (a b : Int) : ExtIs a b (extG a b) (extX a b) (extY a b) := by
 by_cases hb : b = 0
 · unfold ExtIs extG extX extY; simp [hb]
 · obtain ⟨m', h⟩ := extM_inv _ _ _ _ (EInv.start a.natAbs hb)
   obtain ⟨h1, h2⟩ := h.done hb
   have hg : extG a b = ((extM a.natAbs b.natAbs 1 0).1 : Int) := by unfold extG; rw [if_neg hb]
   have h3 := (ext_last (m := if a < 0 then -(extM a.natAbs b.natAbs 1 0).2 else (extM a.natAbs b.natAbs 1 0).2) hb (hg.trans h1) (by rw [hg]; exact h2)).2.2.2
   have hx : extX a b = (if a < 0 then -(extM a.natAbs b.natAbs 1 0).2 else (extM a.natAbs b.natAbs 1 0).2) % (b / extG a b) := by
    unfold extX; rw [if_neg hb]
   have hy : extY a b = (extG a b - a * extX a b) / b := by unfold extY; rw [if_neg hb]
   rw [hy, hx]
   exact h3
theorem ExtIs.unique {a b g x y g' x' y' : Int} (h : ExtIs a b g x y) (h' : ExtIs a b g' x' y') : g = g' /\ x = x' /\ y = y' := by
 unfold ExtIs at h h'
 by_cases hb : b = 0
 · rw [if_pos hb] at h h'
   obtain ⟨h1, h2, h3⟩ := h
   obtain ⟨h1', h2', h3'⟩ := h'
   exact ⟨h1.trans h1'.symm, h2.trans h2'.symm, h3.trans h3'.symm⟩
 · rw [if_neg hb] at h h'
   obtain ⟨h1, h2, h3, h4⟩ := h
   obtain ⟨h1', h2', h3', h4'⟩ := h'
   have hg : g = g' := h1.trans h1'.symm
   subst hg
   have hgb : g ∣ b := h1 ▸ Int.gcd_dvd_right ..
   have hga : g ∣ a := h1 ▸ Int.gcd_dvd_left ..
   obtain ⟨c, hc⟩ := hgb
   obtain ⟨e, he⟩ := hga
   have hg0 : g ≠ 0 := fun hh => hb (by rw [hc, hh, Int.zero_mul])
   have hgp : 0 < g := by rw [h1] at hg0 ⊢; omega
   have k1 : e * x + c * y = 1 := by
    have : g * (e * x + c * y) = g * 1 := by rw [Int.mul_add, <- Int.mul_assoc, <- Int.mul_assoc, <- he, <- hc, h4, Int.mul_one]
    exact Int.eq_of_mul_eq_mul_left hg0 this
   have k2 : e * x' + c * y' = 1 := by
    have : g * (e * x' + c * y') = g * 1 := by rw [Int.mul_add, <- Int.mul_assoc, <- Int.mul_assoc, <- he, <- hc, h4', Int.mul_one]
    exact Int.eq_of_mul_eq_mul_left hg0 this
   have hcb : (b.natAbs : Int) = c.natAbs * g := by
    rw [hc, Int.natAbs_mul, Int.natCast_mul, Int.natAbs_of_nonneg (Int.le_of_lt hgp), Int.mul_comm]
   rw [hcb] at h3 h3'
   have hx : x < c.natAbs := Int.lt_of_mul_lt_mul_right h3 (Int.le_of_lt hgp)
   have hx' : x' < c.natAbs := Int.lt_of_mul_lt_mul_right h3' (Int.le_of_lt hgp)
   have hdv : c ∣ x - x' := by
    have e1 : x - x' = c * (x * y' - x' * y) := by
     have e2 : x * (e * x' + c * y') - x' * (e * x + c * y) = x - x' := by rw [k1, k2]; omega
     rw [<- e2]
     simp only [Int.mul_add, Int.mul_sub]
     have e3 : x * (e * x') = x' * (e * x) := by rw [Int.mul_left_comm, Int.mul_left_comm x' e x, Int.mul_comm x x']
     have e4 : x * (c * y') = c * (x * y') := Int.mul_left_comm ..
     have e5 : x' * (c * y) = c * (x' * y) := Int.mul_left_comm ..
     rw [e3, e4, e5]; omega
    exact ⟨_, e1⟩
   have hxx : x = x' := by
    have hn := Int.natAbs_dvd_natAbs.2 hdv
    have hlt : (x - x').natAbs < c.natAbs := by omega
    have := Nat.eq_zero_of_dvd_of_lt hn hlt
    omega
   subst hxx
   refine ⟨rfl, rfl, ?_⟩
   have : b * y = b * y' := by omega
   exact Int.eq_of_mul_eq_mul_left hb this
end Go.Proofs.YtknkkceioockjaaGreat
