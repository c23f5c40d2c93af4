/- Part 6 of 9 of the proof that the law HnfTransforms returns true for every input of bulk at most 1048576 and leaves its arguments as they were: here the contracts of the functions that it calls, and plain lemmas. -/
import Derived.Maps.AppendAt
import Derived.Deep.Onto
import Derived.Test.YtknkkceioockjaaGreatPtE
set_option linter.all false
namespace Go.Proofs.YtknkkceioockjaaGreat
open Go.RowKit
set_option maxRecDepth 100000 in
set_option maxHeartbeats 2000000 in
theorem RMul_c (v u : Value) (x y : Int) (L : Nat) (w : World) (h1 : z03 w L v x) (h2 : z03 w L u y) (hL : L <= 1099511627776) :
 Calls Tryz.prog 22 #[v, u] w fun e w' => (∃ v', e = .returned v' /\ z05 w' w.heap.size v' (x * y)) /\ Below w.heap.size w w' := by
 obtain ⟨n1, ao1, len1, cap1, ws1, rfl, hW1, hl1, hk1, hc1, rfl⟩ := h1;obtain ⟨n2, ao2, len2, cap2, ws2, rfl, hW2, hl2, hk2, hc2, rfl⟩ := h2;obtain ⟨r1, r2, r3, hb⟩ := z1H w #[.bool n1, .slice ao1 len1 cap1] #[.bool n2, .slice ao2 len2 cap2] #[.bool false, .slice none 0 0] 45 45 45;have R1 := Lib.hid r1;have R2 := Lib.hid r2;have R3 := Lib.hid r3;have e10 := r1.cell 0;have e11 := r1.cell 1;have e20 := r2.cell 0;have e21 := r2.cell 1;have H1 := Lib.hid (hW1.below hb);have H2 := Lib.hid (hW2.below hb);have HL := Lib.hid (And.intro hl1 hl2);have HB := Lib.hid hb; clear hb r1 r2 r3;clear hW1 hl1 hc1 hW2 hl2 hc2;have HM := Lib.hid (zcT ao1 ao2 len1 cap1 len2 cap2 ws1 ws2 _ H1.out H2.out HL.out.1 HL.out.2 (by omega) (by omega));go_enter Tryz.func22, Tryz.ntmps22;go_wp2_with fail
 generalize ((w.alloc (.cells #[.bool n1, .slice ao1 len1 cap1] 45)).alloc (.cells #[.bool n2, .slice ao2 len2 cap2] 45)).alloc (.cells #[.bool false, .slice none 0 0] 45) = w2 at *;refine HM.out.mono ?_;rintro e w3 ⟨⟨ao3, cap3, rfl, hO3⟩, hb3⟩;have hwl : z04 (z01 ws1 * z01 ws2) <= 8796093022208 := by
  have h1 := hO3.len;have h2 := z2Q (z01 ws1) (z01 ws2);have h3 := z0f H1.out.1;have h4 := z0f H2.out.1;have h5 := HL.out;omega
 have HM3 := Lib.hid (z3b (n1 != n2) ao3 _ cap3 _ w3 hO3.at_ hO3.len hwl);have k10 := (R1.out.below hb3 R1.out.lt).cell 0;have k11 := (R1.out.below hb3 R1.out.lt).cell 1;have k20 := (R2.out.below hb3 R2.out.lt).cell 0;have k21 := (R2.out.below hb3 R2.out.lt).cell 1;have R33 := Lib.hid (R3.out.below hb3 R3.out.lt);have HB3 := Lib.hid (HB.out.trans (hb3.mono HB.out.size));clear hb3 e10 e11 e20 e21 hO3 hwl HM;go_wp2_with fail
 refine HM3.out.mono ?_;rintro e w4 ⟨⟨v', rfl, hO⟩, hbz⟩;rw [z0I, zcd] at hO;have hs3 : w.heap.size + 2 < w3.heap.size := R33.out.lt;obtain ⟨pz, rfl⟩ := z0n.parts hO.num;unfold av at *;have hrz := R33.out.below hbz R33.out.lt;have c0 := hrz.cell 0;have c1 := hrz.cell 1;have f0 := hrz.free 0;have f1 := hrz.free 1;have HRZ := Lib.hid hrz; clear hrz;have HO := Lib.hid hO; clear hO;have HBZ := Lib.hid (HB3.out.trans (hbz.mono HB3.out.size)); clear hbz;clear k10 k11 k20 k21;go_wp2;refine bodyPost_ret (z0i (p := 4) (by kernel_rfl) _ _ (w.heap.size + 2) _ _ rfl (HRZ.out.z2n _ _)) rfl ?_;refine ⟨⟨_, rfl, ?_⟩, (HBZ.out.setCell (by show w.heap.size <= w.heap.size + 2; omega) _).setCell (by show w.heap.size <= w.heap.size + 2; omega) _⟩;exact (z05.z2F HO.out HRZ.out _ _).mono (by omega)
set_option maxRecDepth 100000 in
set_option maxHeartbeats 2000000 in
theorem RAdd_c (v u : Value) (x y : Int) (L : Nat) (w : World) (h1 : z03 w L v x) (h2 : z03 w L u y) (hL : L <= 1099511627776) :
 Calls Tryz.prog 33 #[v, u] w fun e w' => (∃ v', e = .returned v' /\ z05 w' w.heap.size v' (x + y)) /\ Below w.heap.size w w' := by
 obtain ⟨n1, ao1, len1, cap1, ws1, rfl, hW1, hl1, hk1, hc1, rfl⟩ := h1;obtain ⟨n2, ao2, len2, cap2, ws2, rfl, hW2, hl2, hk2, hc2, rfl⟩ := h2;obtain ⟨r1, r2, r3, hb⟩ := z1H w #[.bool n1, .slice ao1 len1 cap1] #[.bool n2, .slice ao2 len2 cap2] #[.bool false, .slice none 0 0] 45 45 45;have R1 := Lib.hid r1;have R2 := Lib.hid r2;have R3 := Lib.hid r3;have e10 := r1.cell 0;have e11 := r1.cell 1;have e20 := r2.cell 0;have e21 := r2.cell 1;have H1 := Lib.hid (hW1.below hb);have H2 := Lib.hid (hW2.below hb);have HL := Lib.hid (And.intro hl1 hl2);have HB := Lib.hid hb; clear hb r1 r2 r3;clear hW1 hl1 hc1 hW2 hl2 hc2;cases n1
 · cases n2
   · have HM := Lib.hid (z9d ao1 ao2 len1 cap1 len2 cap2 ws1 ws2 _ H1.out H2.out HL.out.1 HL.out.2 (by omega) (by omega));go_enter Tryz.func33, Tryz.ntmps33;go_wp2_with fail
     generalize ((w.alloc (.cells #[.bool false, .slice ao1 len1 cap1] 45)).alloc (.cells #[.bool false, .slice ao2 len2 cap2] 45)).alloc (.cells #[.bool false, .slice none 0 0] 45) = w2 at *;refine HM.out.mono ?_;rintro e w3 ⟨⟨ao3, cap3, rfl, hO3⟩, hb3⟩;have hwl : z04 (z01 ws1 + z01 ws2) <= 8796093022208 := by
      have h3 := z0f H1.out.1;have h4 := z0f H2.out.1;have h5 := HL.out;have h2 := z3V (z01 ws1) (z01 ws2);omega
     have HM3 := Lib.hid (z3b false ao3 _ cap3 _ w3 hO3.at_ hO3.len hwl);have k10 := (R1.out.below hb3 R1.out.lt).cell 0;have k11 := (R1.out.below hb3 R1.out.lt).cell 1;have k20 := (R2.out.below hb3 R2.out.lt).cell 0;have k21 := (R2.out.below hb3 R2.out.lt).cell 1;have R33 := Lib.hid (R3.out.below hb3 R3.out.lt);have HB3 := Lib.hid (HB.out.trans (hb3.mono HB.out.size));clear hb3 e10 e11 e20 e21 hO3 hwl HM;go_wp2_with fail
     refine HM3.out.mono ?_;rintro e w4 ⟨⟨v', rfl, hO⟩, hbz⟩;rw [z0I, za2] at hO;have hs3 : w.heap.size + 2 < w3.heap.size := R33.out.lt;obtain ⟨pz, rfl⟩ := z0n.parts hO.num;unfold av at *;have hrz := R33.out.below hbz R33.out.lt;have c0 := hrz.cell 0;have c1 := hrz.cell 1;have f0 := hrz.free 0;have f1 := hrz.free 1;have HRZ := Lib.hid hrz; clear hrz;have HO := Lib.hid hO; clear hO;have HBZ := Lib.hid (HB3.out.trans (hbz.mono HB3.out.size)); clear hbz;clear k10 k11 k20 k21;go_wp2;refine bodyPost_ret (z0i (p := 4) (by kernel_rfl) _ _ (w.heap.size + 2) _ _ rfl (HRZ.out.z2n _ _)) rfl ?_;refine ⟨⟨_, rfl, ?_⟩, (HBZ.out.setCell (by show w.heap.size <= w.heap.size + 2; omega) _).setCell (by show w.heap.size <= w.heap.size + 2; omega) _⟩;exact (z05.z2F HO.out HRZ.out _ _).mono (by omega)
   · have HM := Lib.hid (z7m ao1 ao2 len1 cap1 len2 cap2 ws1 ws2 _ H1.out H2.out HL.out.1 HL.out.2 (by omega) (by omega));go_enter Tryz.func33, Tryz.ntmps33;go_wp2_with fail
     generalize ((w.alloc (.cells #[.bool false, .slice ao1 len1 cap1] 45)).alloc (.cells #[.bool true, .slice ao2 len2 cap2] 45)).alloc (.cells #[.bool false, .slice none 0 0] 45) = w2 at *;refine HM.out.mono ?_;rintro e w2b ⟨rfl, hb2⟩;by_cases hle : z01 ws2 <= z01 ws1
     · have hcc : z1k (z01 ws1) (z01 ws2) = 0 ∨ z1k (z01 ws1) (z01 ws2) = 1 := by
        unfold z1k; rw [if_neg (by omega)]; split
        · exact .inr rfl
        · exact .inl rfl
       obtain ⟨cc, hce⟩ : ∃ cc, z1k (z01 ws1) (z01 ws2) = cc := ⟨_, rfl⟩;rw [hce] at hcc ⊢;have hc0 : 0 <= cc := by omega
       clear hcc hce;have HM := Lib.hid (z5z ao1 ao2 len1 cap1 len2 cap2 ws1 ws2 w2b (H1.out.below hb2) (H2.out.below hb2) HL.out.1 HL.out.2 (by omega) (by omega) (by omega));have HB := Lib.hid (HB.out.trans (hb2.mono HB.out.size));have R1 := Lib.hid (R1.out.below hb2 R1.out.lt);have R2 := Lib.hid (R2.out.below hb2 R2.out.lt);have R3 := Lib.hid (R3.out.below hb2 R3.out.lt);have j10 := R1.out.cell 0;have j11 := R1.out.cell 1;have j20 := R2.out.cell 0;have j21 := R2.out.cell 1;have HLE := Lib.hid hle;clear e10 e11 e20 e21 hb2 hle;go_wp2_with fail
       refine HM.out.mono ?_;rintro e w3 ⟨⟨ao3, cap3, rfl, hO3⟩, hb3⟩;have hwl : z04 (z01 ws1 - z01 ws2) <= 8796093022208 := by
        have h3 := z0f H1.out.1;have h4 := z0f H2.out.1;have h5 := HL.out;have h2 := z0p (Nat.sub_le (z01 ws1) (z01 ws2));omega
       have HM3 := Lib.hid (z3b false ao3 _ cap3 _ w3 hO3.at_ hO3.len hwl);have k10 := (R1.out.below hb3 R1.out.lt).cell 0;have k11 := (R1.out.below hb3 R1.out.lt).cell 1;have k20 := (R2.out.below hb3 R2.out.lt).cell 0;have k21 := (R2.out.below hb3 R2.out.lt).cell 1;have R33 := Lib.hid (R3.out.below hb3 R3.out.lt);have HB3 := Lib.hid (HB.out.trans (hb3.mono HB.out.size));clear hb3 j10 j11 j20 j21 hO3 hwl HM;go_wp2_with fail
       refine HM3.out.mono ?_;rintro e w4 ⟨⟨v', rfl, hO⟩, hbz⟩;rw [z0I, z8U (n := false) (n2 := true) (by decide) (by have := HLE.out; omega)] at hO;have hs3 : w.heap.size + 2 < w3.heap.size := R33.out.lt;obtain ⟨pz, rfl⟩ := z0n.parts hO.num;unfold av at *;have hrz := R33.out.below hbz R33.out.lt;have c0 := hrz.cell 0;have c1 := hrz.cell 1;have f0 := hrz.free 0;have f1 := hrz.free 1;have HRZ := Lib.hid hrz; clear hrz;have HO := Lib.hid hO; clear hO;have HBZ := Lib.hid (HB3.out.trans (hbz.mono HB3.out.size)); clear hbz;clear k10 k11 k20 k21;go_wp2;refine bodyPost_ret (z0i (p := 4) (by kernel_rfl) _ _ (w.heap.size + 2) _ _ rfl (HRZ.out.z2n _ _)) rfl ?_;refine ⟨⟨_, rfl, ?_⟩, (HBZ.out.setCell (by show w.heap.size <= w.heap.size + 2; omega) _).setCell (by show w.heap.size <= w.heap.size + 2; omega) _⟩;exact (z05.z2F HO.out HRZ.out _ _).mono (by omega)
     · have hcc : z1k (z01 ws1) (z01 ws2) = -1 := by unfold z1k; rw [if_pos (by omega)]
       rw [hcc];clear hcc;have HM := Lib.hid (z5z ao2 ao1 len2 cap2 len1 cap1 ws2 ws1 w2b (H2.out.below hb2) (H1.out.below hb2) HL.out.2 HL.out.1 (by omega) (by omega) (by omega));have HB := Lib.hid (HB.out.trans (hb2.mono HB.out.size));have R1 := Lib.hid (R1.out.below hb2 R1.out.lt);have R2 := Lib.hid (R2.out.below hb2 R2.out.lt);have R3 := Lib.hid (R3.out.below hb2 R3.out.lt);have j10 := R1.out.cell 0;have j11 := R1.out.cell 1;have j20 := R2.out.cell 0;have j21 := R2.out.cell 1;have HLE := Lib.hid hle;clear e10 e11 e20 e21 hb2 hle;go_wp2_with fail
       refine HM.out.mono ?_;rintro e w3 ⟨⟨ao3, cap3, rfl, hO3⟩, hb3⟩;have hwl : z04 (z01 ws2 - z01 ws1) <= 8796093022208 := by
        have h3 := z0f H1.out.1;have h4 := z0f H2.out.1;have h5 := HL.out;have h2 := z0p (Nat.sub_le (z01 ws2) (z01 ws1));omega
       have HM3 := Lib.hid (z3b true ao3 _ cap3 _ w3 hO3.at_ hO3.len hwl);have k10 := (R1.out.below hb3 R1.out.lt).cell 0;have k11 := (R1.out.below hb3 R1.out.lt).cell 1;have k20 := (R2.out.below hb3 R2.out.lt).cell 0;have k21 := (R2.out.below hb3 R2.out.lt).cell 1;have R33 := Lib.hid (R3.out.below hb3 R3.out.lt);have HB3 := Lib.hid (HB.out.trans (hb3.mono HB.out.size));clear hb3 j10 j11 j20 j21 hO3 hwl HM;go_wp2_with fail
       refine HM3.out.mono ?_;rintro e w4 ⟨⟨v', rfl, hO⟩, hbz⟩;rw [z0I, z8I (n := false) (n2 := true) (by decide) (by have := HLE.out; omega)] at hO;have hs3 : w.heap.size + 2 < w3.heap.size := R33.out.lt;obtain ⟨pz, rfl⟩ := z0n.parts hO.num;unfold av at *;have hrz := R33.out.below hbz R33.out.lt;have c0 := hrz.cell 0;have c1 := hrz.cell 1;have f0 := hrz.free 0;have f1 := hrz.free 1;have HRZ := Lib.hid hrz; clear hrz;have HO := Lib.hid hO; clear hO;have HBZ := Lib.hid (HB3.out.trans (hbz.mono HB3.out.size)); clear hbz;clear k10 k11 k20 k21;go_wp2;refine bodyPost_ret (z0i (p := 4) (by kernel_rfl) _ _ (w.heap.size + 2) _ _ rfl (HRZ.out.z2n _ _)) rfl ?_;refine ⟨⟨_, rfl, ?_⟩, (HBZ.out.setCell (by show w.heap.size <= w.heap.size + 2; omega) _).setCell (by show w.heap.size <= w.heap.size + 2; omega) _⟩;exact (z05.z2F HO.out HRZ.out _ _).mono (by omega)
 · cases n2
   · have HM := Lib.hid (z7m ao1 ao2 len1 cap1 len2 cap2 ws1 ws2 _ H1.out H2.out HL.out.1 HL.out.2 (by omega) (by omega));go_enter Tryz.func33, Tryz.ntmps33;go_wp2_with fail
     generalize ((w.alloc (.cells #[.bool true, .slice ao1 len1 cap1] 45)).alloc (.cells #[.bool false, .slice ao2 len2 cap2] 45)).alloc (.cells #[.bool false, .slice none 0 0] 45) = w2 at *;refine HM.out.mono ?_;rintro e w2b ⟨rfl, hb2⟩;by_cases hle : z01 ws2 <= z01 ws1
     · have hcc : z1k (z01 ws1) (z01 ws2) = 0 ∨ z1k (z01 ws1) (z01 ws2) = 1 := by
        unfold z1k; rw [if_neg (by omega)]; split
        · exact .inr rfl
        · exact .inl rfl
       obtain ⟨cc, hce⟩ : ∃ cc, z1k (z01 ws1) (z01 ws2) = cc := ⟨_, rfl⟩;rw [hce] at hcc ⊢;have hc0 : 0 <= cc := by omega
       clear hcc hce;have HM := Lib.hid (z5z ao1 ao2 len1 cap1 len2 cap2 ws1 ws2 w2b (H1.out.below hb2) (H2.out.below hb2) HL.out.1 HL.out.2 (by omega) (by omega) (by omega));have HB := Lib.hid (HB.out.trans (hb2.mono HB.out.size));have R1 := Lib.hid (R1.out.below hb2 R1.out.lt);have R2 := Lib.hid (R2.out.below hb2 R2.out.lt);have R3 := Lib.hid (R3.out.below hb2 R3.out.lt);have j10 := R1.out.cell 0;have j11 := R1.out.cell 1;have j20 := R2.out.cell 0;have j21 := R2.out.cell 1;have HLE := Lib.hid hle;clear e10 e11 e20 e21 hb2 hle;go_wp2_with fail
       refine HM.out.mono ?_;rintro e w3 ⟨⟨ao3, cap3, rfl, hO3⟩, hb3⟩;have hwl : z04 (z01 ws1 - z01 ws2) <= 8796093022208 := by
        have h3 := z0f H1.out.1;have h4 := z0f H2.out.1;have h5 := HL.out;have h2 := z0p (Nat.sub_le (z01 ws1) (z01 ws2));omega
       have HM3 := Lib.hid (z3b true ao3 _ cap3 _ w3 hO3.at_ hO3.len hwl);have k10 := (R1.out.below hb3 R1.out.lt).cell 0;have k11 := (R1.out.below hb3 R1.out.lt).cell 1;have k20 := (R2.out.below hb3 R2.out.lt).cell 0;have k21 := (R2.out.below hb3 R2.out.lt).cell 1;have R33 := Lib.hid (R3.out.below hb3 R3.out.lt);have HB3 := Lib.hid (HB.out.trans (hb3.mono HB.out.size));clear hb3 j10 j11 j20 j21 hO3 hwl HM;go_wp2_with fail
       refine HM3.out.mono ?_;rintro e w4 ⟨⟨v', rfl, hO⟩, hbz⟩;rw [z0I, z8U (n := true) (n2 := false) (by decide) (by have := HLE.out; omega)] at hO;have hs3 : w.heap.size + 2 < w3.heap.size := R33.out.lt;obtain ⟨pz, rfl⟩ := z0n.parts hO.num;unfold av at *;have hrz := R33.out.below hbz R33.out.lt;have c0 := hrz.cell 0;have c1 := hrz.cell 1;have f0 := hrz.free 0;have f1 := hrz.free 1;have HRZ := Lib.hid hrz; clear hrz;have HO := Lib.hid hO; clear hO;have HBZ := Lib.hid (HB3.out.trans (hbz.mono HB3.out.size)); clear hbz;clear k10 k11 k20 k21;go_wp2;refine bodyPost_ret (z0i (p := 4) (by kernel_rfl) _ _ (w.heap.size + 2) _ _ rfl (HRZ.out.z2n _ _)) rfl ?_;refine ⟨⟨_, rfl, ?_⟩, (HBZ.out.setCell (by show w.heap.size <= w.heap.size + 2; omega) _).setCell (by show w.heap.size <= w.heap.size + 2; omega) _⟩;exact (z05.z2F HO.out HRZ.out _ _).mono (by omega)
     · have hcc : z1k (z01 ws1) (z01 ws2) = -1 := by unfold z1k; rw [if_pos (by omega)]
       rw [hcc];clear hcc;have HM := Lib.hid (z5z ao2 ao1 len2 cap2 len1 cap1 ws2 ws1 w2b (H2.out.below hb2) (H1.out.below hb2) HL.out.2 HL.out.1 (by omega) (by omega) (by omega));have HB := Lib.hid (HB.out.trans (hb2.mono HB.out.size));have R1 := Lib.hid (R1.out.below hb2 R1.out.lt);have R2 := Lib.hid (R2.out.below hb2 R2.out.lt);have R3 := Lib.hid (R3.out.below hb2 R3.out.lt);have j10 := R1.out.cell 0;have j11 := R1.out.cell 1;have j20 := R2.out.cell 0;have j21 := R2.out.cell 1;have HLE := Lib.hid hle;clear e10 e11 e20 e21 hb2 hle;go_wp2_with fail
       refine HM.out.mono ?_;rintro e w3 ⟨⟨ao3, cap3, rfl, hO3⟩, hb3⟩;have hwl : z04 (z01 ws2 - z01 ws1) <= 8796093022208 := by
        have h3 := z0f H1.out.1;have h4 := z0f H2.out.1;have h5 := HL.out;have h2 := z0p (Nat.sub_le (z01 ws2) (z01 ws1));omega
       have HM3 := Lib.hid (z3b false ao3 _ cap3 _ w3 hO3.at_ hO3.len hwl);have k10 := (R1.out.below hb3 R1.out.lt).cell 0;have k11 := (R1.out.below hb3 R1.out.lt).cell 1;have k20 := (R2.out.below hb3 R2.out.lt).cell 0;have k21 := (R2.out.below hb3 R2.out.lt).cell 1;have R33 := Lib.hid (R3.out.below hb3 R3.out.lt);have HB3 := Lib.hid (HB.out.trans (hb3.mono HB.out.size));clear hb3 j10 j11 j20 j21 hO3 hwl HM;go_wp2_with fail
       refine HM3.out.mono ?_;rintro e w4 ⟨⟨v', rfl, hO⟩, hbz⟩;rw [z0I, z8I (n := true) (n2 := false) (by decide) (by have := HLE.out; omega)] at hO;have hs3 : w.heap.size + 2 < w3.heap.size := R33.out.lt;obtain ⟨pz, rfl⟩ := z0n.parts hO.num;unfold av at *;have hrz := R33.out.below hbz R33.out.lt;have c0 := hrz.cell 0;have c1 := hrz.cell 1;have f0 := hrz.free 0;have f1 := hrz.free 1;have HRZ := Lib.hid hrz; clear hrz;have HO := Lib.hid hO; clear hO;have HBZ := Lib.hid (HB3.out.trans (hbz.mono HB3.out.size)); clear hbz;clear k10 k11 k20 k21;go_wp2;refine bodyPost_ret (z0i (p := 4) (by kernel_rfl) _ _ (w.heap.size + 2) _ _ rfl (HRZ.out.z2n _ _)) rfl ?_;refine ⟨⟨_, rfl, ?_⟩, (HBZ.out.setCell (by show w.heap.size <= w.heap.size + 2; omega) _).setCell (by show w.heap.size <= w.heap.size + 2; omega) _⟩;exact (z05.z2F HO.out HRZ.out _ _).mono (by omega)
   · have HM := Lib.hid (z9d ao1 ao2 len1 cap1 len2 cap2 ws1 ws2 _ H1.out H2.out HL.out.1 HL.out.2 (by omega) (by omega));go_enter Tryz.func33, Tryz.ntmps33;go_wp2_with fail
     generalize ((w.alloc (.cells #[.bool true, .slice ao1 len1 cap1] 45)).alloc (.cells #[.bool true, .slice ao2 len2 cap2] 45)).alloc (.cells #[.bool false, .slice none 0 0] 45) = w2 at *;refine HM.out.mono ?_;rintro e w3 ⟨⟨ao3, cap3, rfl, hO3⟩, hb3⟩;have hwl : z04 (z01 ws1 + z01 ws2) <= 8796093022208 := by
      have h3 := z0f H1.out.1;have h4 := z0f H2.out.1;have h5 := HL.out;have h2 := z3V (z01 ws1) (z01 ws2);omega
     have HM3 := Lib.hid (z3b true ao3 _ cap3 _ w3 hO3.at_ hO3.len hwl);have k10 := (R1.out.below hb3 R1.out.lt).cell 0;have k11 := (R1.out.below hb3 R1.out.lt).cell 1;have k20 := (R2.out.below hb3 R2.out.lt).cell 0;have k21 := (R2.out.below hb3 R2.out.lt).cell 1;have R33 := Lib.hid (R3.out.below hb3 R3.out.lt);have HB3 := Lib.hid (HB.out.trans (hb3.mono HB.out.size));clear hb3 e10 e11 e20 e21 hO3 hwl HM;go_wp2_with fail
     refine HM3.out.mono ?_;rintro e w4 ⟨⟨v', rfl, hO⟩, hbz⟩;rw [z0I, za2] at hO;have hs3 : w.heap.size + 2 < w3.heap.size := R33.out.lt;obtain ⟨pz, rfl⟩ := z0n.parts hO.num;unfold av at *;have hrz := R33.out.below hbz R33.out.lt;have c0 := hrz.cell 0;have c1 := hrz.cell 1;have f0 := hrz.free 0;have f1 := hrz.free 1;have HRZ := Lib.hid hrz; clear hrz;have HO := Lib.hid hO; clear hO;have HBZ := Lib.hid (HB3.out.trans (hbz.mono HB3.out.size)); clear hbz;clear k10 k11 k20 k21;go_wp2;refine bodyPost_ret (z0i (p := 4) (by kernel_rfl) _ _ (w.heap.size + 2) _ _ rfl (HRZ.out.z2n _ _)) rfl ?_;refine ⟨⟨_, rfl, ?_⟩, (HBZ.out.setCell (by show w.heap.size <= w.heap.size + 2; omega) _).setCell (by show w.heap.size <= w.heap.size + 2; omega) _⟩;exact (z05.z2F HO.out HRZ.out _ _).mono (by omega)
set_option maxRecDepth 100000 in
set_option maxHeartbeats 2000000 in
theorem zbl (v u t : Value) (x y z : Int) (L : Nat) (w : World) (h1 : z03 w L v x) (h2 : z03 w L u y) (h3 : z03 w L t z) (hL : L <= 549755813888) :
 Calls Tryz.prog 40 #[v, u, t] w fun e w' => (∃ v', e = .returned v' /\ z05 w' w.heap.size v' (x * y + z)) /\ Below w.heap.size w w' := by
 have hwx : z04 (x * y).natAbs <= 1099511627776 := by
  obtain ⟨n1, ao1, len1, cap1, ws1, _, hW1, hl1, hk1, _, rfl⟩ := h1;obtain ⟨n2, ao2, len2, cap2, ws2, _, hW2, hl2, hk2, _, rfl⟩ := h2;rw [Int.natAbs_mul, z2A, z2A];have e2 := z2Q (z01 ws1) (z01 ws2);have e3 := z0f hW1.1;have e4 := z0f hW2.1;omega
 have hA1 := h1;have hA2 := h2;have hA3 := h3;obtain ⟨n1, ao1, len1, cap1, ws1, rfl, hW1, hl1, hk1, hc1, hx1⟩ := h1;obtain ⟨n2, ao2, len2, cap2, ws2, rfl, hW2, hl2, hk2, hc2, hx2⟩ := h2;obtain ⟨n3, ao3, len3, cap3, ws3, rfl, hW3, hl3, hk3, hc3, hx3⟩ := h3;clear hW1 hl1 hk1 hc1 hx1 hW2 hl2 hk2 hc2 hx2 hW3 hl3 hk3 hc3 hx3;obtain ⟨r1, r2, r3, r4, hb⟩ := z9Z w #[.bool n1, .slice ao1 len1 cap1] #[.bool n2, .slice ao2 len2 cap2] #[.bool n3, .slice ao3 len3 cap3] #[.bool false, .slice none 0 0] 45 45 45 45;have HM := Lib.hid (RMul_c _ _ x y L _ (hA1.below hb) (hA2.below hb) (by omega));have H3 := Lib.hid (hA3.below hb);have e10 := r1.cell 0;have e11 := r1.cell 1;have e20 := r2.cell 0;have e21 := r2.cell 1;have R3 := Lib.hid r3;have R4 := Lib.hid r4;have HB := Lib.hid hb; clear hb r1 r2 r3 r4 hA1 hA2 hA3;have HW := Lib.hid hwx; clear hwx;go_enter Tryz.func40, Tryz.ntmps40;go_wp2_with fail
 generalize (((w.alloc (.cells #[.bool n1, .slice ao1 len1 cap1] 45)).alloc (.cells #[.bool n2, .slice ao2 len2 cap2] 45)).alloc (.cells #[.bool n3, .slice ao3 len3 cap3] 45)).alloc (.cells #[.bool false, .slice none 0 0] 45) = w2 at *;refine HM.out.mono ?_;rintro e w3 ⟨⟨v', rfl, hO3⟩, hb3⟩;obtain ⟨pq, rfl⟩ := z0n.parts hO3.num;unfold av at *;have hb4 : Below w3.heap.size w3 (w3.alloc (.cells #[.bool pq.1, .slice pq.2.1 pq.2.2.1 pq.2.2.2] 45)) := (Below.refl _ _).alloc (Nat.le_refl _) _;have HA := Lib.hid (RAdd_c _ _ (x * y) z 1099511627776 _ ((hO3.num.int HW.out).below hb4) (((H3.out.below hb3).below hb4).mono (by omega)) (Nat.le_refl _));have hr4 := z00.new w3 #[.bool pq.1, .slice pq.2.1 pq.2.2.1 pq.2.2.2] 45;have k10 := hr4.cell 0;have k11 := hr4.cell 1;have R33 := (R3.out.below hb3 R3.out.lt).below hb4 (R3.out.below hb3 R3.out.lt).lt;have k30 := R33.cell 0;have k31 := R33.cell 1;have R44 := Lib.hid ((R4.out.below hb3 R4.out.lt).below hb4 (R4.out.below hb3 R4.out.lt).lt);have hB4 : Below w.heap.size w (w3.alloc (.cells #[.bool pq.1, .slice pq.2.1 pq.2.2.1 pq.2.2.2] 45)) := (HB.out.trans (hb3.mono HB.out.size)).trans (hb4.mono (Nat.le_trans HB.out.size hb3.size));have HB4 := Lib.hid hB4;have hs4 : w.heap.size + 3 < w2.heap.size := R4.out.lt;have hs3 := hb3.size;have hs5 : (w3.alloc (.cells #[.bool pq.1, .slice pq.2.1 pq.2.2.1 pq.2.2.2] 45)).heap.size = w3.heap.size + 1 := by simp
 clear hr4 hb4 hB4 hb3 hO3 R33 e10 e11 e20 e21;go_wp2_with fail
 generalize w3.alloc (.cells #[.bool pq.1, .slice pq.2.1 pq.2.2.1 pq.2.2.2] 45) = w4 at *;refine HA.out.mono ?_;rintro e w5 ⟨⟨v', rfl, hO⟩, hbz⟩;obtain ⟨pz, rfl⟩ := z0n.parts hO.num;unfold av at *;have hrz := R44.out.below hbz R44.out.lt;have c0 := hrz.cell 0;have c1 := hrz.cell 1;have f0 := hrz.free 0;have f1 := hrz.free 1;have HRZ := Lib.hid hrz; clear hrz;have HO := Lib.hid hO; clear hO;have HBZ := Lib.hid (HB4.out.trans (hbz.mono HB4.out.size)); clear hbz k10 k11 k30 k31;go_wp2;refine bodyPost_ret (z0i (p := 6) (by kernel_rfl) _ _ (w.heap.size + 3) _ _ rfl (HRZ.out.z2n _ _)) rfl ?_;refine ⟨⟨_, rfl, ?_⟩, (HBZ.out.setCell (by show w.heap.size <= w.heap.size + 3; omega) _).setCell (by show w.heap.size <= w.heap.size + 3; omega) _⟩;exact (z05.z2F HO.out HRZ.out _ _).mono (by omega)
theorem z1S {fn : Func} {p q : Tmp} (h : fn.results = #[.cell p 24, .tmp q]) (tmps : Array Value) (w : World) (g : Nat) (a b c : Value) (hp : tmps.getD p undef = .pointer (some ⟨g, 0, none⟩)) (hr : z00 w g 24 [a, b, c]) :
 (results fn tmps).run Tryz.prog w = .ok (.tuple #[.agg #[a, b, c], tmps.getD q undef]) w := z0W h tmps w g a b c hp hr
theorem z0c.z3Q {w : World} {b : Nat} {xs : List Int} (h : z0c w b xs) {L : Nat} (hL : ∀ x ∈ xs, z04 x.natAbs <= L) : z0F w L (some ⟨b, 0, none⟩) xs := by
 intro _;refine ⟨b, 0, rfl, h.lt, fun i hi => ?_⟩;obtain ⟨p, h0, h1, hn⟩ := h.get hi;exact ⟨p, by simpa using h0, by simpa using h1, hn.int (hL _ (List.getElem_mem hi))⟩
theorem z0V.zas {w : World} {o : Nat} {R : List Hd} (h : z0V w o R) {L : Nat} (hL : ∀ r ∈ R, ∀ x ∈ r.xs, z04 x.natAbs <= L) (k : Nat) (hk : k <= R.length) : z3X w L o ((R.take k).map Hd.xs) := by
 refine ⟨h.lt, fun i hi => ?_⟩;have hi' : i < R.length := by simp at hi; omega
 have hm : R[i] ∈ R := List.getElem_mem hi';refine ⟨some ⟨R[i].blk, 0, none⟩, R[i].cap, ?_, ?_⟩
 · rw [h.hdr hi'];simp [Hd.hdr]
 · have := (h.row _ hm).z3Q (hL _ hm);simpa using this
theorem z62 {R : List Hd} {D : Nat} (h : ∀ i b, (ent R i b).natAbs < W ^ D) : ∀ r ∈ R, ∀ x ∈ r.xs, z04 x.natAbs <= D := by
 intro r hr x hx;obtain ⟨i, hi, rfl⟩ := List.getElem_of_mem hr;obtain ⟨j, hj, rfl⟩ := List.getElem_of_mem hx;have := h i j;rw [z0O hi, z2D _ _ hj] at this;exact z0a this
abbrev hW (m : Nat) : Nat := z1Z 66 m
set_option maxRecDepth 100000 in
set_option maxHeartbeats 4000000 in
theorem zbT (r c m : Nat) (ao : Option Addr) (len cap : Nat) (xs : List Int) (w : World) (hr : r <= 64) (hc : c <= 64) (h : z0F w 17592186044415 ao xs) (hm : ∀ x ∈ xs, x.natAbs < W ^ m) (hm1 : m <= 140000000) (hl : len = xs.length) (hs : xs.length = r * c) :
 Calls Tryz.prog 13 #[.agg #[.int .i64 (r : Int), .int .i64 (c : Int), .slice ao len cap]] w fun e w' => (∃ b hs k l, e = .returned (.tuple #[.agg #[.int .i64 (r : Int), .int .i64 (c : Int), .slice (some ⟨b, 0, none⟩) (r * c) (r * c)], .int .i64 0]) /\ w.heap.size <= b /\ z0c w' b hs /\ z4c r c xs hs k l /\ ∀ x ∈ hs, x.natAbs < W ^ hW m) /\ Below w.heap.size w w' := by
 subst hl;have hlad : z4j 66 m <= 4000000000000 := by unfold z4j z1Z; omega
 have hhw : hW m <= 17592186044415 := by unfold hW z1Z; omega
 have hwl : ∀ x ∈ xs, z04 x.natAbs <= 17592186044415 := fun x hx => Nat.le_trans (z0a (hm x hx)) (by omega);have HXS := Lib.hid h; clear h;have HLad := Lib.hid (And.intro hlad (And.intro hhw hwl)); clear hlad hhw hwl;have HMM := Lib.hid hm; clear hm;have hsnd : z0v (r : Int) (c : Int) xs.length = true := by
  unfold z0v z0X;rw [hs]; simp; omega
 have HS := Lib.hid hs; clear hs;have HCK := Lib.hid (z4E hsnd); clear hsnd;go_enter Tryz.func13, Tryz.ntmps13;go_wp2_with fail
 obtain ⟨r1, r2, hb⟩ := z0H w #[.int .i64 (r : Int), .int .i64 (c : Int), .slice ao xs.length cap] #[.int .i64 0, .int .i64 0, .slice none 0 0] 24 24;generalize (w.alloc (.cells #[.int .i64 (r : Int), .int .i64 (c : Int), .slice ao xs.length cap] 24)).alloc (.cells #[.int .i64 0, .int .i64 0, .slice none 0 0] 24) = w2 at *;refine (z4v (r : Int) (c : Int) ao xs.length cap _ (by omega) (by omega)).mono ?_;rintro e w3 ⟨rfl, hb3⟩;rw [HCK.out];have R1 := Lib.hid (r1.below hb3 r1.lt);have R2 := Lib.hid (r2.below hb3 r2.lt);have L3 := Lib.hid ((HXS.out.below hb).below hb3);have B3 := Lib.hid (hb.trans (hb3.mono hb.size));have hs2 : w.heap.size + 1 < w3.heap.size := R2.out.lt;have e0 : w3.cell? ⟨w.heap.size, 0, none⟩ = some (.int .i64 (r : Int)) := R1.out.cell 0;have e1 : w3.cell? ⟨w.heap.size, 1, none⟩ = some (.int .i64 (c : Int)) := R1.out.cell 1;have e2 : w3.cell? ⟨w.heap.size, 2, none⟩ = some (.slice ao xs.length cap) := R1.out.cell 2;clear r1 r2 hb hb3;go_wp2_with fail
 refine (callsIn_wide.1 (zb7 r c ao xs.length cap xs w3 hr hc L3.out HLad.out.2.2 rfl HS.out)).mono ?_;rintro e w4 ⟨⟨o, R, rfl, hM, hRl, hRx, hob, hRb⟩, hb4⟩;obtain ⟨hSh, hE⟩ := z6U hRl HS.out hRx;obtain ⟨k, R', hRed, hOk⟩ := z5J (N := 66) (B := 4000000000000) (m := m) hSh (fun i b => by rw [hE]; exact z2R (z1v m) HMM.out i b) (by omega) (by omega) HLad.out.1;have hlR' : R'.length = r := hOk.len.trans hRl;obtain ⟨l, hH, hHb⟩ := hnf_of hRl hE hOk;have hred := z8j o r 4000000000000 c k R R' w4 hM (Nat.le_refl _) hRed (by omega) (by omega);rw [hRl] at hred;have HRed := Lib.hid hred; clear hred;have HOk := Lib.hid hOk; clear hOk;have HH := Lib.hid (And.intro hH hHb); clear hH hHb;have R14 := Lib.hid (R1.out.below hb4 R1.out.lt);have R24 := Lib.hid (R2.out.below hb4 R2.out.lt);have B4 := Lib.hid (B3.out.trans (hb4.mono B3.out.size));have HRb := Lib.hid (And.intro hob hRb);clear hRed hM hb4 e0 e1 e2 hSh hE hRx hob hRb R1 R2 L3 B3;rw [hRl];go_wp2_with fail
 refine HRed.out.mono ?_;rintro e w5 ⟨rfl, hM5, hC5⟩;rw [hlR'];have hown : ∀ q, (q = o ∨ ∃ x ∈ R, x.blk = q) -> w3.heap.size <= q := by
  rintro q (rfl | ⟨x, hx, rfl⟩)
  · exact HRb.out.1
  · exact HRb.out.2 x hx
 have hns : ∀ q, q < w3.heap.size -> ¬ (q = o ∨ ∃ x ∈ R, x.blk = q) := fun q hq h => by have := hown q h; omega
 have R15 := Lib.hid (hC5.row R14.out (hns _ (by omega)));have R25 := Lib.hid (hC5.row R24.out (hns _ hs2));have B5 : Hid (Below w.heap.size w w5) := Lib.hid (B4.out.trans (hC5.z2S (B := w.heap.size) (fun q hq => by have := hown q hq; omega) B4.out.size));have hrows := hM5.zas (L := 17592186044415) (fun x hx y hy => Nat.le_trans (z62 HOk.out.bd x hx y hy) HLad.out.2.1) r (by omega);rw [List.take_of_length_le (by omega)] at hrows;have HRows := Lib.hid hrows; clear hrows;have c1 : w5.cell? ⟨w.heap.size, 1, none⟩ = some (.int .i64 (c : Int)) := R15.out.cell 1;have hsh5 : ∀ x ∈ R'.map Hd.xs, x.length = c := fun x hx => by
  obtain ⟨q, hq, rfl⟩ := List.mem_map.1 hx; exact HOk.out.sh q hq
 clear hM5 hC5 R14 R24 B4 HRed hown hns;go_wp2_with fail
 refine (z3T o r r c (R'.map Hd.xs) w5 HRows.out (by rw [List.length_map, hlR']) hsh5 (by omega) (by omega)).mono ?_;rintro e w6 ⟨⟨b, rfl, hbb, hRb6⟩, hb6⟩;have R26 := Lib.hid (R25.out.below hb6 R25.out.lt);have B6 := Lib.hid (B5.out.trans (hb6.mono B5.out.size));have HR6 := Lib.hid hRb6;have hs5 : w.heap.size <= w5.heap.size := B5.out.size;clear hRb6 hb6 c1;have z0 := R26.out.cell 0;have z1 := R26.out.cell 1;have z2 := R26.out.cell 2;have y0 := R26.out.free 0;have y1 := R26.out.free 1;have y2 := R26.out.free 2;go_wp2;refine bodyPost_ret (z1S (p := 2) (q := 3) (by kernel_rfl) _ _ (w.heap.size + 1) _ _ _ rfl (R26.out.z4W (.int .i64 (r : Int)) (.int .i64 (c : Int)) (.slice (some ⟨b, 0, none⟩) (r * c) (r * c)))) rfl ?_;exact ⟨⟨b, _, k, l, rfl, by omega, HR6.out.z2d R26.out (r : Int) (c : Int) _ _ _, HH.out.1, HH.out.2⟩, ((B6.out.setCell (p := ⟨w.heap.size + 1, 0, none⟩) (Nat.le_succ _) _).setCell (p := ⟨w.heap.size + 1, 1, none⟩) (Nat.le_succ _) _).setCell (p := ⟨w.heap.size + 1, 2, none⟩) (Nat.le_succ _) _⟩
theorem z0n.least {w : World} {v : Value} {x : Int} (h : z0n w v x) : ∃ ao cap, v = .agg #[.bool (decide (x < 0)), .slice ao (z04 x.natAbs) cap] /\ WAt w ao (dig x.natAbs) /\ z04 x.natAbs <= cap := by
 obtain ⟨⟨n, ao, len, cap, ws, rfl, hW, hl, hL, hc, hx⟩, s, hs⟩ := h;have hn : n = decide (x < 0) := by injection hs with hs; simp at hs; exact hs.1
 have hv : z01 ws = x.natAbs := by rw [hx, z2A]
 have h1 := z0P hW.1;rw [hv] at h1;have h2 := z0e ws;have h3 := z2N hW.1;rw [hv, List.take_of_length_le (by omega)] at h3;have h4 : len = z04 x.natAbs := by omega
 subst hn;rw [h3];exact ⟨ao, cap, by rw [h4], hW, by omega⟩
set_option maxRecDepth 100000 in
set_option maxHeartbeats 2000000 in
theorem zd1 (aoA aoB : Option Addr) (lA cA lB cB : Nat) (xs ys : List Nat) (w : World) (hA : WAt w aoA xs) (hB : WAt w aoB ys) (hlA : lA = xs.length) (hlB : lB = ys.length) (hmA : lA <= 17592186044415) (hmB : lB <= 17592186044415) :
 Calls Tryz.prog 122 #[.slice aoA lA cA, .slice aoB lB cB] w fun e w' => e = .returned (.bool (decide (xs = ys))) /\ Below w.heap.size w w' := by
 subst hlA hlB;have HA := Lib.hid hA; clear hA;have HB := Lib.hid hB; clear hB;go_enter Tryz.func122, Tryz.ntmps122;by_cases hs : xs.length = ys.length
 · have hb : (((xs.length : Nat) : Int) != ((ys.length : Nat) : Int)) = false := by rw [hs]; simp
   have Hs := Lib.hid hs; clear hs;go_wp2;go_loopw [5] (fun i wr => ∃ k : Nat, k <= xs.length /\ i = .int .i64 (k : Int) /\ Hid (∀ j, j < k -> gw xs j = gw ys j) /\ Below w.heap.size w wr) (fun i _ => xs.length - (intOf i).toNat)
   case atStart => exact ⟨0, Nat.zero_le _, rfl, Lib.hid (fun j hj => by omega), Below.refl _ _⟩
   case round =>
    obtain ⟨k, hk, rfl, hag, hbl⟩ := hrel;by_cases h0 : k < xs.length
    · have h01 : (k : Int) < (xs.length : Int) := by omega
      have h02 : (k : Int) < (ys.length : Int) := by have := Hs.out; omega
      obtain ⟨b1, o1, rfl, hb1, hc1⟩ := (HA.out.below hbl).pos (by omega);obtain ⟨b2, o2, rfl, hb2, hc2⟩ := (HB.out.below hbl).pos (by omega);have e1 := hc1 k h0;have e2 := hc2 k (by omega);clear hc1 hc2;by_cases hne : gw xs k = gw ys k
      · have t1 : (((gw xs k : Nat) : Int) != ((gw ys k : Nat) : Int)) = false := by rw [hne]; simp
        have HN := Lib.hid hne; clear hne;go_wp2
        go_quiet (fail)
        go_wp2;go_roundw
        case rel => exact ⟨k + 1, by omega, by go_num, Lib.hid (fun j hj => by
         by_cases e : j = k
         · subst e; exact HN.out
         · exact hag.out j (by omega)), below_drewN hbl _⟩
        case measure => simp [intOf]; omega
      · have t1 : (((gw xs k : Nat) : Int) != ((gw ys k : Nat) : Int)) = true := by rw [bne_iff_ne]; omega
        have hd : decide (xs = ys) = false := by
         rw [decide_eq_false_iff_not]; intro e; exact hne (by rw [e])
        have HD := Lib.hid hd; clear hd hne;go_wp2
        go_quiet (fail)
        go_wp2;go_ret;exact ⟨by rw [HD.out]; rfl, below_drewN hbl _⟩
    · obtain rfl : k = xs.length := by omega
      have hd : decide (xs = ys) = true := by
       rw [decide_eq_true_iff];refine List.ext_getElem Hs.out fun j h1 h2 => ?_;have := hag.out j h1;unfold gw at this;simpa [h1, h2] using this
      have HD := Lib.hid hd; clear hd;go_wp2;go_ret;exact ⟨by rw [HD.out]; rfl, hbl⟩
 · have hb : (((xs.length : Nat) : Int) != ((ys.length : Nat) : Int)) = true := by rw [bne_iff_ne]; omega
   have hd : decide (xs = ys) = false := by
    rw [decide_eq_false_iff_not]; intro e; exact hs (by rw [e])
   have HD := Lib.hid hd; clear hd hs;go_wp2;go_ret;exact ⟨by rw [HD.out]; rfl, Below.refl _ _⟩
theorem za5 (x y : Int) : (decide (dig x.natAbs = dig y.natAbs) && (decide (x < 0) == decide (y < 0))) = decide (x = y) := by
 have h1 : dig x.natAbs = dig y.natAbs ↔ x.natAbs = y.natAbs := ⟨fun h => by rw [<- z0I x.natAbs, h, z0I], fun h => by rw [h]⟩;rw [Bool.eq_iff_iff];simp only [Bool.and_eq_true, decide_eq_true_eq, beq_iff_eq, h1, decide_eq_decide];omega
set_option maxRecDepth 100000 in
set_option maxHeartbeats 2000000 in
theorem zdQ (v u : Value) (x y : Int) (w : World) (h1 : z0n w v x) (h2 : z0n w u y) (hx : z04 x.natAbs <= 17592186044415) (hy : z04 y.natAbs <= 17592186044415) :
 Calls Tryz.prog 75 #[v, u] w fun e w' => e = .returned (.bool (decide (x = y))) /\ Below w.heap.size w w' := by
 obtain ⟨ao1, cap1, rfl, hW1, _⟩ := h1.least;obtain ⟨ao2, cap2, rfl, hW2, _⟩ := h2.least;clear h1 h2;have hAL := za5 x y;obtain ⟨r1, r2, hb⟩ := z0H w #[.bool (decide (x < 0)), .slice ao1 (z04 x.natAbs) cap1] #[.bool (decide (y < 0)), .slice ao2 (z04 y.natAbs) cap2] 45 45;have HM := Lib.hid (zd1 ao1 ao2 (z04 x.natAbs) cap1 (z04 y.natAbs) cap2 _ _ _ (hW1.below hb) (hW2.below hb) rfl rfl hx hy);obtain ⟨n1, hn1⟩ : ∃ n1, decide (x < 0) = n1 := ⟨_, rfl⟩;obtain ⟨n2, hn2⟩ : ∃ n2, decide (y < 0) = n2 := ⟨_, rfl⟩;obtain ⟨m, hm⟩ : ∃ m, decide (dig x.natAbs = dig y.natAbs) = m := ⟨_, rfl⟩;obtain ⟨l1, hl1⟩ : ∃ l1, z04 x.natAbs = l1 := ⟨_, rfl⟩;obtain ⟨l2, hl2⟩ : ∃ l2, z04 y.natAbs = l2 := ⟨_, rfl⟩;simp only [hn1, hn2, hl1, hl2, hm] at r1 r2 hb HM;rw [hn1, hn2, hm] at hAL;rw [hn1, hn2, hl1, hl2];have HAL := Lib.hid hAL; clear hAL hn1 hn2 hm hl1 hl2 hW1 hW2 hx hy;have R1 := Lib.hid r1;have R2 := Lib.hid r2;have e10 := r1.cell 0;have e11 := r1.cell 1;have e20 := r2.cell 0;have e21 := r2.cell 1;have HB := Lib.hid hb; clear hb r1 r2;go_enter Tryz.func75, Tryz.ntmps75;go_wp2_with fail
 generalize (w.alloc (.cells #[.bool n1, .slice ao1 l1 cap1] 45)).alloc (.cells #[.bool n2, .slice ao2 l2 cap2] 45) = w2 at *;refine HM.out.mono ?_;rintro e w3 ⟨rfl, hb3⟩;have k10 := (R1.out.below hb3 R1.out.lt).cell 0;have k20 := (R2.out.below hb3 R2.out.lt).cell 0;have HB3 := Lib.hid (HB.out.trans (hb3.mono HB.out.size)); clear hb3 e10 e11 e20 e21;cases m
 · go_wp2;go_ret;exact ⟨by rw [<- HAL.out]; rfl, HB3.out⟩
 · cases n1 <;> cases n2;all_goals
    go_wp2;go_ret;exact ⟨by rw [<- HAL.out]; rfl, HB3.out⟩
def LsN (w : World) (ao : Option Addr) (xs : List Int) : Prop :=
 0 < xs.length -> ∃ b o, ao = some ⟨b, o, none⟩ /\ b < w.heap.size /\ ∀ i (h : i < xs.length), ∃ p : P4, w.cell? ⟨b, o + i * 2, none⟩ = some (.bool p.1) /\ w.cell? ⟨b, o + i * 2 + 1, none⟩ = some (.slice p.2.1 p.2.2.1 p.2.2.2) /\ z0n w (av p) xs[i]
theorem LsN.below {w w' : World} {ao : Option Addr} {xs : List Int} (h : LsN w ao xs) (hb : Below w.heap.size w w') : LsN w' ao xs := by
 intro hl;obtain ⟨b, o, e, hlt, hc⟩ := h hl;refine ⟨b, o, e, Nat.lt_of_lt_of_le hlt hb.size, fun i hi => ?_⟩;obtain ⟨p, h0, h1, hn⟩ := hc i hi;exact ⟨p, (hb.cell (p := ⟨b, o + i * 2, none⟩) hlt).trans h0, (hb.cell (p := ⟨b, o + i * 2 + 1, none⟩) hlt).trans h1, hn.below hb⟩
theorem z0c.lsN {w : World} {b : Nat} {xs : List Int} (h : z0c w b xs) : LsN w (some ⟨b, 0, none⟩) xs := by
 intro _;refine ⟨b, 0, rfl, h.lt, fun i hi => ?_⟩;obtain ⟨p, h0, h1, hn⟩ := h.get hi;exact ⟨p, by simpa using h0, by simpa using h1, hn⟩
set_option maxRecDepth 100000 in
set_option maxHeartbeats 4000000 in
theorem z4m (aoA aoB : Option Addr) (lA cA lB cB : Nat) (xs ys : List Int) (w : World) (hA : LsN w aoA xs) (hB : LsN w aoB ys) (hlA : lA = xs.length) (hlB : lB = ys.length) (hmA : lA <= 8796093022208) (hmB : lB <= 8796093022208)
 (hx : ∀ x ∈ xs, z04 x.natAbs <= 17592186044415) (hy : ∀ x ∈ ys, z04 x.natAbs <= 17592186044415) :
 Calls Tryz.prog 35 #[.slice aoA lA cA, .slice aoB lB cB] w fun e w' => e = .returned (.bool (decide (xs = ys))) /\ Below w.heap.size w w' := by
 subst hlA hlB;have HA := Lib.hid hA; clear hA;have HB := Lib.hid hB; clear hB;have HX := Lib.hid (And.intro hx hy); clear hx hy;go_enter Tryz.func35, Tryz.ntmps35;by_cases hs : xs.length = ys.length
 · have hb : (((xs.length : Nat) : Int) != ((ys.length : Nat) : Int)) = false := by rw [hs]; simp
   have Hs := Lib.hid hs; clear hs;go_wp2;go_loopw [5] (fun i wr => ∃ k : Nat, k <= xs.length /\ i = .int .i64 (k : Int) /\ Hid (∀ j (h1 : j < xs.length) (h2 : j < ys.length), j < k -> xs[j] = ys[j]) /\ Hid (Below w.heap.size w wr)) (fun i _ => xs.length - (intOf i).toNat)
   case atStart => exact ⟨0, Nat.zero_le _, rfl, Lib.hid (fun j _ _ hj => by omega), Lib.hid (Below.refl _ _)⟩
   case round =>
    obtain ⟨k, hk, rfl, hag, hbl⟩ := hrel;by_cases h0 : k < xs.length
    · have h0y : k < ys.length := by have := Hs.out; omega
      have h01 : (k : Int) < (xs.length : Int) := by omega
      have h02 : (k : Int) < (ys.length : Int) := by omega
      obtain ⟨b1, o1, rfl, hb1, hc1⟩ := (HA.out.below hbl.out) (by omega);obtain ⟨b2, o2, rfl, hb2, hc2⟩ := (HB.out.below hbl.out) (by omega);obtain ⟨p, e10, e11, hn1⟩ := hc1 k h0;obtain ⟨q, e20, e21, hn2⟩ := hc2 k h0y;have HM : Hid (∀ m, Calls Tryz.prog 75 #[.agg #[.bool p.1, .slice p.2.1 p.2.2.1 p.2.2.2], .agg #[.bool q.1, .slice q.2.1 q.2.2.1 q.2.2.2]] (wr.drewN m) fun e w' => e = .returned (.bool (decide (xs[k] = ys[k]))) /\ Below (wr.drewN m).heap.size (wr.drewN m) w') :=
       Lib.hid (fun m => zdQ _ _ _ _ _ (z0n.below (w := wr) hn1 (below_drewN (Below.refl _ _) m)) (z0n.below (w := wr) hn2 (below_drewN (Below.refl _ _) m)) (HX.out.1 _ (List.getElem_mem h0)) (HX.out.2 _ (List.getElem_mem h0y)))
      have HM1 : Hid (Calls Tryz.prog 75 #[.agg #[.bool p.1, .slice p.2.1 p.2.2.1 p.2.2.2], .agg #[.bool q.1, .slice q.2.1 q.2.2.1 q.2.2.2]] wr.drew fun e w' => e = .returned (.bool (decide (xs[k] = ys[k]))) /\ Below wr.drew.heap.size wr.drew w') := Lib.hid (HM.out 1);obtain ⟨t, ht⟩ : ∃ t, decide (xs[k] = ys[k]) = t := ⟨_, rfl⟩;rw [ht] at HM1;have HT := Lib.hid ht;clear hc1 hc2 hn1 hn2 HM ht;go_wp2
      go_region_held3 (fun w' => w'.cell? ⟨b1, o1 + k * 2, none⟩ = some (.bool p.1) /\ w'.cell? ⟨b1, o1 + k * 2 + 1, none⟩ = some (.slice p.2.1 p.2.2.1 p.2.2.2) /\ w'.cell? ⟨b2, o2 + k * 2, none⟩ = some (.bool q.1) /\ w'.cell? ⟨b2, o2 + k * 2 + 1, none⟩ = some (.slice q.2.1 q.2.2.1 q.2.2.2))
       (first | exact ⟨e10, e11, e20, e21⟩ | exact ⟨(hb3.cell (p := ⟨b1, o1 + k * 2, none⟩) hb1).trans e10, (hb3.cell (p := ⟨b1, o1 + k * 2 + 1, none⟩) hb1).trans e11, (hb3.cell (p := ⟨b2, o2 + k * 2, none⟩) hb2).trans e20, (hb3.cell (p := ⟨b2, o2 + k * 2 + 1, none⟩) hb2).trans e21⟩)
       (first | (go_at_call 75; refine HM1.out.mono ?_; rintro e w3 ⟨rfl, hb3⟩))
      have HB3 : Hid (Below w.heap.size w w3) := Lib.hid (hbl.out.drew.trans (hb3.mono hbl.out.size));cases t
      · have hd : decide (xs = ys) = false := by
         rw [decide_eq_false_iff_not]; intro e; have h9 := HT.out; rw [decide_eq_false_iff_not] at h9; exact h9 (by subst e; rfl)
        have HD := Lib.hid hd; clear hd e10 e11 e20 e21 hb3;go_wp2;go_ret;exact ⟨by rw [HD.out]; rfl, HB3.out⟩
      · clear e10 e11 e20 e21 hb3;go_wp2;go_roundw
        case rel => exact ⟨k + 1, by omega, by go_num, Lib.hid (fun j h1 h2 hj => by
         by_cases e : j = k
         · subst e; exact of_decide_eq_true HT.out
         · exact hag.out j h1 h2 (by omega)), HB3⟩
        case measure => simp [intOf]; omega
    · obtain rfl : k = xs.length := by omega
      have hd : decide (xs = ys) = true := by
       rw [decide_eq_true_iff];exact List.ext_getElem Hs.out fun j h1 h2 => hag.out j h1 h2 h1
      have HD := Lib.hid hd; clear hd;go_wp2;go_ret;exact ⟨by rw [HD.out]; rfl, hbl.out⟩
 · have hb : (((xs.length : Nat) : Int) != ((ys.length : Nat) : Int)) = true := by rw [bne_iff_ne]; omega
   have hd : decide (xs = ys) = false := by
    rw [decide_eq_false_iff_not]; intro e; exact hs (by rw [e])
   have HD := Lib.hid hd; clear hd hs;go_wp2;go_ret;exact ⟨by rw [HD.out]; rfl, Below.refl _ _⟩
set_option maxHeartbeats 1000000 in
theorem z6F (n : Nat) (w : World) (hn : n <= 64) :
 Calls Tryz.prog 93 #[.int .i64 (n : Int)] w fun e w' => e = .returned (.bool false) /\ w' = w := by
 go_enter Tryz.func93, Tryz.ntmps93;have h1 : decide ((n : Int) < 0) = false := by simp
 have h2 : decide (64 < (n : Int)) = false := by simp; omega
 go_wp2;go_ret;exact ⟨rfl, rfl⟩
set_option maxRecDepth 100000 in
set_option maxHeartbeats 2000000 in
theorem z5V (r c : Nat) (w : World) (hr : r <= 64) (hc : c <= 64) :
 Calls Tryz.prog 67 #[.int .i64 (r : Int), .int .i64 (c : Int)] w fun e w' => (∃ b, e = .returned (.agg #[.int .i64 (r : Int), .int .i64 (c : Int), .slice (some ⟨b, 0, none⟩) (r * c) (r * c)]) /\ w.heap.size <= b /\ z0c w' b (List.replicate (r * c) 0)) /\ Below w.heap.size w w' := by
 have hnc : r * c <= 4096 := Nat.mul_le_mul hr hc;have hw1 : wrap64 ((r : Int) * (c : Int)) = ((r * c : Nat) : Int) := by
  rw [<- Int.natCast_mul]; unfold wrap64; omega
 obtain ⟨N, hN⟩ : ∃ N, r * c = N := ⟨_, rfl⟩;rw [hN] at hw1 hnc ⊢;clear hN;have h0 := z00.new w #[.int .i64 0, .int .i64 0, .slice none 0 0] 24;have hb0 : Below w.heap.size w (w.alloc (.cells #[.int .i64 0, .int .i64 0, .slice none 0 0] 24)) := (Below.refl _ _).alloc (Nat.le_refl _) _;have hs0 : (w.alloc (.cells #[.int .i64 0, .int .i64 0, .slice none 0 0] 24)).heap.size = w.heap.size + 1 := by simp
 have H0 := Lib.hid h0; clear h0;have HB0 := Lib.hid hb0; clear hb0;go_enter Tryz.func67, Tryz.ntmps67;go_wp2_with (at_make; refine z5s rfl _ _ rfl N N rfl rfl (by omega) (by omega) (Nat.le_refl _) (by omega) ?_; intro b w1 hm1; have hbb : w.heap.size < b := (by have := hm1.at_; omega); have hr1 := H0.out.below hm1.below H0.out.lt; have HR := Lib.hid (z0c.z7u hm1.row); have HB := Lib.hid (HB0.out.trans (hm1.below.mono HB0.out.size)); have z0 := hr1.cell 0; have z1 := hr1.cell 1; have z2 := hr1.cell 2; have y0 := hr1.free 0; have y1 := hr1.free 1; have y2 := hr1.free 2; have HR1 := Lib.hid hr1; clear hm1 hr1)
 refine bodyPost_ret (z2u (p := 4) (by kernel_rfl) _ _ w.heap.size _ _ _ rfl (HR1.out.z4W (.int .i64 (r : Int)) (.int .i64 (c : Int)) (.slice (some ⟨b, 0, none⟩) N N))) rfl ?_;exact ⟨⟨b, rfl, by omega, HR.out.z2d HR1.out (r : Int) (c : Int) _ _ _⟩, ((HB.out.setCell (p := ⟨w.heap.size, 0, none⟩) (Nat.le_refl _) _).setCell (p := ⟨w.heap.size, 1, none⟩) (Nat.le_refl _) _).setCell (p := ⟨w.heap.size, 2, none⟩) (Nat.le_refl _) _⟩
structure Mk9 (w : World) (b m r c N i : Nat) (xs cu : List Int) (W : World) : Prop where
 len : cu.length = xs.length
 done : ∀ j (h : j < cu.length) (h1 : j < xs.length), j < i -> cu[j] = xs[j]
 box : z00 W m 24 [.int .i64 (r : Int), .int .i64 (c : Int), .slice (some ⟨b, 0, none⟩) N N]
 row : z0c W b cu
 res : z00 W w.heap.size 24 [.int .i64 0, .int .i64 0, .slice none 0 0]
 bel : Below w.heap.size w W
theorem Mk9.put {w : World} {b m r c N i : Nat} {xs cu : List Int} {W : World} (h : Mk9 w b m r c N i xs cu W) (hb : w.heap.size < b /\ b < m) (hi : i < xs.length) {p : P4} (hx : z0n W (av p) xs[i]) :
 Mk9 w b m r c N (i + 1) xs (cu.set i xs[i]) ((W.setCell ⟨b, i * 2, none⟩ (.bool p.1)).setCell ⟨b, i * 2 + 1, none⟩ (.slice p.2.1 p.2.2.1 p.2.2.2)) := by
 refine ⟨by rw [List.length_set]; exact h.len, fun j h1 h2 h3 => ?_, (h.box.other (p := ⟨b, i * 2, none⟩) (by show m ≠ b; omega) _).other (p := ⟨b, i * 2 + 1, none⟩) (by show m ≠ b; omega) _, h.row.set i hx, (h.res.other (p := ⟨b, i * 2, none⟩) (by show w.heap.size ≠ b; omega) _).other (p := ⟨b, i * 2 + 1, none⟩) (by show w.heap.size ≠ b; omega) _, (h.bel.setCell (p := ⟨b, i * 2, none⟩) (Nat.le_of_lt hb.1) _).setCell (p := ⟨b, i * 2 + 1, none⟩) (Nat.le_of_lt hb.1) _⟩;rw [List.getElem_set];split
 · rename_i e; subst e; rfl
 · exact h.done j (by simpa using h1) h2 (by omega)
set_option maxRecDepth 100000 in
set_option maxHeartbeats 4000000 in
theorem zcX (r c : Nat) (ao : Option Addr) (len cap L : Nat) (xs : List Int) (w : World) (hr : r <= 64) (hc : c <= 64) (h : z0F w L ao xs) (hL : L <= 8796093022208) (hl : len = xs.length) (hs : xs.length = r * c) :
 Calls Tryz.prog 50 #[.int .i64 (r : Int), .int .i64 (c : Int), .slice ao len cap] w fun e w' => (∃ b, e = .returned (.tuple #[.agg #[.int .i64 (r : Int), .int .i64 (c : Int), .slice (some ⟨b, 0, none⟩) (r * c) (r * c)], .int .i64 0]) /\ w.heap.size <= b /\ z0c w' b xs) /\ Below w.heap.size w w' := by
 have hlen : len = r * c := hl.trans hs;have hnc : r * c <= 4096 := Nat.mul_le_mul hr hc;have hw1 : wrap64 ((r : Int) * (c : Int)) = ((r * c : Nat) : Int) := by
  rw [<- Int.natCast_mul]; unfold wrap64; omega
 have h0 := z00.new w #[.int .i64 0, .int .i64 0, .slice none 0 0] 24;have hb0 : Below w.heap.size w (w.alloc (.cells #[.int .i64 0, .int .i64 0, .slice none 0 0] 24)) := (Below.refl _ _).alloc (Nat.le_refl _) _;have HO1 := Lib.hid (z6F r (w.alloc (.cells #[.int .i64 0, .int .i64 0, .slice none 0 0] 24)) hr);have HO2 := Lib.hid (z6F c (w.alloc (.cells #[.int .i64 0, .int .i64 0, .slice none 0 0] 24)) hc);have HBL := Lib.hid (z5V r c (w.alloc (.cells #[.int .i64 0, .int .i64 0, .slice none 0 0] 24)) hr hc);have hxl : xs.length = r * c := hs;subst hlen;obtain ⟨N, hN⟩ : ∃ N, r * c = N := ⟨_, rfl⟩;rw [hN] at hw1 hnc HBL hxl ⊢;have H0 := Lib.hid h0; clear h0;have HB0 := Lib.hid hb0; clear hb0;have HLS := Lib.hid h; clear h;have HXL := Lib.hid hxl; clear hxl hN hs hl;have hne : ((N : Int) != (N : Int)) = false := by simp
 go_enter Tryz.func50, Tryz.ntmps50;go_wp2_with fail
 generalize w.alloc (.cells #[.int .i64 0, .int .i64 0, .slice none 0 0] 24) = w1 at *;refine HO1.out.mono ?_;rintro e w' ⟨rfl, rfl⟩;go_wp2_with fail
 refine HO2.out.mono ?_;rintro e w' ⟨rfl, rfl⟩;go_wp2_with fail
 refine HBL.out.mono ?_;rintro e w3 ⟨⟨b, rfl, hbb, hR3⟩, hb3⟩;have hb4 : Below w3.heap.size w3 (w3.alloc (.cells #[.int .i64 (r : Int), .int .i64 (c : Int), .slice (some ⟨b, 0, none⟩) N N] 24)) := (Below.refl _ _).alloc (Nat.le_refl _) _;have hw1' : w.heap.size < w'.heap.size := H0.out.lt;have hs3 := hb3.size;have hb3' : b < w3.heap.size := hR3.lt;have hI : Mk9 w b w3.heap.size r c N 0 xs (List.replicate N 0) (w3.alloc (.cells #[.int .i64 (r : Int), .int .i64 (c : Int), .slice (some ⟨b, 0, none⟩) N N] 24)) :=
  ⟨by simp [HXL.out], fun j _ _ h => by omega, z00.new _ _ _, hR3.below hb4, (H0.out.below hb3 H0.out.lt).alloc _, (HB0.out.trans (hb3.mono HB0.out.size)).trans (hb4.mono (by omega))⟩
 have HI := Lib.hid hI;obtain ⟨m, hm⟩ : ∃ m, w3.heap.size = m := ⟨_, rfl⟩;clear hI hb4 hb3 hR3 HBL HO1 HO2;go_wp2;generalize w3.alloc (.cells #[.int .i64 (r : Int), .int .i64 (c : Int), .slice (some ⟨b, 0, none⟩) N N] 24) = w4 at *;rw [hm] at HI hs3 hb3';clear hm;go_loopw [9] (fun i_ wr => ∃ (i : Nat) (cu : List Int), i <= N /\ i_ = .int .i64 (i : Int) /\ Hid (Mk9 w b m r c N i xs cu wr)) (fun i_ _ => N - (intOf i_).toNat)
 case atStart => exact ⟨0, _, Nat.zero_le _, rfl, HI⟩
 case round =>
  obtain ⟨i, cu, hi, rfl, hI⟩ := hrel;by_cases hin : i < N
  · have hin1 : (i : Int) < (N : Int) := by omega
    have hix : i < xs.length := by rw [HXL.out]; exact hin
    obtain ⟨ab, aoff, rfl, hab, hcells⟩ := (HLS.out.below hI.out.bel) (by omega);obtain ⟨px, cx0, cx1, hnx⟩ := hcells i hix;have hab0 : ab < w.heap.size := by
     obtain ⟨b', o', e', hlt', _⟩ := HLS.out (by omega);simp only [Option.some.injEq, Addr.mk.injEq, and_true] at e';omega
    have Hnx := Lib.hid hnx; clear hnx hcells;have c2 := hI.out.box.cell 2;simp only [List.getElem?_cons_zero, List.getElem?_cons_succ] at c2;have hmb : m < wr.heap.size := hI.out.box.lt;have hbb9 : w.heap.size < b /\ b < m := by omega
    go_wp2;go_region_law (first
     | (go_simp; go_at_call 90; refine (z9H (av px) xs[i] L _ (z03.below (w := wr) Hnx.out (Below.refl _ _).drew) hL).mono ?_; rintro e w6 ⟨⟨vz, rfl, hvz⟩, hb6⟩; obtain ⟨pz, rfl⟩ := z0n.parts hvz.num; have HZ6 := Lib.hid hvz.num; unfold av at *; have hI6 : Mk9 w b m r c N i xs cu w6 := ⟨hI.out.len, hI.out.done, z00.below (w := wr.drew) hI.out.box hb6 hI.out.box.lt, z0c.below (w := wr.drew) hI.out.row hb6, z00.below (w := wr.drew) hI.out.res hb6 hI.out.res.lt, hI.out.bel.drew.trans (hb6.mono hI.out.bel.size)⟩; have HI6 := Lib.hid hI6; obtain ⟨pq, q0, q1, hq9⟩ := hI6.row.get (i := i) (by rw [hI6.len]; exact hix); clear hq9; have q2 := hI6.row.free (i * 2); have q3 := hI6.row.free (i * 2 + 1); have k2 := HI6.out.box.cell 2; simp only [List.getElem?_cons_zero, List.getElem?_cons_succ] at k2; clear hI6 hb6 hvz))
    all_goals go_wp2
    all_goals refine ⟨⟨i + 1, cu.set i xs[i], by omega, by go_num, Lib.hid ?_⟩, ?_⟩
    all_goals first
     | (simp [intOf] <;> omega)
     | exact HI6.out.put hbb9 hix HZ6.out
  · obtain rfl : i = N := by omega
    have hcu : cu = xs := List.ext_getElem hI.out.len fun j h1 h2 => hI.out.done j h1 h2 (by have := HXL.out; omega);subst hcu;have hI' := hI.out;have c0 := hI'.box.cell 0;have c1 := hI'.box.cell 1;have c2 := hI'.box.cell 2;have d0 := hI'.res.cell 0;have d1 := hI'.res.cell 1;have d2 := hI'.res.cell 2;have f0 := hI'.res.free 0;have f1 := hI'.res.free 1;have f2 := hI'.res.free 2;simp only [List.getElem?_cons_zero, List.getElem?_cons_succ] at c0 c1 c2 d0 d1 d2;clear hI';go_wp2;refine bodyPost_ret (z1S (p := 6) (q := 7) (by kernel_rfl) _ _ w.heap.size _ _ _ rfl (hI.out.res.z4W (.int .i64 (r : Int)) (.int .i64 (c : Int)) (.slice (some ⟨b, 0, none⟩) i i))) rfl ?_;exact ⟨⟨b, rfl, by omega, hI.out.row.z2d hI.out.res (r : Int) (c : Int) _ _ _⟩, ((hI.out.bel.setCell (p := ⟨w.heap.size, 0, none⟩) (Nat.le_refl _) _).setCell (p := ⟨w.heap.size, 1, none⟩) (Nat.le_refl _) _).setCell (p := ⟨w.heap.size, 2, none⟩) (Nat.le_refl _) _⟩
set_option maxRecDepth 100000 in
set_option maxHeartbeats 4000000 in
theorem z5y (r c : Int) (ao : Option Addr) (len cap : Nat) (w : World) :
 Calls Tryz.prog 11 #[.agg #[.int .i64 r, .int .i64 c, .slice ao len cap]] w fun e w' => e = .returned (.bool (z0v r c len)) /\ Below w.heap.size w w' := by
 have hb : Below w.heap.size w (w.alloc (.cells #[.int .i64 r, .int .i64 c, .slice ao len cap] 24)) := (Below.refl _ _).alloc (Nat.le_refl _) _;have HB := Lib.hid hb; clear hb;have fin : ∀ b : Bool, z0v r c len = b -> Hid (z0v r c len = b) := fun b h => Lib.hid h;by_cases h1 : 0 <= r
 · have g1 : decide (0 <= r) = true := by simpa using h1
   by_cases h2 : r <= 64
   · have g2 : decide (r <= 64) = true := by simpa using h2
     by_cases h3 : 0 <= c
     · have g3 : decide (0 <= c) = true := by simpa using h3
       by_cases h4 : c <= 64
       · have g4 : decide (c <= 64) = true := by simpa using h4
         have hm : 0 <= r * c /\ r * c <= 4096 := by
          refine ⟨Int.mul_nonneg h1 h3, ?_⟩;have h5 := Int.mul_le_mul_of_nonneg_right h2 h3;omega
         have hs : z0v r c len = ((len : Int) == r * c) := by simp [z0v, z0X, g1, g2, g3, g4]
         have hw : IntKind.i64.wrap (r * c) = r * c := wrap_small (by omega) (by omega);have HS := Lib.hid hs; clear hs hm;obtain ⟨q, hq⟩ : ∃ q, r * c = q := ⟨_, rfl⟩;rw [hq] at hw HS;have hw' : IntKind.i64.wrap (r * c) = q := by rw [hq]; exact hw
         clear hw hq;go_enter Tryz.func11, Tryz.ntmps11;go_wp2;go_ret;exact ⟨by rw [HS.out]; rfl, HB.out⟩
       · have g4 : decide (c <= 64) = false := by simpa using h4
         have HS := fin false (by simp [z0v, z0X, g1, g2, g3, g4]);clear fin h1 h2 h3 h4;go_enter Tryz.func11, Tryz.ntmps11;go_wp2;go_ret;exact ⟨by rw [HS.out]; rfl, HB.out⟩
     · have g3 : decide (0 <= c) = false := by simpa using h3
       have HS := fin false (by simp [z0v, z0X, g1, g2, g3]);clear fin h1 h2 h3;go_enter Tryz.func11, Tryz.ntmps11;go_wp2;go_ret;exact ⟨by rw [HS.out]; rfl, HB.out⟩
   · have g2 : decide (r <= 64) = false := by simpa using h2
     have HS := fin false (by simp [z0v, z0X, g1, g2]);clear fin h1 h2;go_enter Tryz.func11, Tryz.ntmps11;go_wp2;go_ret;exact ⟨by rw [HS.out]; rfl, HB.out⟩
 · have g1 : decide (0 <= r) = false := by simpa using h1
   have HS := fin false (by simp [z0v, z0X, g1]);clear fin h1;go_enter Tryz.func11, Tryz.ntmps11;go_wp2;go_ret;exact ⟨by rw [HS.out]; rfl, HB.out⟩
set_option maxRecDepth 100000 in
set_option maxHeartbeats 4000000 in
theorem z5M (r c : Nat) (ao : Option Addr) (len cap : Nat) (w : World) (hr : r <= 64) (hc : c <= 64) (hs : len = r * c) :
 Calls Tryz.prog 49 #[.agg #[.int .i64 (r : Int), .int .i64 (c : Int), .slice ao len cap]] w fun e w' => e = .returned (.int .i64 0) /\ Below w.heap.size w w' := by
 have hb : Below w.heap.size w (w.alloc (.cells #[.int .i64 (r : Int), .int .i64 (c : Int), .slice ao len cap] 24)) := (Below.refl _ _).alloc (Nat.le_refl _) _;have HB := Lib.hid hb; clear hb;have hN : r * c <= 4096 := Nat.mul_le_mul hr hc;have hw : IntKind.i64.wrap ((r : Int) * (c : Int)) = (len : Int) := by
  rw [<- Int.natCast_mul, <- hs]; exact wrap_small (by omega) (by omega)
 clear hs hN;have g1 : decide ((r : Int) < 0) = false := by simp
 have g2 : decide (64 < (r : Int)) = false := by simp; omega
 have g3 : decide ((c : Int) < 0) = false := by simp
 have g4 : decide (64 < (c : Int)) = false := by simp; omega
 have g5 : ((len : Int) != (len : Int)) = false := by simp
 go_enter Tryz.func49, Tryz.ntmps49;go_wp2;go_ret;exact ⟨rfl, HB.out⟩
set_option maxRecDepth 100000 in
set_option maxHeartbeats 4000000 in
theorem zbx (r c : Nat) (ao : Option Addr) (len cap L : Nat) (xs : List Int) (w : World) (hr : r <= 64) (hc : c <= 64) (h : z0F w L ao xs) (hL : L <= 8796093022208) (hl : len = xs.length) (hs : xs.length = r * c) :
 Calls Tryz.prog 17 #[.agg #[.int .i64 (r : Int), .int .i64 (c : Int), .slice ao len cap]] w fun e w' => (∃ b, e = .returned (.tuple #[.agg #[.int .i64 (r : Int), .int .i64 (c : Int), .slice (some ⟨b, 0, none⟩) (r * c) (r * c)], .int .i64 0]) /\ w.heap.size <= b /\ z0c w' b xs) /\ Below w.heap.size w w' := by
 obtain ⟨r1, r2, hb⟩ := z0H w #[.int .i64 (r : Int), .int .i64 (c : Int), .slice ao len cap] #[.int .i64 0, .int .i64 0, .slice none 0 0] 24 24;have HC := Lib.hid (z5M r c ao len cap ((w.alloc (.cells #[.int .i64 (r : Int), .int .i64 (c : Int), .slice ao len cap] 24)).alloc (.cells #[.int .i64 0, .int .i64 0, .slice none 0 0] 24)) hr hc (hl.trans hs));have HLS := Lib.hid (h.below hb);have HLH := Lib.hid (And.intro hl hs);have R1 := Lib.hid r1;have R2 := Lib.hid r2;have e0 := r1.cell 0;have e1 := r1.cell 1;have e2 := r1.cell 2;have HB := Lib.hid hb; clear hb r1 r2 h hl hs;go_enter Tryz.func17, Tryz.ntmps17;go_wp2_with fail
 generalize (w.alloc (.cells #[.int .i64 (r : Int), .int .i64 (c : Int), .slice ao len cap] 24)).alloc (.cells #[.int .i64 0, .int .i64 0, .slice none 0 0] 24) = w2 at *;refine HC.out.mono ?_;rintro e w3 ⟨rfl, hb3⟩;have HM := Lib.hid (zcX r c ao len cap L xs w3 hr hc (HLS.out.below hb3) hL HLH.out.1 HLH.out.2);have k0 := (R1.out.below hb3 R1.out.lt).cell 0;have k1 := (R1.out.below hb3 R1.out.lt).cell 1;have k2 := (R1.out.below hb3 R1.out.lt).cell 2;have R23 := Lib.hid (R2.out.below hb3 R2.out.lt);have HB3 := Lib.hid (HB.out.trans (hb3.mono HB.out.size));have hs2 : w.heap.size + 1 < w2.heap.size := R2.out.lt;have hs3 := hb3.size;clear hb3 e0 e1 e2 HC R1 R2 HB;go_wp2_with fail
 refine HM.out.mono ?_;rintro e w4 ⟨⟨b, rfl, hbb, hR⟩, hb4⟩;have R24 := Lib.hid (R23.out.below hb4 R23.out.lt);have HR := Lib.hid hR; clear hR;have HB4 := Lib.hid (HB3.out.trans (hb4.mono HB3.out.size));have z0 := R24.out.cell 0;have z1 := R24.out.cell 1;have z2 := R24.out.cell 2;have y0 := R24.out.free 0;have y1 := R24.out.free 1;have y2 := R24.out.free 2;clear hb4 k0 k1 k2 HM;go_wp2;refine bodyPost_ret (z1S (p := 2) (q := 3) (by kernel_rfl) _ _ (w.heap.size + 1) _ _ _ rfl (R24.out.z4W (.int .i64 (r : Int)) (.int .i64 (c : Int)) (.slice (some ⟨b, 0, none⟩) (r * c) (r * c)))) rfl ?_;exact ⟨⟨b, rfl, by omega, HR.out.z2d R24.out (r : Int) (c : Int) _ _ _⟩, ((HB4.out.setCell (p := ⟨w.heap.size + 1, 0, none⟩) (Nat.le_succ _) _).setCell (p := ⟨w.heap.size + 1, 1, none⟩) (Nat.le_succ _) _).setCell (p := ⟨w.heap.size + 1, 2, none⟩) (Nat.le_succ _) _⟩
set_option maxRecDepth 100000 in
set_option maxHeartbeats 4000000 in
theorem z0J (r1 c1 r2 c2 : Int) (aoA aoB : Option Addr) (lA cA lB cB : Nat) (xs ys : List Int) (w : World) (hA : LsN w aoA xs) (hB : LsN w aoB ys) (hlA : lA = xs.length) (hlB : lB = ys.length) (hmA : lA <= 8796093022208) (hmB : lB <= 8796093022208)
 (hx : ∀ x ∈ xs, z04 x.natAbs <= 17592186044415) (hy : ∀ x ∈ ys, z04 x.natAbs <= 17592186044415) :
 Calls Tryz.prog 14 #[.agg #[.int .i64 r1, .int .i64 c1, .slice aoA lA cA], .agg #[.int .i64 r2, .int .i64 c2, .slice aoB lB cB]] w fun e w' => e = .returned (.bool (decide (xs = ys) && (r1 == r2) && (c1 == c2))) /\ Below w.heap.size w w' := by
 obtain ⟨q1, q2, hb⟩ := z0H w #[.int .i64 r1, .int .i64 c1, .slice aoA lA cA] #[.int .i64 r2, .int .i64 c2, .slice aoB lB cB] 24 24;have HM := Lib.hid (z4m aoA aoB lA cA lB cB xs ys _ (hA.below hb) (hB.below hb) hlA hlB hmA hmB hx hy);obtain ⟨t, ht⟩ : ∃ t, decide (xs = ys) = t := ⟨_, rfl⟩;rw [ht] at HM ⊢;have R1 := Lib.hid q1;have R2 := Lib.hid q2;have e2 := q1.cell 2;have e5 := q2.cell 2;have HB := Lib.hid hb;clear hb q1 q2 hA hB hlA hlB hx hy ht;go_enter Tryz.func14, Tryz.ntmps14;go_wp2_with fail
 generalize (w.alloc (.cells #[.int .i64 r1, .int .i64 c1, .slice aoA lA cA] 24)).alloc (.cells #[.int .i64 r2, .int .i64 c2, .slice aoB lB cB] 24) = w2 at *;refine HM.out.mono ?_;rintro e w3 ⟨rfl, hb3⟩;have k0 := (R1.out.below hb3 R1.out.lt).cell 0;have k1 := (R1.out.below hb3 R1.out.lt).cell 1;have k3 := (R2.out.below hb3 R2.out.lt).cell 0;have k4 := (R2.out.below hb3 R2.out.lt).cell 1;have HB3 := Lib.hid (HB.out.trans (hb3.mono HB.out.size));clear hb3 e2 e5;cases t
 · go_wp2;go_ret;exact ⟨rfl, HB3.out⟩
 · cases hrr : (r1 == r2)
   · go_wp2;go_ret;exact ⟨by rw [hrr]; rfl, HB3.out⟩
   · go_wp2;go_ret;exact ⟨by rw [hrr]; rfl, HB3.out⟩
theorem z1M {w w' : World} {base : Nat} {e : TypeId} {size : Nat} {v : Value} {n : Nat} {xs : List Value} (h : w.ownsRow base e size v n xs) (hb : Below w.heap.size w w') : w'.ownsRow base e size v n xs := by
 refine ⟨h.1, ?_⟩;rcases h.2 with hn | ⟨g, cap, cur, hv, hg, hc, rest⟩
 · exact .inl hn
 · refine .inr ⟨g, cap, cur, hv, hg, ?_, rest⟩;have hlt : g < w.heap.size := by
    by_cases e : g < w.heap.size
    · exact e
    · rw [Array.getElem?_eq_none (by omega)] at hc; cases hc
   rw [hb.block g hlt]; exact hc
structure PV (c : Nat) (E : Nat -> Nat -> Int) (i : Nat) (ls : List Nat) : Prop where
 len : ls.length = i
 z1y : z1a i c E (fun a => ls.getD a 0)
def z8v (ls : List Nat) : Int := if ls.length = 0 then -1 else (ls.getD (ls.length - 1) 0 : Int)
theorem PV.start (c : Nat) (E : Nat -> Nat -> Int) : PV c E 0 [] :=
 ⟨rfl, ⟨⟨fun i k _ h => by omega, fun i h => by omega, fun i h => by omega, fun i h => by omega⟩, fun i k _ h => by omega⟩⟩
theorem PV.fi {c : Nat} {E : Nat -> Nat -> Int} {i : Nat} {ls : List Nat} (h : PV c E i ls) : FI c E i (z8v ls) := by
 refine ⟨i, fun a => ls.getD a 0, Nat.le_refl _, h.z1y, fun a h1 h2 => by omega, ?_⟩;rw [if_neg (by omega)];unfold z8v;rw [h.len]
theorem Ech.zbQ {n c : Nat} {E : Nat -> Nat -> Int} {l : Nat -> Nat} (h : Ech n c E l) {a q : Nat} (ha : a < n) (h0 : ∀ b, b < q -> E a b = 0) (hn : E a q ≠ 0) : l a = q := by
 rcases Nat.lt_trichotomy (l a) q with e | e | e
 · have := h.pos a ha; have := h0 _ e; omega
 · exact e
 · exact absurd (h.zero a ha q e) hn
theorem z1a.lcongr {n c : Nat} {E : Nat -> Nat -> Int} {l l' : Nat -> Nat} (h : z1a n c E l) (e : ∀ a, a < n -> l' a = l a) : z1a n c E l' := by
 refine ⟨⟨fun i k hik hk => ?_, fun i hi => ?_, fun i hi j hj => ?_, fun i hi => ?_⟩, fun i k hik hk => ?_⟩
 · rw [e i (by omega), e k hk]; exact h.inc i k hik hk
 · rw [e i hi]; exact h.lt i hi
 · rw [e i hi] at hj; exact h.zero i hi j hj
 · rw [e i hi]; exact h.pos i hi
 · rw [e k hk]; exact h.red i k hik hk
theorem PV.next {c : Nat} {E : Nat -> Nat -> Int} {i j : Nat} {ls : List Nat} (h : PV c E i ls) (hl : z8X c E i j) (hj : j < c) (hlast : z8v ls < (j : Int)) (hp : 0 < E i j) (hr : ∀ a, a < i -> 0 <= E a j /\ E a j < E i j) : PV c E (i + 1) (ls ++ [j]) := by
 obtain ⟨k, l, hk, hH, hz, hla⟩ := h.fi.next hl hj hlast hp hr;have hki : k = i + 1 := by
  by_cases e : k < i + 1
  · rw [if_pos e] at hla; omega
  · omega
 subst hki;refine ⟨by simp [h.len], hH.lcongr fun a ha => ?_⟩;by_cases e : a < i
 · have e1 : (ls ++ [j]).getD a 0 = ls.getD a 0 := by
    rw [List.getD_eq_getElem?_getD, List.getD_eq_getElem?_getD, List.getElem?_append_left (by rw [h.len]; exact e)]
   show (ls ++ [j]).getD a 0 = l a;rw [e1];exact (hH.zbQ ha (h.z1y.zero a e) (by have := h.z1y.pos a e; omega)).symm
 · obtain rfl : a = i := by omega
   have e1 : (ls ++ [j]).getD a 0 = j := by
    rw [List.getD_eq_getElem?_getD, List.getElem?_append_right (by rw [h.len]; exact Nat.le_refl _), h.len]; simp
   show (ls ++ [j]).getD a 0 = l a;rw [e1];exact (hH.zbQ ha hl.zero (by omega)).symm
theorem zdE {xs : List Int} {r c i q : Nat} (hs : xs.length = r * c) (hq : q < xs.length) (hn : xs.getD q 0 ≠ 0) (hz : ∀ a, i <= a -> a < r -> ∀ b, z0d xs r c a b = 0) (hiq : i * c <= q) : False := by
 rw [hs] at hq;have hc : 0 < c := by
  rcases Nat.eq_zero_or_pos c with e | e
  · rw [e, Nat.mul_zero] at hq; omega
  · exact e
 have h1 : q / c < r := Nat.div_lt_of_lt_mul (by rw [Nat.mul_comm]; exact hq);have h2 : i <= q / c := (Nat.le_div_iff_mul_le hc).2 hiq;have h3 := hz (q / c) h2 h1 (q % c);unfold z0d at h3;rw [if_pos ⟨h1, Nat.mod_lt _ hc⟩, show q / c * c + q % c = q by rw [Nat.mul_comm]; exact Nat.div_add_mod q c] at h3;exact hn h3
theorem zbm {xs : List Int} {r c i : Nat} (h : ∀ u, i * c <= u -> u < xs.length -> xs.getD u 0 = 0) (hs : xs.length = r * c) : ∀ a, i <= a -> a < r -> ∀ b, z0d xs r c a b = 0 := by
 intro a h1 h2 b;unfold z0d;split
 · rename_i h3;exact h _ (Nat.le_trans (Nat.mul_le_mul_right _ h1) (Nat.le_add_right _ _)) (by rw [hs]; exact z2U h3.1 h3.2)
 · rfl
def Pvs (r c : Nat) (E : Nat -> Nat -> Int) (ls : List Nat) : Prop := ∃ i, i <= r /\ PV c E i ls /\ ∀ a, i <= a -> a < r -> ∀ b, E a b = 0
theorem zb4 {x : Int} (h : x = 0) : (z0o x == 0) = true := by subst h; rfl
theorem zs_ne {x : Int} (h : x ≠ 0) : (z0o x == 0) = false := by
 unfold z0o;rw [if_neg h];split <;> rfl
theorem zbn : (Tryz.prog.info? 3).map (fun i => (i.zero, i.size, i.bytes)) = some (some (.int .i64 0), 1, 8) := by kernel_rfl
def z6h (ls : List Nat) : List Value := ls.map fun (a : Nat) => Value.int .i64 (a : Int)
theorem zbz {w : World} {base : Nat} {e : TypeId} {v : Value} {ls : List Nat} (h : w.ownsRow base e 1 v ls.length (z6h ls)) :
 (v = .slice none 0 0 /\ ls = []) ∨ ∃ g cap, v = .slice (some ⟨g, 0, none⟩) ls.length cap /\ 0 < ls.length + 1 /\ g < w.heap.size /\ ∀ k (hk : k < ls.length), w.cell? ⟨g, k, none⟩ = some (.int .i64 (ls.getD k 0 : Nat)) := by
 rcases h.2 with ⟨hn, h0⟩ | ⟨g, cap, cur, hv, hg, hc, h1, h2, h3, h4⟩
 · exact .inl ⟨hn, List.eq_nil_of_length_eq_zero h0⟩
 · refine .inr ⟨g, cap, hv, by omega, ?_, fun k hk => ?_⟩
   · by_cases e : g < w.heap.size
     · exact e
     · rw [Array.getElem?_eq_none (by omega)] at hc; cases hc
   · have e1 : cur[k]? = some (Value.int .i64 (ls.getD k 0 : Nat)) := by
      rw [<- Array.getElem?_toList];have e2 : (cur.toList.take (ls.length * 1))[k]? = cur.toList[k]? := List.getElem?_take_of_lt (by omega);rw [<- e2, h4];unfold z6h;rw [List.getElem?_map, List.getD_eq_getElem?_getD, List.getElem?_eq_getElem hk];rfl
     simp [World.cell?, hc, e1]
theorem zbI {w : World} {base : Nat} {e : TypeId} {size n : Nat} {v : Value} {xs : List Value} (h : w.ownsRow base e size v n xs) : ∀ k, v.ownBlock = some k -> base <= k := by
 intro k hk;rcases h.2 with ⟨rfl, _⟩ | ⟨g, cap, cur, rfl, hg, _⟩
 · cases hk
 · have : g = k := by simpa [Value.ownBlock] using hk
   omega
theorem z6Q {w : World} {base : Nat} {e : TypeId} {v : Value} {ls : List Nat} (h : w.ownsRow base e 1 v ls.length (z6h ls)) :
 ∃ ao cap, v = .slice ao ls.length cap /\ (0 < ls.length -> ∃ g, ao = some ⟨g, 0, none⟩ /\ g < w.heap.size /\ ∀ k (hk : k < ls.length), w.cell? ⟨g, k, none⟩ = some (.int .i64 (ls.getD k 0 : Nat))) := by
 rcases zbz h with ⟨rfl, rfl⟩ | ⟨g, cap, rfl, _, hg, hc⟩
 · exact ⟨none, 0, rfl, fun h => by simp at h⟩
 · exact ⟨_, cap, rfl, fun _ => ⟨g, rfl, hg, hc⟩⟩
set_option maxRecDepth 100000 in
set_option maxHeartbeats 4000000 in
theorem z9n (r c L : Nat) (ao : Option Addr) (len cap : Nat) (xs : List Int) (w : World) (hr : r <= 64) (hc : c <= 64) (h : z0F w L ao xs) (hL : L <= 1099511627776) (hl : len = xs.length) (hs : xs.length = r * c) :
 Calls Tryz.prog 15 #[.agg #[.int .i64 (r : Int), .int .i64 (c : Int), .slice ao len cap]] w fun e w' => (∃ v t, e = .returned (.tuple #[v, .bool t]) /\ (t = true -> ∃ ls, Pvs r c (z0d xs r c) ls /\ w'.ownsRow w.heap.size 3 1 v ls.length (z6h ls)) /\ (t = false -> ¬ HF r c (z0d xs r c))) /\ Below w.heap.size w w' := by
 subst hl;have r1 := z00.new w #[.int .i64 (r : Int), .int .i64 (c : Int), .slice ao xs.length cap] 24;have hb : Below w.heap.size w (w.alloc (.cells #[.int .i64 (r : Int), .int .i64 (c : Int), .slice ao xs.length cap] 24)) := (Below.refl _ _).alloc (Nat.le_refl _) _;have hs2e : (w.alloc (.cells #[.int .i64 (r : Int), .int .i64 (c : Int), .slice ao xs.length cap] 24)).heap.size = w.heap.size + 1 := Array.size_push _;have HXS := Lib.hid (h.below hb);have HS := Lib.hid hs;have HLL := Lib.hid hL;have hxl : xs.length <= 4096 := by rw [hs]; exact Nat.mul_le_mul hr hc
 clear h hs hL;obtain ⟨i0, hi0, hz0, hz1, hz2⟩ := info_parts zbn;go_enter Tryz.func15, Tryz.ntmps15;go_wp2_with fail
 generalize w.alloc (.cells #[.int .i64 (r : Int), .int .i64 (c : Int), .slice ao xs.length cap] 24) = w2 at *;have hs2 : w.heap.size < w2.heap.size := r1.lt;have HS2 := Lib.hid hs2e; clear hs2e;have R1 := Lib.hid r1;have B2 := Lib.hid hb;clear r1 hb;go_wp2;go_loopw [4, 5] (fun v_ i_ wr => ∃ (i : Nat) (ls : List Nat), i <= r /\ i_ = .int .i64 (i : Int) /\ Hid (wr.ownsRow (w.heap.size + 1) 3 1 v_ ls.length (z6h ls)) /\ Hid (PV c (z0d xs r c) i ls) /\ Hid (Below w2.heap.size w2 wr)) (fun _ i_ _ => r - (intOf i_).toNat)
 case atStart => exact ⟨0, [], Nat.zero_le _, rfl, Lib.hid ⟨by simp [z6h], .inl ⟨rfl, rfl⟩⟩, Lib.hid (PV.start _ _), Lib.hid (Below.refl _ _)⟩
 case round =>
  obtain ⟨i, ls, hi, rfl, hOwn, hPV, hBl⟩ := hrel;have k0 := (R1.out.below hBl.out R1.out.lt).cell 0;have k1 := (R1.out.below hBl.out R1.out.lt).cell 1;have k2 := (R1.out.below hBl.out R1.out.lt).cell 2;simp only [List.getElem?_cons_zero, List.getElem?_cons_succ] at k0 k1 k2;by_cases hir : i < r
  · have hir1 : (i : Int) < (r : Int) := by omega
    clear k1 k2;have HBl0 := hBl;go_wp2;go_loopw [6] (fun j_ wq => ∃ (j : Nat), j <= c /\ j_ = .int .i64 (j : Int) /\ Hid (∀ b, b < j -> z0d xs r c i b = 0) /\ Hid (Below wr.heap.size wr wq)) (fun j_ _ => c - (intOf j_).toNat)
    case atStart => exact ⟨0, Nat.zero_le _, rfl, Lib.hid (fun b h => by omega), Lib.hid (Below.refl _ _)⟩
    case round =>
     obtain ⟨j, hj, rfl, hz, hBq⟩ := hrel;have hBw := hBl.out.trans (hBq.out.mono hBl.out.size);have k1 := (R1.out.below hBw R1.out.lt).cell 1;have k2 := (R1.out.below hBw R1.out.lt).cell 2;simp only [List.getElem?_cons_zero, List.getElem?_cons_succ] at k1 k2;have hLS := HXS.out.below hBw;have HBw := Lib.hid hBw; clear hBw;by_cases hjc : j < c
     · have hjc1 : (j : Int) < (c : Int) := by omega
       have hqx : i * c + j < xs.length := by rw [HS.out]; exact z2U hir hjc
       obtain ⟨P, hP⟩ : ∃ P, i * c = P := ⟨_, rfl⟩;have hw1 : IntKind.i64.wrap ((i : Int) * (c : Int)) = (P : Int) := by
        rw [<- Int.natCast_mul, hP]; exact wrap_small (by omega) (by omega)
       rw [hP] at hqx;have hE : z0d xs r c i j = xs[P + j]'hqx := by
        unfold z0d;rw [if_pos ⟨hir, hjc⟩, hP, List.getD_eq_getElem?_getD, List.getElem?_eq_getElem hqx]; rfl
       obtain ⟨q, hq⟩ : ∃ q, P + j = q := ⟨_, rfl⟩;have hw2 : IntKind.i64.wrap ((P : Int) + (j : Int)) = (q : Int) := by
        rw [<- Int.natCast_add, hq]; exact wrap_small (by omega) (by omega)
       subst hq;obtain ⟨q, hq⟩ : ∃ q, q = P + j := ⟨_, rfl⟩;obtain ⟨b, o, hao, hbb, hcl⟩ := hLS (by omega);subst hao;obtain ⟨p, c0, c1, hn⟩ := hcl (P + j) hqx;rw [<- hE] at hn;rw [<- hq] at c0 c1 hqx hw2;have hqx1 : (q : Int) < (xs.length : Int) := by omega
       have HE := Lib.hid (And.intro hP hq);clear hcl hLS hP hE hq;obtain ⟨x, hx⟩ : ∃ x, z0d xs r c i j = x := ⟨_, rfl⟩;rw [hx] at hn;obtain ⟨zs, hzs⟩ : ∃ zs, z0o x = zs := ⟨_, rfl⟩;have HSg : Hid (Calls Tryz.prog 45 #[.agg #[.bool p.1, .slice p.2.1 p.2.2.1 p.2.2.2]] wr fun e w' => e = .returned (.int .i64 zs) /\ Below wr.heap.size wr w') := Lib.hid (by rw [<- hzs]; exact z34 (av p) x L wr hn (by have := HLL.out; omega));have HX := Lib.hid hx;have HN := Lib.hid hn;clear hx hn;by_cases hx0 : x = 0
       · have t1 : (zs == 0) = true := by rw [<- hzs]; exact zb4 hx0
         have hz2 := Lib.hid (fun b' (h : b' < j + 1) => (by
          by_cases e : b' = j
          · subst e; rw [HX.out, hx0]
          · exact hz.out b' (by omega) : z0d xs r c i b' = 0))
         clear hzs hx0;go_wp2_with fail
         refine HSg.out.mono ?_;rintro e w5 ⟨rfl, hb5⟩;have HB5 := Lib.hid (hBq.out.trans (hb5.mono hBq.out.size));clear hb5;go_wp2;go_roundw
         case rel => exact ⟨j + 1, by omega, by go_num, hz2, HB5⟩
         case measure => simp [intOf]; omega
       · have t1 : (zs == 0) = false := by rw [<- hzs]; exact zs_ne hx0
         have HX0 := Lib.hid hx0;clear hzs hx0;go_wp2_with fail
         refine HSg.out.mono ?_;rintro e w5 ⟨rfl, hb5⟩;have HB5 := Lib.hid (hBq.out.trans (hb5.mono hBq.out.size));have HBW5 := Lib.hid (HBw.out.trans (hb5.mono HBw.out.size));have f1 := (R1.out.below HBW5.out R1.out.lt).cell 1;have f2 := (R1.out.below HBW5.out R1.out.lt).cell 2;simp only [List.getElem?_cons_zero, List.getElem?_cons_succ] at f1 f2;have d0 := (hb5.cell (p := ⟨b, o + q * 2, none⟩) hbb).trans c0;have d1 := (hb5.cell (p := ⟨b, o + q * 2 + 1, none⟩) hbb).trans c1;have hbb5 : b < w5.heap.size := Nat.lt_of_lt_of_le hbb hb5.size;have HN5 := Lib.hid (z03.below HN.out hb5);have hjn : ((j : Int) == (c : Int)) = false := by simp; omega
         have rP := z00.new w5 #[.bool p.1, .slice p.2.1 p.2.2.1 p.2.2.2] 45;have hb6 : Below w5.heap.size w5 (w5.alloc (.cells #[.bool p.1, .slice p.2.1 p.2.2.1 p.2.2.2] 45)) := (Below.refl _ _).alloc (Nat.le_refl _) _;have HIL : Hid (z8X c (z0d xs r c) i j) := Lib.hid ⟨by omega, hz.out, fun _ => by rw [HX.out]; exact HX0.out⟩;clear hb5 c0 c1 k1 k2 HSg HN hbb;go_wp2_with fail
         generalize w5.alloc (.cells #[.bool p.1, .slice p.2.1 p.2.2.1 p.2.2.2] 45) = w6 at *;obtain ⟨zs', hzs'⟩ : ∃ zs', z0o x = zs' := ⟨_, rfl⟩;have hsg := z34 (av p) x L w6 (z03.below HN5.out hb6) (by have := HLL.out; omega);rw [hzs'] at hsg;refine hsg.mono ?_;rintro e w7 ⟨rfl, hb7⟩;have RP := Lib.hid (rP.below hb7 rP.lt);have HB7 := Lib.hid (HB5.out.trans ((hb6.trans (hb7.mono hb6.size)).mono HB5.out.size));have HBW7 := Lib.hid (HBl0.out.trans (HB7.out.mono HBl0.out.size));have HBf := Lib.hid (B2.out.trans (HBW7.out.mono B2.out.size));have hs5 : w5.heap.size < w7.heap.size := RP.out.lt;have HNx7 := Lib.hid (z03.below (z03.below HN5.out hb6) hb7);have HOwn7 := Lib.hid (z1M hOwn.out HB7.out);clear hsg hb6 hb7 rP d0 d1 f1 f2 HB5 HBW5;by_cases hxn : x < 0
         · have t2 : decide (zs' < 0) = true := by rw [<- hzs']; unfold z0o; rw [if_pos hxn]; rfl
           have hno := Lib.hid (fun h : HF r c (z0d xs r c) => by have := (h.row hir HIL.out hjc hPV.out.fi).2.1; rw [HX.out] at this; omega : HF r c (z0d xs r c) -> False);clear hzs' hxn;go_wp2;go_ret2;exact ⟨⟨_, false, rfl, (fun h => by cases h), fun _ => hno.out⟩, HBf.out⟩
         · have t2 : decide (zs' < 0) = false := by rw [<- hzs']; unfold z0o; rw [if_neg hxn]; split <;> rfl
           have hxp : 0 < x := by have := HX0.out; omega
           have HXP := Lib.hid hxp;clear hzs' hxn hxp;obtain ⟨ao', cap', rfl, hcell⟩ := z6Q HOwn7.out;have HC := Lib.hid hcell; clear hcell;have p0 := RP.out.cell 0;have p1 := RP.out.cell 1;simp only [List.getElem?_cons_zero, List.getElem?_cons_succ] at p0 p1;have hlen : ls.length <= 64 := by rw [hPV.out.len]; omega
           by_cases hlast : z8v ls < (j : Int)
           · have HLA := Lib.hid hlast;have hnl : ls.length = 0 ∨ ∃ k, ls.length = k + 1 /\ ls.getD k 0 < j := by
              rcases Nat.eq_zero_or_pos ls.length with e | e
              · exact .inl e
              · refine .inr ⟨ls.length - 1, by omega, ?_⟩;unfold z8v at hlast;rw [if_neg (by omega)] at hlast;omega
             clear hlast;rcases hnl with hn0 | ⟨k, hn0, hk⟩
             · obtain rfl : ls = [] := List.eq_nil_of_length_eq_zero hn0;clear hn0 HC;go_wp2;go_loopw [9] (fun a_ wq => ∃ (a : Nat), a <= i /\ a_ = .int .i64 (a : Int) /\ Hid (∀ a', a' < a -> 0 <= z0d xs r c a' j /\ z0d xs r c a' j < x) /\ Hid (Below w7.heap.size w7 wq)) (fun a_ _ => i - (intOf a_).toNat)
               case atStart => exact ⟨0, Nat.zero_le _, rfl, Lib.hid (fun a' h => by omega), Lib.hid (Below.refl _ _)⟩
               case round =>
                obtain ⟨a, ha, rfl, hag, hBa⟩ := hrel;have hBw := HBW7.out.trans (hBa.out.mono HBW7.out.size);by_cases hai : a < i
                · have hai1 : (a : Int) < (i : Int) := by omega
                  have k1 := (R1.out.below hBw R1.out.lt).cell 1;have k2 := (R1.out.below hBw R1.out.lt).cell 2;simp only [List.getElem?_cons_zero, List.getElem?_cons_succ] at k1 k2;have hLS := HXS.out.below hBw;have HBw' := Lib.hid hBw; clear hBw;have har : a < r := by omega
                  have hqx' : a * c + j < xs.length := by rw [HS.out]; exact z2U har hjc
                  obtain ⟨P', hP'⟩ : ∃ P', a * c = P' := ⟨_, rfl⟩;have hv1 : IntKind.i64.wrap ((a : Int) * (c : Int)) = (P' : Int) := by
                   rw [<- Int.natCast_mul, hP']; exact wrap_small (by omega) (by omega)
                  rw [hP'] at hqx';have hE' : z0d xs r c a j = xs[P' + j]'hqx' := by
                   unfold z0d;rw [if_pos ⟨har, hjc⟩, hP', List.getD_eq_getElem?_getD, List.getElem?_eq_getElem hqx']; rfl
                  obtain ⟨q', hq'⟩ : ∃ q', q' = P' + j := ⟨_, rfl⟩;have hv2 : IntKind.i64.wrap ((P' : Int) + (j : Int)) = (q' : Int) := by
                   rw [<- Int.natCast_add, <- hq']; exact wrap_small (by omega) (by omega)
                  obtain ⟨b', o', he, hbb', hcl⟩ := hLS (by omega);have he2 : b = b' /\ o = o' := by injection he with h1; injection h1 with h2 h3; exact ⟨h2, h3⟩
                  rw [<- he2.1, <- he2.2] at hcl;rw [<- he2.1] at hbb';obtain ⟨p', c0, c1, hn⟩ := hcl (P' + j) hqx';rw [<- hE'] at hn;rw [<- hq'] at c0 c1 hqx';have hqx1' : (q' : Int) < (xs.length : Int) := by omega
                  have p0 := (RP.out.below hBa.out RP.out.lt).cell 0;have p1 := (RP.out.below hBa.out RP.out.lt).cell 1;have RPa := Lib.hid (RP.out.below hBa.out RP.out.lt);simp only [List.getElem?_cons_zero, List.getElem?_cons_succ] at p0 p1;clear hcl hLS hP' hE' hq' he he2 p0 p1;obtain ⟨y, hy⟩ : ∃ y, z0d xs r c a j = y := ⟨_, rfl⟩;rw [hy] at hn;have HY := Lib.hid hy;have HNy := Lib.hid hn;have rX := z00.new wr #[.bool p'.1, .slice p'.2.1 p'.2.2.1 p'.2.2.2] 45;have hb8 : Below wr.heap.size wr (wr.alloc (.cells #[.bool p'.1, .slice p'.2.1 p'.2.2.1 p'.2.2.2] 45)) := (Below.refl _ _).alloc (Nat.le_refl _) _;clear hy hn;go_wp2_with fail
                  generalize wr.alloc (.cells #[.bool p'.1, .slice p'.2.1 p'.2.2.1 p'.2.2.2] 45) = w8 at *;obtain ⟨ys, hys⟩ : ∃ ys, z0o y = ys := ⟨_, rfl⟩;have hsg := z34 (av p') y L w8 (z03.below HNy.out hb8) (by have := HLL.out; omega);rw [hys] at hsg;refine hsg.mono ?_;rintro e w9 ⟨rfl, hb9⟩;have RX := Lib.hid (rX.below hb9 rX.lt);have hb89 := hb8.trans (hb9.mono hb8.size);have HB9 := Lib.hid (hBa.out.trans (hb89.mono hBa.out.size));have HBf9 := Lib.hid (HBf.out.trans (HB9.out.mono HBf.out.size));have hs9 : wr.heap.size < w9.heap.size := RX.out.lt;have x0 := RX.out.cell 0;have x1 := RX.out.cell 1;have p0 := (RPa.out.below hb89 RPa.out.lt).cell 0;have p1 := (RPa.out.below hb89 RPa.out.lt).cell 1;simp only [List.getElem?_cons_zero, List.getElem?_cons_succ] at x0 x1 p0 p1;have HY9 := Lib.hid (z03.below HNy.out hb89);have HX9 := Lib.hid (z03.below (z03.below HNx7.out hBa.out) hb89);clear hsg hb8 hb9 hb89 rX c0 c1 k1 k2 hbb';by_cases hyn : y < 0
                  · have t8 : decide (ys < 0) = true := by rw [<- hys]; unfold z0o; rw [if_pos hyn]; rfl
                    have hno := Lib.hid (fun h : HF r c (z0d xs r c) => by have := (h.row hir HIL.out hjc hPV.out.fi).2.2 a hai; rw [HY.out] at this; omega : HF r c (z0d xs r c) -> False);clear hys hyn;go_wp2;go_ret2;exact ⟨⟨_, false, rfl, (fun h => by cases h), fun _ => hno.out⟩, HBf9.out⟩
                  · have t8 : decide (ys < 0) = false := by rw [<- hys]; unfold z0o; rw [if_neg hyn]; split <;> rfl
                    obtain ⟨zc, hzc⟩ : ∃ zc, z5R y x = zc := ⟨_, rfl⟩;have hcm := zaD (av p') (av p) y x L w9 HY9.out HX9.out HLL.out;rw [hzc] at hcm;have HCM := Lib.hid hcm;have HYN := Lib.hid hyn;clear hys hyn hcm;go_wp2_with fail
                    refine HCM.out.mono ?_;rintro e w10 ⟨rfl, hb10⟩;have HB10 := Lib.hid (HB9.out.trans (hb10.mono HB9.out.size));have HBf10 := Lib.hid (HBf9.out.trans (hb10.mono HBf9.out.size));clear hb10 x0 x1 p0 p1;by_cases hyx : y < x
                    · have t9 : decide (0 <= zc) = false := by rw [<- hzc]; unfold z5R; rw [if_pos hyx]; rfl
                      have HYX := Lib.hid hyx;clear hzc hyx;go_wp2;go_roundw
                      case rel => exact ⟨a + 1, by omega, by go_num, Lib.hid (fun a' h => by
                       by_cases e : a' = a
                       · subst e; rw [HY.out]; exact ⟨by have := HYN.out; omega, HYX.out⟩
                       · exact hag.out a' (by omega)), HB10⟩
                      case measure => simp [intOf]; omega
                    · have t9 : decide (0 <= zc) = true := by rw [<- hzc]; unfold z5R; rw [if_neg hyx]; split <;> rfl
                      have hno := Lib.hid (fun h : HF r c (z0d xs r c) => by have := (h.row hir HIL.out hjc hPV.out.fi).2.2 a hai; rw [HY.out, HX.out] at this; omega : HF r c (z0d xs r c) -> False);clear hzc hyx;go_wp2;go_ret2;exact ⟨⟨_, false, rfl, (fun h => by cases h), fun _ => hno.out⟩, HBf10.out⟩
                · obtain rfl : a = i := by omega
                  have hOwn9 := z1M HOwn7.out hBa.out;have HPN := Lib.hid (hPV.out.next HIL.out hjc HLA.out (by rw [HX.out]; exact HXP.out) (fun a' h => by rw [HX.out]; exact hag.out a' h));have HBo := Lib.hid hBw;have hsz : w.heap.size + 1 <= wr.heap.size := by have := hBw.size; omega
                  clear hBw;go_wp2_with (at_builtin; refine wpList_append_own _ rfl _ _ 33 rfl (w.heap.size + 1) 3 i0 (.int .i64 0) 1 8 Tryz.underlying33 hi0 hz0 hz1 hz2 rfl (by decide) _ _ _ rfl (hOwn9.alloc _) ⟨wr.heap.size, 0, none⟩ 1 1 [.int .i64 (j : Int)] rfl rfl (cell_one_new _ _ _) (by simp [Value.oneCell']) (by unfold maxLen; omega) (by omega) (by simp; omega) ?_; intro v' w11 hown' hgrow' hnil')
                  have hb12 := Lib.hid (Below.grown (HBo.out.alloc HBo.out.size _) hgrow' (HBo.out.alloc HBo.out.size _).size (fun k hk => by have h1 := zbI hOwn9 k hk; have h2 := HS2.out; omega));have hown'' := Lib.hid hown';clear hown' hgrow' hnil';go_roundw
                  case rel => exact ⟨a + 1, _ ++ [j], by omega, by go_num, Lib.hid (by have h9 := hown''.out; simpa [z6h] using h9), HPN, hb12⟩
                  case measure => simp [intOf]; omega
             · obtain ⟨g, rfl, hg, hcl⟩ := HC.out (by omega);have l0 := hcl k (by omega);obtain ⟨yl, hyl⟩ : ∃ y, ls.getD k 0 = y := ⟨_, rfl⟩;rw [hyl] at l0 hk;have t4 : decide ((0 : Int) < (ls.length : Int)) = true := decide_eq_true (by omega);have t5 : IntKind.i64.wrap ((ls.length : Int) - 1) = (k : Int) := by rw [hn0]; rw [show ((k + 1 : Nat) : Int) - 1 = (k : Int) by omega]; exact wrap_small (by omega) (by omega)
               have t6 : decide ((j : Int) <= (yl : Int)) = false := by simp; omega
               have t7 : (k : Int) < (ls.length : Int) := by omega
               have t6' : decide (j <= yl) = false := decide_eq_false (by omega);clear hn0 hcl hyl HC;go_wp2;go_loopw [9] (fun a_ wq => ∃ (a : Nat), a <= i /\ a_ = .int .i64 (a : Int) /\ Hid (∀ a', a' < a -> 0 <= z0d xs r c a' j /\ z0d xs r c a' j < x) /\ Hid (Below w7.heap.size w7 wq)) (fun a_ _ => i - (intOf a_).toNat)
               case atStart => exact ⟨0, Nat.zero_le _, rfl, Lib.hid (fun a' h => by omega), Lib.hid (Below.refl _ _)⟩
               case round =>
                obtain ⟨a, ha, rfl, hag, hBa⟩ := hrel;have hBw := HBW7.out.trans (hBa.out.mono HBW7.out.size);by_cases hai : a < i
                · have hai1 : (a : Int) < (i : Int) := by omega
                  have k1 := (R1.out.below hBw R1.out.lt).cell 1;have k2 := (R1.out.below hBw R1.out.lt).cell 2;simp only [List.getElem?_cons_zero, List.getElem?_cons_succ] at k1 k2;have hLS := HXS.out.below hBw;have HBw' := Lib.hid hBw; clear hBw;have har : a < r := by omega
                  have hqx' : a * c + j < xs.length := by rw [HS.out]; exact z2U har hjc
                  obtain ⟨P', hP'⟩ : ∃ P', a * c = P' := ⟨_, rfl⟩;have hv1 : IntKind.i64.wrap ((a : Int) * (c : Int)) = (P' : Int) := by
                   rw [<- Int.natCast_mul, hP']; exact wrap_small (by omega) (by omega)
                  rw [hP'] at hqx';have hE' : z0d xs r c a j = xs[P' + j]'hqx' := by
                   unfold z0d;rw [if_pos ⟨har, hjc⟩, hP', List.getD_eq_getElem?_getD, List.getElem?_eq_getElem hqx']; rfl
                  obtain ⟨q', hq'⟩ : ∃ q', q' = P' + j := ⟨_, rfl⟩;have hv2 : IntKind.i64.wrap ((P' : Int) + (j : Int)) = (q' : Int) := by
                   rw [<- Int.natCast_add, <- hq']; exact wrap_small (by omega) (by omega)
                  obtain ⟨b', o', he, hbb', hcl⟩ := hLS (by omega);have he2 : b = b' /\ o = o' := by injection he with h1; injection h1 with h2 h3; exact ⟨h2, h3⟩
                  rw [<- he2.1, <- he2.2] at hcl;rw [<- he2.1] at hbb';obtain ⟨p', c0, c1, hn⟩ := hcl (P' + j) hqx';rw [<- hE'] at hn;rw [<- hq'] at c0 c1 hqx';have hqx1' : (q' : Int) < (xs.length : Int) := by omega
                  have p0 := (RP.out.below hBa.out RP.out.lt).cell 0;have p1 := (RP.out.below hBa.out RP.out.lt).cell 1;have RPa := Lib.hid (RP.out.below hBa.out RP.out.lt);simp only [List.getElem?_cons_zero, List.getElem?_cons_succ] at p0 p1;clear hcl hLS hP' hE' hq' he he2 p0 p1;obtain ⟨y, hy⟩ : ∃ y, z0d xs r c a j = y := ⟨_, rfl⟩;rw [hy] at hn;have HY := Lib.hid hy;have HNy := Lib.hid hn;have rX := z00.new wr #[.bool p'.1, .slice p'.2.1 p'.2.2.1 p'.2.2.2] 45;have hb8 : Below wr.heap.size wr (wr.alloc (.cells #[.bool p'.1, .slice p'.2.1 p'.2.2.1 p'.2.2.2] 45)) := (Below.refl _ _).alloc (Nat.le_refl _) _;clear hy hn;go_wp2_with fail
                  generalize wr.alloc (.cells #[.bool p'.1, .slice p'.2.1 p'.2.2.1 p'.2.2.2] 45) = w8 at *;obtain ⟨ys, hys⟩ : ∃ ys, z0o y = ys := ⟨_, rfl⟩;have hsg := z34 (av p') y L w8 (z03.below HNy.out hb8) (by have := HLL.out; omega);rw [hys] at hsg;refine hsg.mono ?_;rintro e w9 ⟨rfl, hb9⟩;have RX := Lib.hid (rX.below hb9 rX.lt);have hb89 := hb8.trans (hb9.mono hb8.size);have HB9 := Lib.hid (hBa.out.trans (hb89.mono hBa.out.size));have HBf9 := Lib.hid (HBf.out.trans (HB9.out.mono HBf.out.size));have hs9 : wr.heap.size < w9.heap.size := RX.out.lt;have x0 := RX.out.cell 0;have x1 := RX.out.cell 1;have p0 := (RPa.out.below hb89 RPa.out.lt).cell 0;have p1 := (RPa.out.below hb89 RPa.out.lt).cell 1;simp only [List.getElem?_cons_zero, List.getElem?_cons_succ] at x0 x1 p0 p1;have HY9 := Lib.hid (z03.below HNy.out hb89);have HX9 := Lib.hid (z03.below (z03.below HNx7.out hBa.out) hb89);clear hsg hb8 hb9 hb89 rX c0 c1 k1 k2 hbb';by_cases hyn : y < 0
                  · have t8 : decide (ys < 0) = true := by rw [<- hys]; unfold z0o; rw [if_pos hyn]; rfl
                    have hno := Lib.hid (fun h : HF r c (z0d xs r c) => by have := (h.row hir HIL.out hjc hPV.out.fi).2.2 a hai; rw [HY.out] at this; omega : HF r c (z0d xs r c) -> False);clear hys hyn;go_wp2;go_ret2;exact ⟨⟨_, false, rfl, (fun h => by cases h), fun _ => hno.out⟩, HBf9.out⟩
                  · have t8 : decide (ys < 0) = false := by rw [<- hys]; unfold z0o; rw [if_neg hyn]; split <;> rfl
                    obtain ⟨zc, hzc⟩ : ∃ zc, z5R y x = zc := ⟨_, rfl⟩;have hcm := zaD (av p') (av p) y x L w9 HY9.out HX9.out HLL.out;rw [hzc] at hcm;have HCM := Lib.hid hcm;have HYN := Lib.hid hyn;clear hys hyn hcm;go_wp2_with fail
                    refine HCM.out.mono ?_;rintro e w10 ⟨rfl, hb10⟩;have HB10 := Lib.hid (HB9.out.trans (hb10.mono HB9.out.size));have HBf10 := Lib.hid (HBf9.out.trans (hb10.mono HBf9.out.size));clear hb10 x0 x1 p0 p1;by_cases hyx : y < x
                    · have t9 : decide (0 <= zc) = false := by rw [<- hzc]; unfold z5R; rw [if_pos hyx]; rfl
                      have HYX := Lib.hid hyx;clear hzc hyx;go_wp2;go_roundw
                      case rel => exact ⟨a + 1, by omega, by go_num, Lib.hid (fun a' h => by
                       by_cases e : a' = a
                       · subst e; rw [HY.out]; exact ⟨by have := HYN.out; omega, HYX.out⟩
                       · exact hag.out a' (by omega)), HB10⟩
                      case measure => simp [intOf]; omega
                    · have t9 : decide (0 <= zc) = true := by rw [<- hzc]; unfold z5R; rw [if_neg hyx]; split <;> rfl
                      have hno := Lib.hid (fun h : HF r c (z0d xs r c) => by have := (h.row hir HIL.out hjc hPV.out.fi).2.2 a hai; rw [HY.out, HX.out] at this; omega : HF r c (z0d xs r c) -> False);clear hzc hyx;go_wp2;go_ret2;exact ⟨⟨_, false, rfl, (fun h => by cases h), fun _ => hno.out⟩, HBf10.out⟩
                · obtain rfl : a = i := by omega
                  have hOwn9 := z1M HOwn7.out hBa.out;have HPN := Lib.hid (hPV.out.next HIL.out hjc HLA.out (by rw [HX.out]; exact HXP.out) (fun a' h => by rw [HX.out]; exact hag.out a' h));have HBo := Lib.hid hBw;have hsz : w.heap.size + 1 <= wr.heap.size := by have := hBw.size; omega
                  clear hBw;go_wp2_with (at_builtin; refine wpList_append_own _ rfl _ _ 33 rfl (w.heap.size + 1) 3 i0 (.int .i64 0) 1 8 Tryz.underlying33 hi0 hz0 hz1 hz2 rfl (by decide) _ _ _ rfl (hOwn9.alloc _) ⟨wr.heap.size, 0, none⟩ 1 1 [.int .i64 (j : Int)] rfl rfl (cell_one_new _ _ _) (by simp [Value.oneCell']) (by unfold maxLen; omega) (by omega) (by simp; omega) ?_; intro v' w11 hown' hgrow' hnil')
                  have hb12 := Lib.hid (Below.grown (HBo.out.alloc HBo.out.size _) hgrow' (HBo.out.alloc HBo.out.size _).size (fun k hk => by have h1 := zbI hOwn9 k hk; have h2 := HS2.out; omega));have hown'' := Lib.hid hown';clear hown' hgrow' hnil';go_roundw
                  case rel => exact ⟨a + 1, _ ++ [j], by omega, by go_num, Lib.hid (by have h9 := hown''.out; simpa [z6h] using h9), HPN, hb12⟩
                  case measure => simp [intOf]; omega
           · have hno := Lib.hid (fun h : HF r c (z0d xs r c) => by have := (h.row hir HIL.out hjc hPV.out.fi).1; omega : HF r c (z0d xs r c) -> False);obtain ⟨k, hn0, hk⟩ : ∃ k, ls.length = k + 1 /\ j <= ls.getD k 0 := by
              unfold z8v at hlast;by_cases e : ls.length = 0
              · rw [if_pos e] at hlast; omega
              · rw [if_neg e] at hlast; exact ⟨ls.length - 1, by omega, by omega⟩
             obtain ⟨g, rfl, hg, hcl⟩ := HC.out (by omega);have l0 := hcl k (by omega);obtain ⟨y, hy⟩ : ∃ y, ls.getD k 0 = y := ⟨_, rfl⟩;rw [hy] at l0 hk;have HN0 := Lib.hid (And.intro hn0 hy);obtain ⟨n, hn⟩ : ∃ n, ls.length = n := ⟨_, rfl⟩;clear hlast hcl hy HC;have t4 : decide ((0 : Int) < (ls.length : Int)) = true := decide_eq_true (by omega);have t5 : IntKind.i64.wrap ((ls.length : Int) - 1) = (k : Int) := by rw [hn0]; rw [show ((k + 1 : Nat) : Int) - 1 = (k : Int) by omega]; exact wrap_small (by omega) (by omega)
             have t6 : decide ((j : Int) <= (y : Int)) = true := by simpa using hk
             have t7 : (k : Int) < (ls.length : Int) := by omega
             clear hn hn0;go_wp2;go_ret2;exact ⟨⟨_, false, rfl, (fun h => by cases h), fun _ => hno.out⟩, HBf.out⟩
     · obtain rfl : j = c := by omega
       obtain ⟨P, hP⟩ : ∃ P, i * j = P := ⟨_, rfl⟩;have hPx : P <= xs.length := by rw [HS.out, <- hP]; exact Nat.mul_le_mul_right _ hi
       have hw1 : IntKind.i64.wrap ((i : Int) * (j : Int)) = (P : Int) := by
        rw [<- Int.natCast_mul, hP]; exact wrap_small (by omega) (by omega)
       have HP := Lib.hid hP;have hj0 : ((j : Int) == (j : Int)) = true := by simp
       have hrow0 : ∀ b, z0d xs r j i b = 0 := fun b => by
        by_cases e : b < j
        · exact hz.out b e
        · unfold z0d; rw [if_neg (by omega)]
       have HR0 := Lib.hid hrow0;have HOw := Lib.hid (z1M hOwn.out hBq.out);clear hP hrow0;go_wp2;go_loopw [7] (fun q_ wq => ∃ (q : Nat), P <= q /\ q <= xs.length /\ q_ = .int .i64 (q : Int) /\ Hid (∀ u, P <= u -> u < q -> xs.getD u 0 = 0) /\ Hid (Below wr.heap.size wr wq)) (fun q_ _ => xs.length - (intOf q_).toNat)
       case atStart => exact ⟨P, Nat.le_refl _, hPx, rfl, Lib.hid (fun u h1 h2 => by omega), Lib.hid (Below.refl _ _)⟩
       case round =>
        obtain ⟨q, hPq, hqx, rfl, hzq, hBa⟩ := hrel;have hBw := HBw.out.trans (hBa.out.mono HBw.out.size);have k2 := (R1.out.below hBw R1.out.lt).cell 2;simp only [List.getElem?_cons_zero, List.getElem?_cons_succ] at k2;have HBf := Lib.hid (B2.out.trans (hBw.mono B2.out.size));by_cases hqn : q < xs.length
        · have hqn1 : (q : Int) < (xs.length : Int) := by omega
          have hLS := HXS.out.below hBw;obtain ⟨b, o, hao, hbb, hcl⟩ := hLS (by omega);subst hao;obtain ⟨p, c0, c1, hn⟩ := hcl q hqn;obtain ⟨x, hx⟩ : ∃ x, xs[q] = x := ⟨_, rfl⟩;rw [hx] at hn;have hxd : xs.getD q 0 = x := by rw [List.getD_eq_getElem?_getD, List.getElem?_eq_getElem hqn, <- hx]; rfl
          have HX := Lib.hid hxd;obtain ⟨zs, hzs⟩ : ∃ zs, z0o x = zs := ⟨_, rfl⟩;have hsg := z34 (av p) x L wr hn (by have := HLL.out; omega);rw [hzs] at hsg;have HSg : Hid (Calls Tryz.prog 45 #[.agg #[.bool p.1, .slice p.2.1 p.2.2.1 p.2.2.2]] wr fun e w' => e = .returned (.int .i64 zs) /\ Below wr.heap.size wr w') := Lib.hid hsg;clear hcl hLS hn hx hxd hsg;by_cases hx0 : x = 0
          · have t1 : (zs != 0) = false := by rw [bne, <- hzs, zb4 hx0]; rfl
            have HX0 := Lib.hid hx0;clear hzs hx0;go_wp2_with fail
            refine HSg.out.mono ?_;rintro e w5 ⟨rfl, hb5⟩;have HB5 := Lib.hid (hBa.out.trans (hb5.mono hBa.out.size));clear hb5;go_wp2;go_roundw
            case rel => exact ⟨q + 1, by omega, by omega, by go_num, Lib.hid (fun u h1 h2 => by
             by_cases e : u = q
             · subst e; rw [HX.out]; exact HX0.out
             · exact hzq.out u h1 (by omega)), HB5⟩
            case measure => simp [intOf]; omega
          · have t1 : (zs != 0) = true := by rw [bne, <- hzs, zs_ne hx0]; rfl
            have hno := Lib.hid (fun h : HF r j (z0d xs r j) => zdE HS.out hqn (by rw [HX.out]; exact hx0) (h.z7u hir HR0.out) (by rw [HP.out]; exact hPq) : HF r j (z0d xs r j) -> False);clear hzs hx0;go_wp2_with fail
            refine HSg.out.mono ?_;rintro e w5 ⟨rfl, hb5⟩;have HB5 := Lib.hid (HBf.out.trans (hb5.mono HBf.out.size));clear hb5;go_wp2;go_ret2;exact ⟨⟨_, false, rfl, (fun h => by cases h), fun _ => hno.out⟩, HB5.out⟩
        · obtain rfl : q = xs.length := by omega
          have HF0 : Hid (Pvs r j (z0d xs r j) ls) := Lib.hid ⟨i, hi, hPV.out, zbm (r := r) (by rw [HP.out]; exact hzq.out) HS.out⟩;have HOw2 := Lib.hid (z1M HOw.out hBa.out);go_wp2;go_ret2;exact ⟨⟨_, true, rfl, fun _ => ⟨ls, HF0.out, World.ownsRow.mono HOw2.out (Nat.le_succ _)⟩, fun h => by cases h⟩, HBf.out⟩
  · obtain rfl : i = r := by omega
    have HF0 : Hid (Pvs i c (z0d xs i c) ls) := Lib.hid ⟨i, Nat.le_refl _, hPV.out, fun a h1 h2 => by omega⟩;go_wp2;go_ret2;exact ⟨⟨_, true, rfl, fun _ => ⟨ls, HF0.out, World.ownsRow.mono hOwn.out (Nat.le_succ _)⟩, fun h => by cases h⟩, B2.out.trans (hBl.out.mono B2.out.size)⟩
theorem z0F.up {w : World} {L L' : Nat} {ao : Option Addr} {xs : List Int} (h : z0F w L ao xs) (hL : L <= L') : z0F w L' ao xs := fun hl => by
 obtain ⟨b, o, e, hlt, hc⟩ := h hl;exact ⟨b, o, e, hlt, fun i hi => by obtain ⟨p, h0, h1, hn⟩ := hc i hi; exact ⟨p, h0, h1, hn.mono hL⟩⟩
end Go.Proofs.YtknkkceioockjaaGreat
namespace Go.Proofs.YtknkkceioockjaaGreat
end Go.Proofs.YtknkkceioockjaaGreat
namespace Go.Proofs.YtknkkceioockjaaGreat
open Go.RowKit
theorem Pvs.len {r c : Nat} {E : Nat -> Nat -> Int} {ls : List Nat} (h : Pvs r c E ls) : ls.length <= r := by
 obtain ⟨i, hi, hp, _⟩ := h;rw [hp.len]; exact hi
theorem Pvs.ech {r c : Nat} {E : Nat -> Nat -> Int} {ls : List Nat} (h : Pvs r c E ls) : z1a ls.length c E (fun a => ls.getD a 0) := by
 obtain ⟨i, hi, hp, _⟩ := h;rw [hp.len]; exact hp.z1y
theorem z9Y {xs : List Int} {k : Nat} (hk : k < xs.length) (x : Int) (b : Nat) : (xs.set k x).getD b 0 = if b = k then x else xs.getD b 0 := by
 rw [List.getD_eq_getElem?_getD, List.getD_eq_getElem?_getD, List.getElem?_set];by_cases e : b = k
 · subst e; simp [hk]
 · rw [if_neg (fun h => e h.symm), if_neg e]
def zab (w : World) (ao : Option Addr) (ls : List Nat) : Prop := 0 < ls.length -> ∃ g, ao = some ⟨g, 0, none⟩ /\ g < w.heap.size /\ ∀ k (_ : k < ls.length), w.cell? ⟨g, k, none⟩ = some (.int .i64 (ls.getD k 0 : Nat))
theorem zab.below {w w' : World} {ao : Option Addr} {ls : List Nat} (h : zab w ao ls) (hb : Below w.heap.size w w') : zab w' ao ls := fun hl => by
 obtain ⟨g, e, hg, hc⟩ := h hl;exact ⟨g, e, Nat.lt_of_lt_of_le hg hb.size, fun k hk => (hb.cell (p := ⟨g, k, none⟩) hg).trans (hc k hk)⟩
theorem z0j {P : Program} {ops : Array Oper} {Q : Exit -> Act -> World -> Prop} {i : Nat} {o : Oper} {K : Act -> World -> Prop} {a : Act} {w : World} (ho : ops[i]? = some o) (hw : Region.wanted o (yielded ops a.tmps) = true)
 (h : ∀ K' : Act -> World -> Prop, (∀ a w, K a w -> K' a w) -> Oper.wp P o a w K' Q) : wpOp P ops Q i K a w :=
 wpOp_step ho (fun K' hK => by rw [if_pos hw]; exact h K' hK)
set_option maxRecDepth 100000 in
set_option maxHeartbeats 8000000 in
theorem zbk (r c m mv : Nat) (ao : Option Addr) (len cap : Nat) (xs : List Int) (al : Option Addr) (kl : Nat) (ls : List Nat) (az : Option Addr) (kz : Nat) (zs : List Int) (w : World) (hr : r <= 64) (hc : c <= 64) (h : z0F w m ao xs) (hl : len = xs.length) (hs : xs.length = r * c) (hm : m <= 549755813888)
 (hls : zab w al ls) (hlr : ls.length <= r) (hlc : ∀ k, k < ls.length -> ls.getD k 0 < c) (hz : z0F w mv az zs) (hzl : zs.length = c) (hmv : mv <= 549755813888)
 (hok : ∀ k, k < ls.length -> 0 <= zs.getD (ls.getD k 0) 0 /\ zs.getD (ls.getD k 0) 0 < z0d xs r c k (ls.getD k 0)) :
 Calls Tryz.prog 29 #[.agg #[.int .i64 (r : Int), .int .i64 (c : Int), .slice ao len cap], .slice al ls.length kl, .slice az c kz] w fun e w' => e = .returned (.bool true) /\ Below w.heap.size w w' := by
 subst hl;have HXX := Lib.hid h;have HZZ := Lib.hid hz;have HNN := Lib.hid hls;have HS := Lib.hid hs;have HZL := Lib.hid hzl;have HOK := Lib.hid (And.intro hlc hok);have r1 := z00.new w #[.int .i64 (r : Int), .int .i64 (c : Int), .slice ao xs.length cap] 24;have hb : Below w.heap.size w (w.alloc (.cells #[.int .i64 (r : Int), .int .i64 (c : Int), .slice ao xs.length cap] 24)) := (Below.refl _ _).alloc (Nat.le_refl _) _;clear h hz hls hs hzl hlc hok;go_enter Tryz.func29, Tryz.ntmps29;go_wp2;generalize w.alloc (.cells #[.int .i64 (r : Int), .int .i64 (c : Int), .slice ao xs.length cap] 24) = w1 at *;have HA := Lib.hid r1;have HB := Lib.hid hb;have hal : w.heap.size < w1.heap.size := r1.lt;clear r1 hb;go_loopw [7] (fun i_ wr => ∃ (i : Nat), i <= ls.length /\ i_ = .int .i64 (i : Int) /\ Hid (Below w1.heap.size w1 wr)) (fun i_ _ => ls.length - (intOf i_).toNat)
 case atStart => exact ⟨0, Nat.zero_le _, rfl, Lib.hid (Below.refl _ _)⟩
 case round =>
  obtain ⟨i, hi, rfl, hB⟩ := hrel;by_cases hin : i < ls.length
  · have hin1 : (i : Int) < (ls.length : Int) := by omega
    have hir : i < r := by omega
    obtain ⟨j, hj⟩ : ∃ j, ls.getD i 0 = j := ⟨_, rfl⟩;have hjc : j < c := by rw [<- hj]; exact HOK.out.1 i hin
    have hok := HOK.out.2 i hin;rw [hj] at hok;have hBw := HB.out.trans (hB.out.mono HB.out.size);obtain ⟨g, hag, hg, hgc⟩ := HNN.out (by omega);subst hag;have d0 : w.cell? ⟨g, i, none⟩ = some (.int .i64 (j : Int)) := by rw [hgc i hin, hj]
    have hjz : j < zs.length := by rw [HZL.out]; exact hjc
    obtain ⟨bz, oz, haz, hbz, hzc⟩ := HZZ.out (by omega);subst haz;obtain ⟨pz, z0, z1, hnz⟩ := hzc j hjz;have hQ := z2U hir hjc;have hrc : r * c <= 4096 := Nat.mul_le_mul hr hc;obtain ⟨bx, ox, hao, hbx, hxc⟩ := HXX.out (by rw [HS.out]; omega);subst hao;obtain ⟨px, x0, x1, hnx⟩ := hxc (i * c + j) (by rw [HS.out]; exact hQ);have hxe : xs[i * c + j]'(by rw [HS.out]; exact hQ) = z0d xs r c i j := by rw [z0Z hir hjc, List.getD_eq_getElem?_getD, List.getElem?_eq_getElem (by rw [HS.out]; exact hQ)]; rfl
    have hze : zs[j] = zs.getD j 0 := by rw [List.getD_eq_getElem?_getD, List.getElem?_eq_getElem hjz]; rfl
    obtain ⟨P, hPe⟩ : ∃ P, i * c = P := ⟨_, rfl⟩;have hw1 : IntKind.i64.wrap ((i : Int) * (c : Int)) = (P : Int) := by
     rw [<- Int.natCast_mul, hPe]; exact wrap_small (by omega) (by omega)
    rw [hxe] at hnx;rw [hze] at hnz;rw [hPe] at x0 x1 hQ;obtain ⟨Q1, hQ1⟩ : ∃ q, P + j = q := ⟨_, rfl⟩;rw [hQ1] at x0 x1 hQ;have hv1 : IntKind.i64.wrap ((P : Int) + (j : Int)) = (Q1 : Int) := by
     rw [<- Int.natCast_add, hQ1]; exact wrap_small (by omega) (by omega)
    have hxl1 : (Q1 : Int) < (xs.length : Int) := by rw [HS.out]; omega
    obtain ⟨zz, hzz⟩ : ∃ u, zs.getD j 0 = u := ⟨_, rfl⟩;obtain ⟨xx, hxx⟩ : ∃ x, z0d xs r c i j = x := ⟨_, rfl⟩;rw [hzz, hxx] at hok;rw [hzz] at hnz;rw [hxx] at hnx;obtain ⟨sz, hsz⟩ : ∃ s, z0o zz = s := ⟨_, rfl⟩;have t1 : decide (sz < 0) = false := by rw [<- hsz]; unfold z0o; rw [if_neg (by omega)]; split <;> rfl
    obtain ⟨sc, hsc⟩ : ∃ s, z5R zz xx = s := ⟨_, rfl⟩;have t2 : decide (0 <= sc) = false := by rw [<- hsc]; unfold z5R; rw [if_pos hok.2]; rfl
    have HSG := Lib.hid (And.intro hsz (And.intro hsc (And.intro t1 t2)));have hjc1 : (j : Int) < (c : Int) := by omega
    have hb2 : Below wr.heap.size wr (wr.alloc (.cells #[.bool pz.1, .slice pz.2.1 pz.2.2.1 pz.2.2.2] 45)) := (Below.refl _ _).alloc (Nat.le_refl _) _;have r2 := z00.new wr #[.bool pz.1, .slice pz.2.1 pz.2.2.1 pz.2.2.2] 45;have d1 := (hBw.cell (p := ⟨g, i, none⟩) hg).trans d0;have c0 := (hBw.cell (p := ⟨bz, oz + j * 2, none⟩) hbz).trans z0;have c1 := (hBw.cell (p := ⟨bz, oz + j * 2 + 1, none⟩) hbz).trans z1;have hgl : g < wr.heap.size := Nat.lt_of_lt_of_le hg hBw.size;have hBx := Lib.hid hBw;clear hBw hj hok hxe hze hPe hQ1 hzz hxx hsz hsc d0 z0 z1 hzc hxc hgc t1 t2;go_wp2;clear c0 c1;generalize wr.alloc (.cells #[.bool pz.1, .slice pz.2.1 pz.2.2.1 pz.2.2.2] 45) = w2 at *;have HB2 := Lib.hid (hB.out.trans (hb2.mono hB.out.size));have HBW := Lib.hid (hBx.out.trans (hb2.mono hBx.out.size));have A2 := z00.below HA.out HB2.out HA.out.lt;have ca1 : w2.cell? ⟨w.heap.size, 1, none⟩ = some (.int .i64 (c : Int)) := A2.cell 1;have ca2 : w2.cell? ⟨w.heap.size, 2, none⟩ = some (.slice (some ⟨bx, ox, none⟩) xs.length cap) := A2.cell 2;have cz0 : w2.cell? ⟨wr.heap.size, 0, none⟩ = some (.bool pz.1) := r2.cell 0;have cz1 : w2.cell? ⟨wr.heap.size, 1, none⟩ = some (.slice pz.2.1 pz.2.2.1 pz.2.2.2) := r2.cell 1;have cg : w2.cell? ⟨g, i, none⟩ = some (.int .i64 (j : Int)) := (hb2.cell (p := ⟨g, i, none⟩) hgl).trans d1;have cx0 := (HBW.out.cell (p := ⟨bx, ox + Q1 * 2, none⟩) hbx).trans x0;have cx1 := (HBW.out.cell (p := ⟨bx, ox + Q1 * 2 + 1, none⟩) hbx).trans x1;have NZ := Lib.hid ((hnz.below HBW.out).mono (L' := 549755813888) hmv);have NX := Lib.hid ((hnx.below HBW.out).mono (L' := 549755813888) hm);have hs9 := HB2.out.size;have hbx9 : bx < w2.heap.size := Nat.lt_of_lt_of_le hbx HBW.out.size;have hg9 : g < w2.heap.size := Nat.lt_of_lt_of_le hg HBW.out.size;have hr9 : wr.heap.size < w2.heap.size := r2.lt;have t1 : decide (sz < 0) = false := HSG.out.2.2.1;have t2 : decide (0 <= sc) = false := HSG.out.2.2.2;clear hnz hnx A2 r2 hb2 d1 x0 x1 hB;refine z0S ⟨21, fun q_ => [22, 23, 24, 25, 26, 27, 28, 29, 30, 31, 32, 33, 34, 35, 36, 37, 38, 39, 40, 41, 42].getD q_ 0,
     fun q_ => [.val (.agg #[.bool pz.1, .slice pz.2.1 pz.2.2.1 pz.2.2.2]), .val (.int .i64 sz), .val (.bool false), .val (.bool false), .val (.agg #[.bool pz.1, .slice pz.2.1 pz.2.2.1 pz.2.2.2]), .val (.pointer (some ⟨w.heap.size, 2, none⟩)), .val (.slice (some ⟨bx, ox, none⟩) xs.length cap), .val (.int .i64 (i : Int)), .val (.pointer (some ⟨w.heap.size, 1, none⟩)), .val (.int .i64 (c : Int)), .val (.int .i64 (P : Int)), .val (.slice (some ⟨g, 0, none⟩) ls.length kl), .val (.int .i64 (i : Int)), .val (.pointer (some ⟨g, i, none⟩)), .val (.int .i64 (j : Int)), .val (.int .i64 (Q1 : Int)), .val (.pointer (some ⟨bx, ox + Q1 * 2, none⟩)), .val (.agg #[.bool px.1, .slice px.2.1 px.2.2.1 px.2.2.2]), .val (.int .i64 sc), .val (.bool false), .val (.bool false)].getD q_ .any,
     [],
     [(.agg #[.bool pz.1, .slice pz.2.1 pz.2.2.1 pz.2.2.2], .at_ 549755813888 zz), (.agg #[.bool px.1, .slice px.2.1 px.2.2.1 px.2.2.2], .at_ 549755813888 xx)],
     [],
     [], [(⟨w.heap.size, 1, none⟩, .int .i64 (c : Int)), (⟨w.heap.size, 2, none⟩, .slice (some ⟨bx, ox, none⟩) xs.length cap), (⟨wr.heap.size, 0, none⟩, .bool pz.1), (⟨wr.heap.size, 1, none⟩, .slice pz.2.1 pz.2.2.1 pz.2.2.2), (⟨bx, ox + Q1 * 2, none⟩, .bool px.1), (⟨bx, ox + Q1 * 2 + 1, none⟩, .slice px.2.1 px.2.2.1 px.2.2.2), (⟨g, i, none⟩, .int .i64 (j : Int))], []⟩ [22, 23, 24, 25, 26, 27, 28, 29, 30, 31, 32, 33, 34, 35, 36, 37, 38, 39, 40, 41, 42] (w2.heap.size) (by kernel_rfl) (by kernel_rfl) (by kernel_rfl) (by kernel_rfl) ?_ ?_ ?_ ?_ ?_ ?_
    · exact z0q (NZ.out) (z0q (NX.out) z0h)
    · exact z0h
    · exact z0q (⟨ca1, by dsimp only; omega, z0h⟩) (z0q (⟨ca2, by dsimp only; omega, z0h⟩) (z0q (⟨cz0, by dsimp only; omega, z0h⟩) (z0q (⟨cz1, by dsimp only; omega, z0h⟩) (z0q (⟨cx0, by dsimp only; omega, z0h⟩) (z0q (⟨cx1, by dsimp only; omega, z0h⟩) (z0q (⟨cg, by dsimp only; omega, z0h⟩) z0h))))))
    · exact z0h
    · refine z02 ?_ (z02 ?_ (z02 ?_ (z02 ?_ (z02 ?_ (z02 ?_ (z02 ?_ (z02 ?_ (z02 ?_ (z02 ?_ (z02 ?_ (z02 ?_ (z02 ?_ (z02 ?_ (z02 ?_ (z02 ?_ (z02 ?_ (z02 ?_ (z02 ?_ (z02 ?_ (z02 ?_ z2v))))))))))))))))))))
      · intro L fx w' hJ hL hp hcl;refine wps rfl fun K hK => ?_;have cl0 := (hJ.cells _ mm2).1;have cl1 := (hJ.cells _ mm3).1;try dsimp only at cl0 cl1
        go_simp;exact hJ.q hK (by kernel_rfl) rfl
      · intro L fx w' hJ hL hp hcl;have e0 := hJ.pt 0 22 (.agg #[.bool pz.1, .slice pz.2.1 pz.2.2.1 pz.2.2.2]) rfl rfl rfl (hp 0 (by decide));rw [e0] at hJ ⊢; clear e0;refine wps rfl fun K hK => ?_;go_simp;go_at_call 45;refine (z34 _ zz _ _ (show z03 w' _ _ _ from hJ.base _ mm0) (by decide)).mono ?_;rw [HSG.out.1];rintro e w4 ⟨rfl, hb4⟩;try dsimp only
        exact hK _ _ ⟨_, by kernel_rfl, hJ.gC 1 rfl (by kernel_rfl) hb4 rfl (by omega)⟩
      · intro L fx w' hJ hL hp hcl;have e1 := hJ.pt 1 23 (.int .i64 sz) rfl rfl rfl (hp 1 (by decide));rw [e1] at hJ ⊢; clear e1;refine wps rfl fun K hK => ?_;go_simp;exact hJ.q hK (by kernel_rfl) rfl
      · intro L fx w' hJ hL hp hcl;have e2 := hJ.pt 2 24 (.bool false) rfl rfl rfl (hp 2 (by decide));rw [e2] at hJ ⊢; clear e2;refine wps rfl fun K hK => ?_;go_simp;exact hJ.q hK (by kernel_rfl) rfl
      · intro L fx w' hJ hL hp hcl;have e3 := hJ.pt 3 25 (.bool false) rfl rfl rfl (hp 3 (by decide));rw [e3] at hJ ⊢; clear e3;refine z0j (o := ?o4) ?ho4 ?h4 ?k4
        case ho4 => rfl
        case h4 => kernel_rfl
        intro K hK;have cl0 := (hJ.cells _ mm2).1;have cl1 := (hJ.cells _ mm3).1;try dsimp only at cl0 cl1
        go_simp;exact hJ.q hK (by kernel_rfl) rfl
      · intro L fx w' hJ hL hp hcl;have e3 := hJ.pt 3 25 (.bool false) rfl rfl rfl (hp 3 (by decide));rw [e3] at hJ ⊢; clear e3;refine z0j (o := ?o5) ?ho5 ?h5 ?k5
        case ho5 => rfl
        case h5 => kernel_rfl
        intro K hK;go_simp;exact hJ.q hK (by kernel_rfl) rfl
      · intro L fx w' hJ hL hp hcl;have e3 := hJ.pt 3 25 (.bool false) rfl rfl rfl (hp 3 (by decide));rw [e3] at hJ ⊢; clear e3;have e5 := hJ.pt 5 27 (.pointer (some ⟨w.heap.size, 2, none⟩)) rfl rfl rfl (hp 5 (by decide));rw [e5] at hJ ⊢; clear e5;refine z0j (o := ?o6) ?ho6 ?h6 ?k6
        case ho6 => rfl
        case h6 => kernel_rfl
        intro K hK;have cl0 := (hJ.cells _ mm1).1;try dsimp only at cl0
        go_simp;exact hJ.q hK (by kernel_rfl) rfl
      · intro L fx w' hJ hL hp hcl;have e3 := hJ.pt 3 25 (.bool false) rfl rfl rfl (hp 3 (by decide));rw [e3] at hJ ⊢; clear e3;refine z0j (o := ?o7) ?ho7 ?h7 ?k7
        case ho7 => rfl
        case h7 => kernel_rfl
        intro K hK;go_simp;exact hJ.q hK (by kernel_rfl) rfl
      · intro L fx w' hJ hL hp hcl;have e3 := hJ.pt 3 25 (.bool false) rfl rfl rfl (hp 3 (by decide));rw [e3] at hJ ⊢; clear e3;refine z0j (o := ?o8) ?ho8 ?h8 ?k8
        case ho8 => rfl
        case h8 => kernel_rfl
        intro K hK;go_simp;exact hJ.q hK (by kernel_rfl) rfl
      · intro L fx w' hJ hL hp hcl;have e3 := hJ.pt 3 25 (.bool false) rfl rfl rfl (hp 3 (by decide));rw [e3] at hJ ⊢; clear e3;have e8 := hJ.pt 8 30 (.pointer (some ⟨w.heap.size, 1, none⟩)) rfl rfl rfl (hp 8 (by decide));rw [e8] at hJ ⊢; clear e8;refine z0j (o := ?o9) ?ho9 ?h9 ?k9
        case ho9 => rfl
        case h9 => kernel_rfl
        intro K hK;have cl0 := (hJ.cells _ mm0).1;try dsimp only at cl0
        go_simp;exact hJ.q hK (by kernel_rfl) rfl
      · intro L fx w' hJ hL hp hcl;have e3 := hJ.pt 3 25 (.bool false) rfl rfl rfl (hp 3 (by decide));rw [e3] at hJ ⊢; clear e3;have e7 := hJ.pt 7 29 (.int .i64 (i : Int)) rfl rfl rfl (hp 7 (by decide));rw [e7] at hJ ⊢; clear e7;have e9 := hJ.pt 9 31 (.int .i64 (c : Int)) rfl rfl rfl (hp 9 (by decide));rw [e9] at hJ ⊢; clear e9;refine z0j (o := ?o10) ?ho10 ?h10 ?k10
        case ho10 => rfl
        case h10 => kernel_rfl
        intro K hK;go_simp;exact hJ.q hK (by kernel_rfl) rfl
      · intro L fx w' hJ hL hp hcl;have e3 := hJ.pt 3 25 (.bool false) rfl rfl rfl (hp 3 (by decide));rw [e3] at hJ ⊢; clear e3;refine z0j (o := ?o11) ?ho11 ?h11 ?k11
        case ho11 => rfl
        case h11 => kernel_rfl
        intro K hK;go_simp;exact hJ.q hK (by kernel_rfl) rfl
      · intro L fx w' hJ hL hp hcl;have e3 := hJ.pt 3 25 (.bool false) rfl rfl rfl (hp 3 (by decide));rw [e3] at hJ ⊢; clear e3;refine z0j (o := ?o12) ?ho12 ?h12 ?k12
        case ho12 => rfl
        case h12 => kernel_rfl
        intro K hK;go_simp;exact hJ.q hK (by kernel_rfl) rfl
      · intro L fx w' hJ hL hp hcl;have e3 := hJ.pt 3 25 (.bool false) rfl rfl rfl (hp 3 (by decide));rw [e3] at hJ ⊢; clear e3;have e11 := hJ.pt 11 33 (.slice (some ⟨g, 0, none⟩) ls.length kl) rfl rfl rfl (hp 11 (by decide));rw [e11] at hJ ⊢; clear e11;have e12 := hJ.pt 12 34 (.int .i64 (i : Int)) rfl rfl rfl (hp 12 (by decide));rw [e12] at hJ ⊢; clear e12;refine z0j (o := ?o13) ?ho13 ?h13 ?k13
        case ho13 => rfl
        case h13 => kernel_rfl
        intro K hK;go_simp;exact hJ.q hK (by kernel_rfl) rfl
      · intro L fx w' hJ hL hp hcl;have e3 := hJ.pt 3 25 (.bool false) rfl rfl rfl (hp 3 (by decide));rw [e3] at hJ ⊢; clear e3;have e13 := hJ.pt 13 35 (.pointer (some ⟨g, i, none⟩)) rfl rfl rfl (hp 13 (by decide));rw [e13] at hJ ⊢; clear e13;refine z0j (o := ?o14) ?ho14 ?h14 ?k14
        case ho14 => rfl
        case h14 => kernel_rfl
        intro K hK;have cl0 := (hJ.cells _ mm6).1;try dsimp only at cl0
        go_simp;exact hJ.q hK (by kernel_rfl) rfl
      · intro L fx w' hJ hL hp hcl;have e3 := hJ.pt 3 25 (.bool false) rfl rfl rfl (hp 3 (by decide));rw [e3] at hJ ⊢; clear e3;have e10 := hJ.pt 10 32 (.int .i64 (P : Int)) rfl rfl rfl (hp 10 (by decide));rw [e10] at hJ ⊢; clear e10;have e14 := hJ.pt 14 36 (.int .i64 (j : Int)) rfl rfl rfl (hp 14 (by decide));rw [e14] at hJ ⊢; clear e14;refine z0j (o := ?o15) ?ho15 ?h15 ?k15
        case ho15 => rfl
        case h15 => kernel_rfl
        intro K hK;go_simp;exact hJ.q hK (by kernel_rfl) rfl
      · intro L fx w' hJ hL hp hcl;have e3 := hJ.pt 3 25 (.bool false) rfl rfl rfl (hp 3 (by decide));rw [e3] at hJ ⊢; clear e3;have e6 := hJ.pt 6 28 (.slice (some ⟨bx, ox, none⟩) xs.length cap) rfl rfl rfl (hp 6 (by decide));rw [e6] at hJ ⊢; clear e6;have e15 := hJ.pt 15 37 (.int .i64 (Q1 : Int)) rfl rfl rfl (hp 15 (by decide));rw [e15] at hJ ⊢; clear e15;refine z0j (o := ?o16) ?ho16 ?h16 ?k16
        case ho16 => rfl
        case h16 => kernel_rfl
        intro K hK;go_simp;exact hJ.q hK (by kernel_rfl) rfl
      · intro L fx w' hJ hL hp hcl;have e3 := hJ.pt 3 25 (.bool false) rfl rfl rfl (hp 3 (by decide));rw [e3] at hJ ⊢; clear e3;have e16 := hJ.pt 16 38 (.pointer (some ⟨bx, ox + Q1 * 2, none⟩)) rfl rfl rfl (hp 16 (by decide));rw [e16] at hJ ⊢; clear e16;refine z0j (o := ?o17) ?ho17 ?h17 ?k17
        case ho17 => rfl
        case h17 => kernel_rfl
        intro K hK;have cl0 := (hJ.cells _ mm4).1;have cl1 := (hJ.cells _ mm5).1;try dsimp only at cl0 cl1
        go_simp;exact hJ.q hK (by kernel_rfl) rfl
      · intro L fx w' hJ hL hp hcl;have e3 := hJ.pt 3 25 (.bool false) rfl rfl rfl (hp 3 (by decide));rw [e3] at hJ ⊢; clear e3;have e4 := hJ.pt 4 26 (.agg #[.bool pz.1, .slice pz.2.1 pz.2.2.1 pz.2.2.2]) rfl rfl rfl (hp 4 (by decide));rw [e4] at hJ ⊢; clear e4;have e17 := hJ.pt 17 39 (.agg #[.bool px.1, .slice px.2.1 px.2.2.1 px.2.2.2]) rfl rfl rfl (hp 17 (by decide));rw [e17] at hJ ⊢; clear e17;refine z0j (o := ?o18) ?ho18 ?h18 ?k18
        case ho18 => rfl
        case h18 => kernel_rfl
        intro K hK;go_simp;go_at_call 34;refine (zaD _ _ zz xx _ _ (show z03 w' _ _ _ from hJ.base _ mm0) (show z03 w' _ _ _ from hJ.base _ mm1) (by decide)).mono ?_;rw [HSG.out.2.1];rintro e w4 ⟨rfl, hb4⟩;try dsimp only
        exact hK _ _ ⟨_, by kernel_rfl, hJ.gC 18 rfl (by kernel_rfl) hb4 rfl (by omega)⟩
      · intro L fx w' hJ hL hp hcl;have e3 := hJ.pt 3 25 (.bool false) rfl rfl rfl (hp 3 (by decide));rw [e3] at hJ ⊢; clear e3;have e18 := hJ.pt 18 40 (.int .i64 sc) rfl rfl rfl (hp 18 (by decide));rw [e18] at hJ ⊢; clear e18;refine z0j (o := ?o19) ?ho19 ?h19 ?k19
        case ho19 => rfl
        case h19 => kernel_rfl
        intro K hK;go_simp;exact hJ.q hK (by kernel_rfl) rfl
      · intro L fx w' hJ hL hp hcl;have e3 := hJ.pt 3 25 (.bool false) rfl rfl rfl (hp 3 (by decide));rw [e3] at hJ ⊢; clear e3;have e19 := hJ.pt 19 41 (.bool false) rfl rfl rfl (hp 19 (by decide));rw [e19] at hJ ⊢; clear e19;refine wps rfl fun K hK => ?_;go_simp;exact hJ.q hK (by kernel_rfl) rfl
    · intro L x' w7 hL hJ;have hfr : Below w2.drew.heap.size w2.drew w7 := hJ.fr;have e20 : x' 42 = .bool false := hJ.slot 20 (by show 20 < 21; decide) (hL 20 (by show 20 < 21; decide));rw [z07 (x := x') (d := 42) e20];have B7 := Lib.hid (HB2.out.trans (((Below.refl w1.heap.size w2).drew).trans (hfr.mono HB2.out.size)));clear hJ hL ca1 ca2 cz0 cz1 cx0 cx1 cg e20 t1 t2;simp only [pN, Nat.reduceEqDiff, ↓reduceIte];go_wp2;go_roundw
      case rel => exact ⟨i + 1, by omega, by go_num, B7⟩
      case measure => simp [intOf]; omega
  · obtain rfl : i = ls.length := by omega
    go_wp2;go_ret;exact ⟨rfl, HB.out.trans (hB.out.mono HB.out.size)⟩
end Go.Proofs.YtknkkceioockjaaGreat
namespace Go.Proofs.YtknkkceioockjaaGreat
theorem Pvs.zero {r c : Nat} {E : Nat -> Nat -> Int} {ls : List Nat} (h : Pvs r c E ls) : ∀ a, ls.length <= a -> a < r -> ∀ b, E a b = 0 := by
 obtain ⟨i, hi, hp, hz⟩ := h;rw [hp.len]; exact hz
theorem z1a.zbY {r c k n : Nat} {E : Nat -> Nat -> Int} {l l' : Nat -> Nat} (h : z1a k c E l) (h' : z1a n c E l') (hk : k <= r) (hn : n <= r) (z : ∀ a, k <= a -> a < r -> ∀ b, E a b = 0) (z' : ∀ a, n <= a -> a < r -> ∀ b, E a b = 0) : k = n := by
 rcases Nat.lt_trichotomy k n with e | e | e
 · have := h'.pos k e; rw [z k (Nat.le_refl _) (by omega)] at this; omega
 · exact e
 · have := h.pos n e; rw [z' n (Nat.le_refl _) (by omega)] at this; omega
theorem sm_cut {n m : Nat} (h : n <= m) {f : Nat -> Int} (hz : ∀ k, n <= k -> k < m -> f k = 0) : sm m f = sm n f := by
 obtain ⟨d, rfl⟩ : ∃ d, m = n + d := ⟨m - n, by omega⟩;rw [zc3, z2q (n := d) (fun k hk => hz (n + k) (by omega) (by omega))];omega
structure z5B (c n : Nat) (E : Nat -> Nat -> Int) (hs : List Int) (k : Nat) : Prop where
 len : hs.length = k * c
 z1y : ∃ l, z1a k c (z0d hs k c) l
 sp : z0B n E k (z0d hs k c)
theorem z5B.unique {c n m k k' : Nat} {E F : Nat -> Nat -> Int} {hs hs' : List Int} (h : z5B c n E hs k) (h' : z5B c m F hs' k') (e : z0B n E m F) : hs = hs' /\ k = k' := by
 obtain ⟨l, hl⟩ := h.z1y;obtain ⟨l', hl'⟩ := h'.z1y;obtain ⟨h1, _, h3⟩ := hl.unique hl' ((h.sp.symm.trans e).trans h'.sp);subst h1;exact ⟨z6V h.len h'.len fun i j hi hj => h3 i hi j, rfl⟩
theorem z5B.to {c n m k : Nat} {E F : Nat -> Nat -> Int} {hs : List Int} (h : z5B c n E hs k) (e : z0B m F n E) : z5B c m F hs k := ⟨h.len, h.z1y, e.trans h.sp⟩
theorem zc5 {R : List Hd} {k i : Nat} (hi : i < k) (j : Nat) : ent (R.take k) i j = ent R i j := by
 by_cases h : i < R.length
 · rw [z0O (R := R) h, z0O (R := R.take k) (by simp; omega)]; simp
 · rw [z1U (R := R) (by omega), z1U (R := R.take k) (by simp; omega)]
theorem bas_of {R R' : List Hd} {c D k : Nat} (h : z7a c D R k R') : z5B c R.length (ent R) ((R'.take k).map Hd.xs).flatten k /\ ∀ x ∈ ((R'.take k).map Hd.xs).flatten, x.natAbs < W ^ D := by
 obtain ⟨l, hH⟩ := h.z1y;have hl : (R'.take k).length = k := by rw [List.length_take, h.len]; exact Nat.min_eq_left h.kl
 have hm := z4B (r := k) hl (fun q hq => h.sh q (List.mem_of_mem_take hq));have he : ∀ i, i < k -> ∀ j, z0d ((R'.take k).map Hd.xs).flatten k c i j = ent R' i j := fun i hi j => (hm.2 i j).trans (zc5 hi j);exact ⟨⟨hm.1, ⟨l, hH.congr (fun a ha b => he a ha b)⟩, h.sp.trans (z0B.of_eq (fun i hi j => (he i hi j).symm))⟩, z2Z hm.1 (fun i j hi _ => by rw [he i hi]; exact h.bd i j)⟩
end Go.Proofs.YtknkkceioockjaaGreat
namespace Go.Proofs.YtknkkceioockjaaGreat
open Go.RowKit
set_option maxRecDepth 100000 in
set_option maxHeartbeats 4000000 in
theorem zdv (r c m : Nat) (ao : Option Addr) (len cap : Nat) (xs : List Int) (w : World) (hr : r <= 64) (hc : c <= 64) (h : z0F w 17592186044415 ao xs) (hm : ∀ x ∈ xs, x.natAbs < W ^ m) (hm1 : m <= 140000000) (hl : len = xs.length) (hs : xs.length = r * c) :
 Calls Tryz.prog 30 #[.agg #[.int .i64 (r : Int), .int .i64 (c : Int), .slice ao len cap]] w fun e w' => (∃ (b : Nat) (hs : List Int) (k : Nat), e = .returned (.tuple #[.agg #[.int .i64 (k : Int), .int .i64 (c : Int), .slice (some ⟨b, 0, none⟩) (k * c) (k * c)], .int .i64 0]) /\ w.heap.size <= b /\ z0c w' b hs /\ k <= r /\ z5B c r (z0d xs r c) hs k /\ ∀ x ∈ hs, x.natAbs < W ^ hW m) /\ Below w.heap.size w w' := by
 subst hl;have hlad : z4j 66 m <= 4000000000000 := by unfold z4j z1Z; omega
 have hhw : hW m <= 17592186044415 := by unfold hW z1Z; omega
 have hwl : ∀ x ∈ xs, z04 x.natAbs <= 17592186044415 := fun x hx => Nat.le_trans (z0a (hm x hx)) (by omega);have HXS := Lib.hid h; clear h;have HLad := Lib.hid (And.intro hlad (And.intro hhw hwl)); clear hlad hhw hwl;have HMM := Lib.hid hm; clear hm;have hsnd : z0v (r : Int) (c : Int) xs.length = true := by
  unfold z0v z0X;rw [hs]; simp; omega
 have HS := Lib.hid hs; clear hs;have HCK := Lib.hid (z4E hsnd); clear hsnd;go_enter Tryz.func30, Tryz.ntmps30;go_wp2_with fail
 obtain ⟨r1, r2, hb⟩ := z0H w #[.int .i64 (r : Int), .int .i64 (c : Int), .slice ao xs.length cap] #[.int .i64 0, .int .i64 0, .slice none 0 0] 24 24;generalize (w.alloc (.cells #[.int .i64 (r : Int), .int .i64 (c : Int), .slice ao xs.length cap] 24)).alloc (.cells #[.int .i64 0, .int .i64 0, .slice none 0 0] 24) = w2 at *;refine (z4v (r : Int) (c : Int) ao xs.length cap _ (by omega) (by omega)).mono ?_;rintro e w3 ⟨rfl, hb3⟩;rw [HCK.out];have R1 := Lib.hid (r1.below hb3 r1.lt);have R2 := Lib.hid (r2.below hb3 r2.lt);have L3 := Lib.hid ((HXS.out.below hb).below hb3);have B3 := Lib.hid (hb.trans (hb3.mono hb.size));have hs2 : w.heap.size + 1 < w3.heap.size := R2.out.lt;have e0 : w3.cell? ⟨w.heap.size, 0, none⟩ = some (.int .i64 (r : Int)) := R1.out.cell 0;have e1 : w3.cell? ⟨w.heap.size, 1, none⟩ = some (.int .i64 (c : Int)) := R1.out.cell 1;have e2 : w3.cell? ⟨w.heap.size, 2, none⟩ = some (.slice ao xs.length cap) := R1.out.cell 2;clear r1 r2 hb hb3;go_wp2_with fail
 refine (callsIn_wide.1 (zb7 r c ao xs.length cap xs w3 hr hc L3.out HLad.out.2.2 rfl HS.out)).mono ?_;rintro e w4 ⟨⟨o, R, rfl, hM, hRl, hRx, hob, hRb⟩, hb4⟩;obtain ⟨hSh, hE⟩ := z6U hRl HS.out hRx;obtain ⟨k, R', hRed, hOk⟩ := z5J (N := 66) (B := 4000000000000) (m := m) hSh (fun i b => by rw [hE]; exact z2R (z1v m) HMM.out i b) (by omega) (by omega) HLad.out.1;have hlR' : R'.length = r := hOk.len.trans hRl;obtain ⟨hH, hHb⟩ := bas_of hOk;have hH := hH.to (F := z0d xs r c) (m := r) (by rw [hRl]; exact z0B.of_eq (fun i _ j => (hE i j).symm));have hkr : k <= r := by rw [<- hRl]; exact hOk.kl
 have hred := z8j o r 4000000000000 c k R R' w4 hM (Nat.le_refl _) hRed (by omega) (by omega);rw [hRl] at hred;have HRed := Lib.hid hred; clear hred;have HOk := Lib.hid hOk; clear hOk;have HH := Lib.hid (And.intro hH hHb); clear hH hHb;have R14 := Lib.hid (R1.out.below hb4 R1.out.lt);have R24 := Lib.hid (R2.out.below hb4 R2.out.lt);have B4 := Lib.hid (B3.out.trans (hb4.mono B3.out.size));have HRb := Lib.hid (And.intro hob hRb);clear hRed hM hb4 e0 e1 e2 hSh hE hRx hob hRb R1 R2 L3 B3;rw [hRl];go_wp2_with fail
 refine HRed.out.mono ?_;rintro e w5 ⟨rfl, hM5, hC5⟩;rw [hlR'];have hown : ∀ q, (q = o ∨ ∃ x ∈ R, x.blk = q) -> w3.heap.size <= q := by
  rintro q (rfl | ⟨x, hx, rfl⟩)
  · exact HRb.out.1
  · exact HRb.out.2 x hx
 have hns : ∀ q, q < w3.heap.size -> ¬ (q = o ∨ ∃ x ∈ R, x.blk = q) := fun q hq h => by have := hown q h; omega
 have R15 := Lib.hid (hC5.row R14.out (hns _ (by omega)));have R25 := Lib.hid (hC5.row R24.out (hns _ hs2));have B5 : Hid (Below w.heap.size w w5) := Lib.hid (B4.out.trans (hC5.z2S (B := w.heap.size) (fun q hq => by have := hown q hq; omega) B4.out.size));have hrows := hM5.zas (L := 17592186044415) (fun x hx y hy => Nat.le_trans (z62 HOk.out.bd x hx y hy) HLad.out.2.1) k (by omega);have HRows := Lib.hid hrows; clear hrows;have c1 : w5.cell? ⟨w.heap.size, 1, none⟩ = some (.int .i64 (c : Int)) := R15.out.cell 1;have hsh5 : ∀ x ∈ (R'.take k).map Hd.xs, x.length = c := fun x hx => by
  obtain ⟨q, hq, rfl⟩ := List.mem_map.1 hx; exact HOk.out.sh q (List.mem_of_mem_take hq)
 clear hM5 hC5 R14 R24 B4 HRed hown hns;have hs5 : w.heap.size <= w5.heap.size := B5.out.size;have hkr1 : ¬ r < k := by omega
 go_wp2_with fail
 refine wp_region_any (by kernel_rfl) ?_;try (change wpAny _ _ _ _ _ _ _ (World.drew _))
 refine wpAny_take (i := 0) (v := ?_) rfl (by kernel_rfl) (by kernel_rfl) (by kernel_rfl) (fun _ _ _ h => h) (Or.inl ⟨by kernel_rfl, ?_⟩) ?_;rotate_left
 · intro w; go_simp; try (with_reducible rfl)
 refine wpAny_take (i := 1) (v := ?_) rfl (by kernel_rfl) (by kernel_rfl) (by kernel_rfl) (fun _ _ _ h => h) (Or.inl ⟨by kernel_rfl, ?_⟩) ?_;rotate_left
 · intro w; go_simp; try (with_reducible rfl)
 refine wpAny_take (i := 2) (v := ?_) rfl (by kernel_rfl) (by kernel_rfl) (by kernel_rfl) (fun _ _ _ h => h) (Or.inl ⟨by kernel_rfl, ?_⟩) ?_;rotate_left
 · intro w; go_simp; try (with_reducible rfl)
 refine wpAny_take (i := 3) (v := ?_) rfl (by kernel_rfl) (by kernel_rfl) (by kernel_rfl) (fun _ _ _ h => h) (Or.inl ⟨by kernel_rfl, ?_⟩) ?_;rotate_left
 · intro w; go_simp; try (with_reducible rfl)
 refine wpAny_ready (rs := [4]) (by kernel_rfl) (by simp) ?_;refine AllReady.cons rfl (fun K hK => ?_) AllReady.nil;go_simp;refine hK _ _ ?_;clear hK K;refine wpAny_ready (rs := [5]) (by kernel_rfl) (by simp) ?_;refine AllReady.cons rfl (fun K hK => ?_) AllReady.nil;go_simp;go_wp2_with (first | (go_at_call 44; refine (z3T o _ k c ((R'.take k).map Hd.xs) _ (HRows.out.below ((Below.refl _ w5).drew)) (by rw [List.length_map, List.length_take]; omega) hsh5 (by omega) (by omega)).mono ?_; rintro e w6 ⟨⟨b, rfl, hbb, hRb6⟩, hb6⟩; have hb6 := ((Below.refl w5.heap.size w5).drew).trans hb6; have R26 := Lib.hid (R25.out.below hb6 R25.out.lt); have B6 := Lib.hid (B5.out.trans (hb6.mono B5.out.size)); have HR6 := Lib.hid hRb6; have hbb : w5.heap.size <= b := hbb; clear hRb6 hb6; have z0 := R26.out.cell 0; have z1 := R26.out.cell 1; have z2 := R26.out.cell 2; have y0 := R26.out.free 0; have y1 := R26.out.free 1; have y2 := R26.out.free 2))
 refine wpAny_ready (rs := [6]) (by kernel_rfl) (by simp) ?_;refine AllReady.cons rfl (fun K hK => ?_) AllReady.nil;go_simp;refine hK _ _ ?_;clear hK K z0 z1 z2 y0 y1 y2;refine wpAny_take (i := 7) (v := ?_) rfl (by kernel_rfl) (by kernel_rfl) (by kernel_rfl) (fun _ _ _ h => h) (Or.inl ⟨by kernel_rfl, ?_⟩) ?_;rotate_left
 · intro w; go_simp; try (with_reducible rfl)
 refine wpAny_done (by kernel_rfl) ?_ _;go_simp;go_wp2;refine bodyPost_ret (z1S (p := 2) (q := 3) (by kernel_rfl) _ _ (w.heap.size + 1) _ _ _ rfl (R26.out.z4W (.int .i64 (k : Int)) (.int .i64 (c : Int)) (.slice (some ⟨b, 0, none⟩) (k * c) (k * c)))) rfl ?_;exact ⟨⟨b, _, k, rfl, by omega, HR6.out.z2d R26.out (k : Int) (c : Int) _ _ _, hkr, HH.out.1, HH.out.2⟩, ((B6.out.setCell (p := ⟨w.heap.size + 1, 0, none⟩) (Nat.le_succ _) _).setCell (p := ⟨w.heap.size + 1, 1, none⟩) (Nat.le_succ _) _).setCell (p := ⟨w.heap.size + 1, 2, none⟩) (Nat.le_succ _) _⟩
set_option maxRecDepth 100000 in
set_option maxHeartbeats 4000000 in
theorem z8x (n : Nat) (w : World) (h0 : 0 < n) (h1 : n < W) :
 Calls Tryz.prog 21 #[.int .u64 (n : Int)] w fun e w' => (e = .returned (.agg #[.bool false, .slice (some ⟨w.heap.size + 1, 0, none⟩) 1 1]) /\ z0n w' (.agg #[.bool false, .slice (some ⟨w.heap.size + 1, 0, none⟩) 1 1]) (n : Int)) /\ Below w.heap.size w w' := by
 obtain ⟨r1, r2, hb⟩ := z0H w #[.bool false, .slice (some ⟨w.heap.size + 1, 0, none⟩) 1 1] #[.int .u64 (n : Int)] 45 49;have hw2 : WAt ((w.alloc (.cells #[.bool false, .slice (some ⟨w.heap.size + 1, 0, none⟩) 1 1] 45)).alloc (.cells #[.int .u64 (n : Int)] 49)) (some ⟨w.heap.size + 1, 0, none⟩) [n] := z00.wat (ws := [n]) r2 (Ok.one h1);have hv1 : z01 [n] = n := by simp [z01]
 have hwl : z04 n = 1 := by
  have e1 : z04 n ≠ 0 := fun e => by have := z1b.1 e; omega
  have e2 : z04 n <= 1 := z0a (by simpa using h1);omega
 have hI : z03 ((w.alloc (.cells #[.bool false, .slice (some ⟨w.heap.size + 1, 0, none⟩) 1 1] 45)).alloc (.cells #[.int .u64 (n : Int)] 49)) (z04 ((n : Int)).natAbs) (.agg #[.bool false, .slice (some ⟨w.heap.size + 1, 0, none⟩) 1 1]) (n : Int) :=
  ⟨false, _, 1, 1, [n], rfl, hw2, rfl, by rw [Int.natAbs_natCast, hwl]; exact Nat.le_refl _, Nat.le_refl _, by rw [hv1]; rfl⟩
 have HI := Lib.hid hI;have HR6 := Lib.hid r1;have HB := Lib.hid hb;clear hI hw2 hv1 hb r2 r1 hwl;go_enter Tryz.func21, Tryz.ntmps21;go_wp2;refine bodyPost_ret (z0i (p := 2) (by kernel_rfl) _ _ w.heap.size _ _ rfl HR6.out) rfl ?_;exact ⟨⟨rfl, HI.out, ⟨_, by rw [show decide ((n : Int) < 0) = false by simp]⟩⟩, HB.out⟩
theorem zbJ : z4c 2 1 [4, 6] [2, 0] 1 (fun _ => 0) := by
 have e0 : ∀ i j, z0d [2, 0] 2 1 i j = if i = 0 /\ j = 0 then 2 else 0 := fun i j => by
  unfold z0d;by_cases h : i < 2 /\ j < 1
  · obtain ⟨h1, h2⟩ := h;obtain rfl : j = 0 := by omega
    rw [if_pos ⟨h1, h2⟩];have : i = 0 ∨ i = 1 := by omega
    rcases this with rfl | rfl <;> rfl
  · rw [if_neg h, if_neg (by omega)]
 have e1 : ∀ i j, z0d [4, 6] 2 1 i j = if i = 0 /\ j = 0 then 4 else if i = 1 /\ j = 0 then 6 else 0 := fun i j => by
  unfold z0d;by_cases h : i < 2 /\ j < 1
  · obtain ⟨h1, h2⟩ := h;obtain rfl : j = 0 := by omega
    rw [if_pos ⟨h1, h2⟩];have : i = 0 ∨ i = 1 := by omega
    rcases this with rfl | rfl <;> rfl
  · rw [if_neg h, if_neg (by omega), if_neg (by omega)]
 refine ⟨rfl, by omega, ⟨⟨fun i k _ _ => by omega, fun i _ => by omega, fun i _ j hj => by omega, fun i hi => ?_⟩, fun i k _ _ => by omega⟩, fun i hi b => ?_, ?_⟩
 · obtain rfl : i = 0 := by omega
   rw [e0]; decide
 · rw [e0, if_neg (by omega)]
 · refine ⟨fun k hk => ?_, fun k hk => ?_⟩
   · have hk' : k = 0 ∨ k = 1 := by omega
     rcases hk' with rfl | rfl
     · exact ((Sp.row (z0d [2, 0] 2 1) (k := 0) (n := 1) (by omega)).smul 2).congr (fun j => by
        rw [e0, e1]; by_cases h : j = 0 <;> simp [h])
     · exact ((Sp.row (z0d [2, 0] 2 1) (k := 0) (n := 1) (by omega)).smul 3).congr (fun j => by
        rw [e0, e1]; by_cases h : j = 0 <;> simp [h])
   · obtain rfl : k = 0 := by omega
     exact ((Sp.row (z0d [4, 6] 2 1) (k := 1) (n := 2) (by omega)).sub (Sp.row (z0d [4, 6] 2 1) (k := 0) (n := 2) (by omega))).congr (fun j => by
      rw [e0, e1, e1]; by_cases h : j = 0 <;> simp [h])
theorem row2 {w : World} {p q : P4} {x y : Int} (hp : z0n w (av p) x) (hq : z0n w (av q) y) : z0c (w.alloc (.cells #[.bool p.1, .slice p.2.1 p.2.2.1 p.2.2.2, .bool q.1, .slice q.2.1 q.2.2.1 q.2.2.2] 45)) w.heap.size [x, y] := by
 have hb : Below w.heap.size w (w.alloc (.cells #[.bool p.1, .slice p.2.1 p.2.2.1 p.2.2.2, .bool q.1, .slice q.2.1 q.2.2.1 q.2.2.2] 45)) := (Below.refl _ _).alloc (Nat.le_refl _) _;refine z0c.of (ps := [p, q]) (z00.new w _ _) rfl fun i h1 h2 => ?_;match i, h1, h2 with
 | 0, _, _ => exact z0n.below hp hb
 | 1, _, _ => exact z0n.below hq hb
theorem LsN.z3Q {w : World} {L : Nat} {ao : Option Addr} {xs : List Int} (h : LsN w ao xs) (hL : ∀ x ∈ xs, z04 x.natAbs <= L) : z0F w L ao xs := by
 intro hl;obtain ⟨b, o, e, hlt, hc⟩ := h hl;exact ⟨b, o, e, hlt, fun i hi => by
  obtain ⟨p, h0, h1, hn⟩ := hc i hi;exact ⟨p, h0, h1, hn.int (hL _ (List.getElem_mem hi))⟩⟩
set_option maxRecDepth 100000 in
set_option maxHeartbeats 4000000 in
theorem zaL (w : World) :
 Calls Tryz.prog 10 #[] w fun e w' => e = .returned (.bool true) /\ Below w.heap.size w w' := by
 go_enter Tryz.func10, Tryz.ntmps10;go_wp2_with fail
 refine (z8x 4 _ (by omega) (by decide)).mono ?_;rintro e w1 ⟨⟨rfl, h4⟩, hb1⟩;have H4 := Lib.hid h4; clear h4;go_wp2_with fail
 refine (z8x 6 _ (by omega) (by decide)).mono ?_;rintro e w2 ⟨⟨rfl, h6⟩, hb2⟩;have HN4 := Lib.hid (z0n.below H4.out hb2);have HN6 := Lib.hid h6;have HB2 := Lib.hid (hb1.trans (hb2.mono hb1.size));clear h6 hb1 hb2 H4;have hW6 : ∀ x ∈ ([4, 6] : List Int), x.natAbs < W ^ 1 := fun x hx => by simp at hx; rcases hx with rfl | rfl <;> decide
 have hrw := row2 (p := (false, some ⟨w.heap.size + 1, 0, none⟩, 1, 1)) (q := (false, some ⟨w1.heap.size + 1, 0, none⟩, 1, 1)) HN4.out HN6.out;have hb3 : Below w2.heap.size w2 (w2.alloc (.cells #[.bool false, .slice (some ⟨w.heap.size + 1, 0, none⟩) 1 1, .bool false, .slice (some ⟨w1.heap.size + 1, 0, none⟩) 1 1] 45)) := (Below.refl _ _).alloc (Nat.le_refl _) _;have HF3 := Lib.hid (zbT 2 1 1 (some ⟨w2.heap.size, 0, none⟩) 2 2 [4, 6] _ (by omega) (by omega) (hrw.lsN.z3Q (fun x hx => Nat.le_trans (z0a (hW6 x hx)) (by omega))) hW6 (by omega) rfl rfl);have HB3 := Lib.hid (HB2.out.trans (hb3.mono HB2.out.size));clear hrw hW6 hb3 HN4 HN6;go_wp2_with fail
 refine HF3.out.mono ?_;rintro e w4 ⟨⟨b, hs, k, l, rfl, hbb, hR, hH, hbd⟩, hb4⟩;obtain ⟨rfl, -, -⟩ := hH.unique zbJ;have HR := Lib.hid hR;have HB4 := Lib.hid (HB3.out.trans (hb4.mono HB3.out.size));have rB := z00.new w4 #[.int .i64 2, .int .i64 1, .slice (some ⟨b, 0, none⟩) 2 2] 24;have hb5 : Below w4.heap.size w4 (w4.alloc (.cells #[.int .i64 2, .int .i64 1, .slice (some ⟨b, 0, none⟩) 2 2] 24)) := (Below.refl _ _).alloc (Nat.le_refl _) _;clear hR hH hbd hb4 HF3;go_wp2;generalize w4.alloc (.cells #[.int .i64 2, .int .i64 1, .slice (some ⟨b, 0, none⟩) 2 2] 24) = w5 at *;have HR5 := Lib.hid (HR.out.below hb5);have HB5 := Lib.hid (HB4.out.trans (hb5.mono HB4.out.size));have RB := Lib.hid rB;have z0 := RB.out.cell 0;have z1 := RB.out.cell 1;have z2 := RB.out.cell 2;simp only [List.getElem?_cons_zero, List.getElem?_cons_succ] at z0 z1 z2;have hs5 : w4.heap.size < w5.heap.size := RB.out.lt;clear rB hb5;refine wp_region_any (by kernel_rfl) ?_;try (change wpAny _ _ _ _ _ _ _ (World.drew _))
 refine wpAny_take (i := 0) (v := ?_) rfl (by kernel_rfl) (by kernel_rfl) (by kernel_rfl) (fun _ _ _ h => h) (Or.inl ⟨by kernel_rfl, ?_⟩) ?_;rotate_left
 · intro w; go_simp; try (with_reducible rfl)
 refine wpAny_take (i := 1) (v := ?_) rfl (by kernel_rfl) (by kernel_rfl) (by kernel_rfl) (fun _ _ _ h => h) (Or.inl ⟨by kernel_rfl, ?_⟩) ?_;rotate_left
 · intro w; go_simp; try (with_reducible rfl)
 refine wpAny_take (i := 2) (v := ?_) rfl (by kernel_rfl) (by kernel_rfl) (by kernel_rfl) (fun _ _ _ h => h) (Or.inl ⟨by kernel_rfl, ?_⟩) ?_;rotate_left
 · intro w; go_simp; try (with_reducible rfl)
 refine wpAny_take (i := 5) (v := ?_) rfl (by kernel_rfl) (by kernel_rfl) (by kernel_rfl) (fun _ _ _ h => h) (Or.inl ⟨by kernel_rfl, ?_⟩) ?_;rotate_left
 · intro w; go_simp; try (with_reducible rfl)
 refine wpAny_ready (rs := [3, 4]) (by kernel_rfl) (by simp) ?_;refine AllReady.cons rfl (fun K hK => ?_) (AllReady.cons rfl (fun K hK => ?_) AllReady.nil)
 · go_simp;refine hK _ _ ?_;clear hK K;refine wpAny_ready (rs := [4]) (by kernel_rfl) (by simp) ?_;refine AllReady.cons rfl (fun K hK => ?_) AllReady.nil;go_simp;go_wp2_with (first | (go_at_call 21; refine (z8x 2 _ (by omega) (by decide)).mono ?_; rintro e w6 ⟨⟨rfl, h2⟩, hb6⟩; have H2 := Lib.hid h2; clear h2; have hs6 : w4.heap.size < w6.heap.size := Nat.lt_of_lt_of_le hs5 hb6.size; have y0 := (hb6.cell (p := ⟨w4.heap.size, 0, none⟩) hs5).trans z0; have y1 := (hb6.cell (p := ⟨w4.heap.size, 1, none⟩) hs5).trans z1; have y2 := (hb6.cell (p := ⟨w4.heap.size, 2, none⟩) hs5).trans z2))
   refine wpAny_ready (rs := [6]) (by kernel_rfl) (by simp) ?_;refine AllReady.cons rfl (fun K hK => ?_) AllReady.nil;go_simp;refine hK _ _ ?_;clear hK K;refine wpAny_take (i := 7) (v := ?_) rfl (by kernel_rfl) (by kernel_rfl) (by kernel_rfl) (fun _ _ _ h => h) (Or.inl ⟨by kernel_rfl, ?_⟩) ?_;rotate_left
   · intro w; go_simp; try (with_reducible rfl)
   have hrw := row2 (p := (false, some ⟨w5.heap.size + 1, 0, none⟩, 1, 1)) (q := p0) H2.out (z0n.zero w6);have hb7 : Below w6.heap.size w6 (w6.alloc (.cells #[.bool false, .slice (some ⟨w5.heap.size + 1, 0, none⟩) 1 1, .bool false, .slice none 0 0] 45)) := (Below.refl _ _).alloc (Nat.le_refl _) _;have hb67 : Below w5.heap.size w5 (w6.alloc (.cells #[.bool false, .slice (some ⟨w5.heap.size + 1, 0, none⟩) 1 1, .bool false, .slice none 0 0] 45)) := ((Below.refl _ w5).drew.trans hb6).trans (hb7.mono hb6.size);have HAM := Lib.hid (z0J 2 1 2 1 (some ⟨b, 0, none⟩) (some ⟨w6.heap.size, 0, none⟩) 2 2 2 2 [2, 0] [2, 0] _ (HR5.out.below hb67).lsN hrw.lsN rfl rfl (by omega) (by omega) (by intro x hx; simp at hx; rcases hx with rfl | rfl <;> exact Nat.le_trans (z0a (k := 1) (by decide)) (by omega)) (by intro x hx; simp at hx; rcases hx with rfl | rfl <;> exact Nat.le_trans (z0a (k := 1) (by decide)) (by omega)));have HB7 := Lib.hid (HB5.out.trans (hb67.mono HB5.out.size));clear hrw hb7 hb67;refine wpAny_ready (rs := [8]) (by kernel_rfl) (by simp) ?_;refine AllReady.cons rfl (fun K hK => ?_) AllReady.nil;go_simp;go_wp2_with (first | (go_at_call 14; refine HAM.out.mono ?_; rintro e w8 ⟨rfl, hb8⟩))
   refine wpAny_take (i := 9) (v := ?_) rfl (by kernel_rfl) (by kernel_rfl) (by kernel_rfl) (fun _ _ _ h => h) (Or.inl ⟨by kernel_rfl, ?_⟩) ?_;rotate_left
   · intro w; go_simp; try (with_reducible rfl)
   refine wpAny_take (i := 10) (v := ?_) rfl (by kernel_rfl) (by kernel_rfl) (by kernel_rfl) (fun _ _ _ h => h) (Or.inl ⟨by kernel_rfl, ?_⟩) ?_;rotate_left
   · intro w; go_simp; try (with_reducible rfl)
   refine wpAny_done (by kernel_rfl) ?_ _;go_simp;have HB8 := Lib.hid (HB7.out.trans (hb8.mono HB7.out.size));go_wp2;go_ret;exact ⟨rfl, HB8.out⟩
 · go_simp;go_wp2_with (first | (go_at_call 21; refine (z8x 2 _ (by omega) (by decide)).mono ?_; rintro e w6 ⟨⟨rfl, h2⟩, hb6⟩; have H2 := Lib.hid h2; clear h2; have hs6 : w4.heap.size < w6.heap.size := Nat.lt_of_lt_of_le hs5 hb6.size; have y0 := (hb6.cell (p := ⟨w4.heap.size, 0, none⟩) hs5).trans z0; have y1 := (hb6.cell (p := ⟨w4.heap.size, 1, none⟩) hs5).trans z1; have y2 := (hb6.cell (p := ⟨w4.heap.size, 2, none⟩) hs5).trans z2))
   refine wpAny_ready (rs := [3, 6]) (by kernel_rfl) (by simp) ?_;refine AllReady.cons rfl (fun K hK => ?_) (AllReady.cons rfl (fun K hK => ?_) AllReady.nil)
   · go_simp;refine hK _ _ ?_;clear hK K;refine wpAny_ready (rs := [6]) (by kernel_rfl) (by simp) ?_;refine AllReady.cons rfl (fun K hK => ?_) AllReady.nil;go_simp;refine hK _ _ ?_;clear hK K;refine wpAny_take (i := 7) (v := ?_) rfl (by kernel_rfl) (by kernel_rfl) (by kernel_rfl) (fun _ _ _ h => h) (Or.inl ⟨by kernel_rfl, ?_⟩) ?_;rotate_left
     · intro w; go_simp; try (with_reducible rfl)
     have hrw := row2 (p := (false, some ⟨w5.heap.size + 1, 0, none⟩, 1, 1)) (q := p0) H2.out (z0n.zero w6);have hb7 : Below w6.heap.size w6 (w6.alloc (.cells #[.bool false, .slice (some ⟨w5.heap.size + 1, 0, none⟩) 1 1, .bool false, .slice none 0 0] 45)) := (Below.refl _ _).alloc (Nat.le_refl _) _;have hb67 : Below w5.heap.size w5 (w6.alloc (.cells #[.bool false, .slice (some ⟨w5.heap.size + 1, 0, none⟩) 1 1, .bool false, .slice none 0 0] 45)) := ((Below.refl _ w5).drew.trans hb6).trans (hb7.mono hb6.size);have HAM := Lib.hid (z0J 2 1 2 1 (some ⟨b, 0, none⟩) (some ⟨w6.heap.size, 0, none⟩) 2 2 2 2 [2, 0] [2, 0] _ (HR5.out.below hb67).lsN hrw.lsN rfl rfl (by omega) (by omega) (by intro x hx; simp at hx; rcases hx with rfl | rfl <;> exact Nat.le_trans (z0a (k := 1) (by decide)) (by omega)) (by intro x hx; simp at hx; rcases hx with rfl | rfl <;> exact Nat.le_trans (z0a (k := 1) (by decide)) (by omega)));have HB7 := Lib.hid (HB5.out.trans (hb67.mono HB5.out.size));clear hrw hb7 hb67;refine wpAny_ready (rs := [8]) (by kernel_rfl) (by simp) ?_;refine AllReady.cons rfl (fun K hK => ?_) AllReady.nil;go_simp;go_wp2_with (first | (go_at_call 14; refine HAM.out.mono ?_; rintro e w8 ⟨rfl, hb8⟩))
     refine wpAny_take (i := 9) (v := ?_) rfl (by kernel_rfl) (by kernel_rfl) (by kernel_rfl) (fun _ _ _ h => h) (Or.inl ⟨by kernel_rfl, ?_⟩) ?_;rotate_left
     · intro w; go_simp; try (with_reducible rfl)
     refine wpAny_take (i := 10) (v := ?_) rfl (by kernel_rfl) (by kernel_rfl) (by kernel_rfl) (fun _ _ _ h => h) (Or.inl ⟨by kernel_rfl, ?_⟩) ?_;rotate_left
     · intro w; go_simp; try (with_reducible rfl)
     refine wpAny_done (by kernel_rfl) ?_ _;go_simp;have HB8 := Lib.hid (HB7.out.trans (hb8.mono HB7.out.size));go_wp2;go_ret;exact ⟨rfl, HB8.out⟩
   · go_simp;refine hK _ _ ?_;clear hK K;refine wpAny_take (i := 7) (v := ?_) rfl (by kernel_rfl) (by kernel_rfl) (by kernel_rfl) (fun _ _ _ h => h) (Or.inl ⟨by kernel_rfl, ?_⟩) ?_;rotate_left
     · intro w; go_simp; try (with_reducible rfl)
     refine wpAny_ready (rs := [3]) (by kernel_rfl) (by simp) ?_;refine AllReady.cons rfl (fun K hK => ?_) AllReady.nil;go_simp;refine hK _ _ ?_;clear hK K;have hrw := row2 (p := (false, some ⟨w5.heap.size + 1, 0, none⟩, 1, 1)) (q := p0) H2.out (z0n.zero w6);have hb7 : Below w6.heap.size w6 (w6.alloc (.cells #[.bool false, .slice (some ⟨w5.heap.size + 1, 0, none⟩) 1 1, .bool false, .slice none 0 0] 45)) := (Below.refl _ _).alloc (Nat.le_refl _) _;have hb67 : Below w5.heap.size w5 (w6.alloc (.cells #[.bool false, .slice (some ⟨w5.heap.size + 1, 0, none⟩) 1 1, .bool false, .slice none 0 0] 45)) := ((Below.refl _ w5).drew.trans hb6).trans (hb7.mono hb6.size);have HAM := Lib.hid (z0J 2 1 2 1 (some ⟨b, 0, none⟩) (some ⟨w6.heap.size, 0, none⟩) 2 2 2 2 [2, 0] [2, 0] _ (HR5.out.below hb67).lsN hrw.lsN rfl rfl (by omega) (by omega) (by intro x hx; simp at hx; rcases hx with rfl | rfl <;> exact Nat.le_trans (z0a (k := 1) (by decide)) (by omega)) (by intro x hx; simp at hx; rcases hx with rfl | rfl <;> exact Nat.le_trans (z0a (k := 1) (by decide)) (by omega)));have HB7 := Lib.hid (HB5.out.trans (hb67.mono HB5.out.size));clear hrw hb7 hb67;refine wpAny_ready (rs := [8]) (by kernel_rfl) (by simp) ?_;refine AllReady.cons rfl (fun K hK => ?_) AllReady.nil;go_simp;go_wp2_with (first | (go_at_call 14; refine HAM.out.mono ?_; rintro e w8 ⟨rfl, hb8⟩))
     refine wpAny_take (i := 9) (v := ?_) rfl (by kernel_rfl) (by kernel_rfl) (by kernel_rfl) (fun _ _ _ h => h) (Or.inl ⟨by kernel_rfl, ?_⟩) ?_;rotate_left
     · intro w; go_simp; try (with_reducible rfl)
     refine wpAny_take (i := 10) (v := ?_) rfl (by kernel_rfl) (by kernel_rfl) (by kernel_rfl) (fun _ _ _ h => h) (Or.inl ⟨by kernel_rfl, ?_⟩) ?_;rotate_left
     · intro w; go_simp; try (with_reducible rfl)
     refine wpAny_done (by kernel_rfl) ?_ _;go_simp;have HB8 := Lib.hid (HB7.out.trans (hb8.mono HB7.out.size));go_wp2;go_ret;exact ⟨rfl, HB8.out⟩
theorem z5D (l : List Int) (x y : Int) : (decide (l = l) && (x == x) && (y == y)) = true := by simp
abbrev matV (b k c : Nat) : Value := .agg #[.int .i64 (k : Int), .int .i64 (c : Int), .slice (some ⟨b, 0, none⟩) (k * c) (k * c)]
def isI (t : TypeId) : Bool := decide (t = 45)
theorem z7z {t : TypeId} (h : isI t = false) : t ≠ 45 := of_decide_eq_false h
def z2f (ao : Option Addr) (cap P : Nat) : Option Addr := if cap = P then ao else ao.map (·.add (P * 2))
theorem z0F.sub {w : World} {L cap r c i : Nat} {ao : Option Addr} {xs : List Int} (h : z0F w L ao xs) (hs : xs.length = r * c) (hi : i < r) (hcap : xs.length <= cap) : z0F w L (z2f ao cap (i * c)) (rowOf xs c i) := by
 intro hp;have hl := z0Q hs hi;have hc : 0 < c := by omega
 have h1 : (i + 1) * c <= r * c := Nat.mul_le_mul_right _ hi;have h2 : (i + 1) * c = i * c + c := Nat.succ_mul i c;obtain ⟨b, o, rfl, hb, hcs⟩ := h (by omega);refine ⟨b, o + i * c * 2, ?_, hb, fun j hj => ?_⟩
 · unfold z2f;rw [if_neg (by omega)];simp [Addr.add]
 · obtain ⟨p, e0, e1, e2⟩ := hcs (i * c + j) (by omega);have e : o + (i * c + j) * 2 = o + i * c * 2 + j * 2 := by omega
   rw [e] at e0 e1;refine ⟨p, e0, e1, ?_⟩;have e3 : (rowOf xs c i)[j] = xs[i * c + j]'(by omega) := by simp [rowOf]
   rw [e3];exact e2
theorem z7y {xs : List Int} {r c i : Nat} (hs : xs.length = r * c) (hi : i < r) (b : Nat) : (rowOf xs c i).getD b 0 = z0d xs r c i b := by
 by_cases hb : b < c
 · rw [z52 _ _ _ _ hb, z0Z hi hb]
 · rw [z6q _ _ (by rw [z0Q hs hi]; omega), z1D _ (by omega)]
theorem z7N {xs ys : List Int} {b : Nat} (h : b < xs.length) : (xs ++ ys).getD b 0 = xs.getD b 0 := by
 rw [List.getD_eq_getElem?_getD, List.getElem?_append_left h, <- List.getD_eq_getElem?_getD]
theorem z7c {xs ys : List Int} {n b : Nat} (h : xs.length = n) : (xs ++ ys).getD (n + b) 0 = ys.getD b 0 := by
 rw [List.getD_eq_getElem?_getD, List.getElem?_append_right (by omega), h, Nat.add_sub_cancel_left, <- List.getD_eq_getElem?_getD]
theorem z4U.ent {R R1 : List Hd} {xs us : List Int} {c r : Nat} (h : z4U R xs us c r r R1) (hR : R.length = r) (hx : xs.length = r * c) (hu : us.length = r * r) :
 Sh (c + r) R1 /\ (∀ i b, b < c -> ent R1 i b = z0d xs r c i b) /\ ∀ i b, ent R1 i (c + b) = z0d us r r i b := by
 have hl1 : R1.length = r := h.1.trans hR;have hxs : ∀ k (hk : k < R1.length), R1[k].xs = rowOf xs c k ++ rowOf us r k := fun k hk => h.2.1 k hk (by omega);refine ⟨fun x hx' => ?_, fun i b hb => ?_, fun i b => ?_⟩
 · obtain ⟨k, hk, rfl⟩ := List.getElem_of_mem hx';rw [hxs k hk, List.length_append, z0Q hx (by omega), z0Q hu (by omega)]
 · by_cases hi : i < r
   · rw [z0O (by omega), hxs i (by omega), z7N (by rw [z0Q hx hi]; exact hb), z52 _ _ _ _ hb, z0Z hi hb]
   · rw [z1U (by omega), z3o (by omega)]
 · by_cases hi : i < r
   · rw [z0O (by omega), hxs i (by omega), z7c (z0Q hx hi)];exact z7y hu hi b
   · rw [z1U (by omega), z3o (by omega)]
theorem zbc {r : Nat} (i b : Nat) (hi : i < r) (hb : b < r) : z0d (z2y r (fun i j => if i = j then 1 else 0) (r * r)) r r i b = if i = b then 1 else 0 := by
 rw [z0Z hi hb];exact z7U (r := r) (c := r) _ hi hb
theorem z97 {R : List Hd} {r n : Nat} (f : Hd -> List Int) (hl : R.length = r) (hf : ∀ h ∈ R, (f h).length = n) : (R.map f).flatten.length = r * n /\ ∀ i j, (hi : i < R.length) -> j < n -> z0d (R.map f).flatten r n i j = (f R[i]).getD j 0 := by
 have hc : ∀ x ∈ R.map f, x.length = n := fun x hx => by
  obtain ⟨q, hq, rfl⟩ := List.mem_map.1 hx; exact hf q hq
 refine ⟨by rw [z3f hc, List.length_map, hl], fun i j hi hj => ?_⟩;rw [z0Z (by omega) hj, z3H _ n hc i j (by simp; omega) hj, List.getElem_map]
structure z6m (r c m : Nat) (xs hs us ws : List Int) : Prop where
 hl : hs.length = r * c
 ul : us.length = r * r
 wl : ws.length = r * r
 z1y : ∃ E l, z1a r (c + r) E l /\ (∀ i b, i < r -> b < c -> z0d hs r c i b = E i b) /\ ∀ i b, i < r -> b < r -> z0d us r r i b = E i (c + b)
 wh : ∀ x j, x < r -> j < c -> sm r (fun k => z0d ws r r x k * z0d hs r c k j) = z0d xs r c x j
 wu : ∀ x j, x < r -> j < r -> sm r (fun k => z0d ws r r x k * z0d us r r k j) = if x = j then 1 else 0
 uw : ∀ a b, a < r -> b < r -> sm r (fun q => z0d us r r a q * z0d ws r r q b) = if a = b then 1 else 0
 hb : ∀ x ∈ hs, x.natAbs < W ^ hW m
 ub : ∀ x ∈ us, x.natAbs < W ^ hW m
 wb : ∀ x ∈ ws, x.natAbs < W ^ ((hW m + 1) * 64)
theorem z6m.of {r c m k : Nat} {xs : List Int} {R1 R' V' : List Hd} (hr : r <= 64) (hl : R1.length = r) (hE : ∀ i b, b < c -> ent R1 i b = z0d xs r c i b) (hU : ∀ i b, i < r -> b < r -> ent R1 i (c + b) = if i = b then 1 else 0)
 (hOk : z7a (c + r) (hW m) R1 k R') (hT : TRel r c (ent R1) R' V') :
 z6m r c m xs (R'.map (fun h => h.xs.take c)).flatten (R'.map (fun h => h.xs.drop c)).flatten (z2y r (z6d (V'.map Hd.xs).flatten r) (r * r)) := by
 have hlen : R'.length = r := hOk.len.trans hl;have hx : ∀ h ∈ R', h.xs.length = c + r := hOk.sh;obtain ⟨h1, h2⟩ := z97 (R := R') (r := r) (n := c) (fun h => h.xs.take c) hlen (fun h hh => by rw [List.length_take, hx h hh]; omega);obtain ⟨u1, u2⟩ := z97 (R := R') (r := r) (n := r) (fun h => h.xs.drop c) hlen (fun h hh => by rw [List.length_drop, hx h hh]; omega);have hh : ∀ i b, i < r -> b < c -> z0d (R'.map (fun h => h.xs.take c)).flatten r c i b = ent R' i b := fun i b hi hb => by
  rw [h2 i b (by omega) hb, z0O (by omega), List.getD_eq_getElem?_getD, List.getD_eq_getElem?_getD, List.getElem?_take_of_lt hb]
 have hu : ∀ i b, i < r -> b < r -> z0d (R'.map (fun h => h.xs.drop c)).flatten r r i b = ent R' i (c + b) := fun i b hi hb => by
  rw [u2 i b (by omega) hb, z0O (by omega), List.getD_eq_getElem?_getD, List.getD_eq_getElem?_getD, List.getElem?_drop]
 have hv := z4B (R := V') (r := r) (c := r) hT.vl hT.vs;have hw : ∀ x q, x < r -> q < r -> z0d (z2y r (z6d (V'.map Hd.xs).flatten r) (r * r)) r r x q = ent V' q x := fun x q h1 h2 => by
  rw [z0Z h1 h2, z7U (r := r) (c := r) _ h1 h2, <- hv.2 q x, z0Z h2 h1];rfl
 have hF : Fit (hW m) (c + r) R' := Fit.of hOk.sh hOk.bd;have hkr : k = r := hT.fr.full hOk.zero (by have := hOk.kl; omega);subst hkr;obtain ⟨l, hH⟩ := hOk.z1y;refine ⟨h1, u1, z10 .., ⟨ent R', l, hH, hh, hu⟩, fun x j hx hj => ?_, fun x j hx hj => ?_, fun a b ha hb => ?_, fun x hx => ?_, fun x hx => ?_, fun x hx => ?_⟩
 · rw [<- hE x j hj, <- hT.fr.wa x j hx];exact z0z fun q hq => by rw [hw x q hx hq, hh q j hq hj]
 · rw [<- hU x j hx hj, <- hT.fr.wa x (c + j) hx];exact z0z fun q hq => by rw [hw x q hx hq, hu q j hq hj]
 · rw [<- hT.fr.uw a b ha hb];exact z0z fun q hq => by rw [hw q b hq hb, hu a q ha hq]
 · exact z2Z h1 (fun i j hi hj => by rw [hh i j hi hj]; exact hOk.bd _ _) x hx
 · exact z2Z u1 (fun i j hi hj => by rw [hu i j hi hj]; exact hOk.bd _ _) x hx
 · refine z2Z (z10 ..) (fun i j hi hj => ?_) x hx;rw [hw i j hi hj];have hj' : j < V'.length := by have := hT.vl; omega
   have hi' : i < V'[j].xs.length := by rw [hT.vs.get hj']; exact hi
   rw [z2x hj' hi'];have := hT.bd hF hU hr _ (List.getElem_mem hj') _ (List.getElem_mem hi');exact z3O (z1c _) this
theorem zcF {w : World} {lb o sb q1 gb r cs1 ov g2 g3 c B H : Nat} {R1 V : List Hd} (hlad : z00 w lb 105 [.slice (some ⟨o, 0, none⟩) r r, .slice (some ⟨sb, 0, none⟩) 1 1])
 (hq : z1V w q1 111 (z1Y gb ++ agF g2 g3)) (hg2 : z00 w g2 82 [.slice (some ⟨ov, 0, none⟩) r r]) (hg3 : z00 w g3 82 [.slice (some ⟨ov, 0, none⟩) r r]) (hbox : z00 w gb 82 [.slice (some ⟨o, 0, none⟩) r r])
 (hM : z0V w o R1) (hV : z0V w ov V) (hRl : R1.length = r) (hVl : V.length = r) (hap : o < H /\ ∀ x ∈ R1, x.blk < H) (hvp : H <= ov /\ ∀ x ∈ V, H <= x.blk)
 (hsR : Sh (c + r) R1) (hsV : Sh r V) (hu1 : ∀ x q, x < r -> q < r -> ent R1 x (c + q) = if x = q then 1 else 0) (huV : ∀ a b, a < r -> b < r -> ent V a b = if a = b then 1 else 0) :
 z0b (w.setCell ⟨lb, 1, none⟩ (.slice (some ⟨q1, 0, none⟩) 2 cs1)) ⟨lb, o, q1, gb, r, R1, some (z6B ov g2 g3 r cs1 (fun k => k = ov ∨ ∃ h ∈ V, h.blk = k) r c B (ent R1))⟩ := by
 have hn : NoW [Value.slice (some ⟨o, 0, none⟩) r r, .slice (some ⟨sb, 0, none⟩) 1 1] := NoW.slice (NoW.slice NoW.nil);have hob : ∀ {z : Nat} {Q : List Hd}, z0V w z Q -> z ≠ lb := fun h e => by
  obtain ⟨tl, _, ho⟩ := h.out;exact hlad.ne ho (by decide) e.symm
 have hrb : ∀ {z : Nat} {Q : List Hd}, z0V w z Q -> ∀ x ∈ Q, x.blk ≠ lb := fun h x hx e => by
  obtain ⟨ps, tl, nt, hr, _⟩ := h.row x hx;exact hlad.ne hr (by decide) e.symm
 have hM' := hM.z19 hlad hn (hob hM) (hrb hM) 1 (.slice (some ⟨q1, 0, none⟩) 2 cs1);have hV' := hV.z19 hlad hn (hob hV) (hrb hV) 1 (.slice (some ⟨q1, 0, none⟩) 2 cs1);refine ⟨?_, ?_, ?_, hM', fun t ht => ?_⟩
 · have h0 := hlad.set 1 (.slice (some ⟨q1, 0, none⟩) 2 cs1);subst hRl;exact h0
 · refine z1V.other (p := ⟨lb, 1, none⟩) hq ?_ _;exact (hlad.neP hq (by decide)).symm
 · subst hRl;exact z00.other (p := ⟨lb, 1, none⟩) hbox (hbox.ne hlad (by decide)) _
 · cases ht;refine ⟨V, ⟨?_, hV'⟩, ?_, ⟨hRl, hVl, hsR, hsV, ⟨fun x j hx => ?_, fun a b ha hb => ?_⟩⟩, fun k => Iff.rfl, ?_⟩
   · subst hVl;exact z00.other (p := ⟨lb, 1, none⟩) hg2 (hg2.ne hlad (by decide)) _
   · subst hVl;exact z00.other (p := ⟨lb, 1, none⟩) hg3 (hg3.ne hlad (by decide)) _
   · rw [z3A x hx (fun k hk hkx => by rw [huV k x hk hx, if_neg hkx, Int.zero_mul]), huV x x hx hx, if_pos rfl, Int.one_mul]
   · rw [z3A b hb (fun k hk hkb => by rw [huV b k hb hk, if_neg (fun e => hkb e.symm), Int.mul_zero]), huV b b hb hb, if_pos rfl, Int.mul_one];exact hu1 a b ha hb
   · rintro k hk (h2 | ⟨x, hx, h2⟩)
     · have h2 : k = o := h2;rcases hk with h1 | ⟨y, hy, h1⟩
       · have := hvp.1; have := hap.1; omega
       · have := hvp.2 y hy; have := hap.1; omega
     · have := hap.2 x hx;rcases hk with h1 | ⟨y, hy, h1⟩
       · have := hvp.1; omega
       · have := hvp.2 y hy; omega
theorem z0F.take {w : World} {L : Nat} {ao : Option Addr} {xs : List Int} (h : z0F w L ao xs) (c : Nat) : z0F w L ao (xs.take c) := by
 intro hp;have hl : (xs.take c).length = min c xs.length := List.length_take;obtain ⟨b, o, e, hb, hc⟩ := h (by omega);refine ⟨b, o, e, hb, fun i hi => ?_⟩;obtain ⟨p, h0, h1, h2⟩ := hc i (by omega);exact ⟨p, h0, h1, by rw [List.getElem_take]; exact h2⟩
theorem z0F.drop {w : World} {L b o : Nat} {xs : List Int} (h : z0F w L (some ⟨b, o, none⟩) xs) (c : Nat) : z0F w L (some ⟨b, o + c * 2, none⟩) (xs.drop c) := by
 intro hp;have hl : (xs.drop c).length = xs.length - c := List.length_drop;obtain ⟨b', o', e, hb, hc⟩ := h (by omega);cases e;refine ⟨b, o + c * 2, rfl, hb, fun i hi => ?_⟩;obtain ⟨p, h0, h1, h2⟩ := hc (c + i) (by omega);have e : o + (c + i) * 2 = o + c * 2 + i * 2 := by omega
 rw [e] at h0 h1;exact ⟨p, h0, h1, by rw [List.getElem_drop]; exact h2⟩
def z79 (f : Hd -> Value) (R : List Hd) (i : Nat) : List Value := (R.take i).map f ++ List.replicate (R.length - i) (.slice none 0 0)
theorem z7T (f : Hd -> Value) (R : List Hd) : z79 f R 0 = List.replicate R.length (.slice none 0 0) := by simp [z79]
theorem zbA (f : Hd -> Value) (R : List Hd) : z79 f R R.length = R.map f := by simp [z79]
theorem z86 (f : Hd -> Value) {R : List Hd} {i : Nat} (hi : i < R.length) : (z79 f R i).set i (f R[i]) = z79 f R (i + 1) := by
 unfold z79;have hl : ((R.take i).map f).length = i := by simp; omega
 have e1 : R.length - i = (R.length - (i + 1)) + 1 := by omega
 rw [List.set_append_right _ _ (by omega), hl, Nat.sub_self, e1, List.replicate_succ, List.set_cons_zero, List.take_succ_eq_append_getElem hi, List.map_append, List.append_assoc];rfl
theorem z7s {w : World} {L b : Nat} {R : List Hd} {g : Hd -> Value} (f : Hd -> List Int) (hb : z00 w b 22 (R.map g)) (hg : ∀ h ∈ R, ∃ ao cap, g h = .slice ao (f h).length cap /\ z0F w L ao (f h)) : z3X w L b (R.map f) := by
 refine ⟨hb.lt, fun i hi => ?_⟩;have hi' : i < R.length := by simpa using hi
 obtain ⟨ao, cap, e, h⟩ := hg R[i] (List.getElem_mem hi');refine ⟨ao, cap, ?_, by simpa using h⟩;rw [hb.cell, List.getElem?_map, List.getElem?_eq_getElem hi'];simp [e]
theorem z9P {w : World} {o : Oper} {a : Act} {K : Act -> World -> Prop} {Q : Exit -> Act -> World -> Prop} (l : Operand) (hop : o.op = Op.makeSlice 82 l l) (n : Nat) (hl : a.eval l = .int .i64 (n : Int)) (b2 : n <= 1000000)
 (hK : ∀ w', z00 w' w.heap.size 22 (List.replicate n (.slice none 0 0)) -> Below w.heap.size w w' -> K (a.put o.dst (.slice (some ⟨w.heap.size, 0, none⟩) n n)) w') : Oper.wp Tryz.prog o a w K Q := by
 obtain ⟨i, hi, hz, hs, hb⟩ := info_parts z77;have h63 : (n : Int) <= 9223372036854775807 := by omega
 have hb' : (i.bytes : Int) * (n : Int) <= 281474976710656 := by rw [hb]; omega
 have hr := run_make (P := Tryz.prog) w 82 22 i (.slice none 0 0) Tryz.underlying82 hi hz .i64 .i64 n n (by omega) (by omega) hb' h63;simp only [Int.toNat_natCast] at hr;unfold Oper.wp;simp [execOp, hop, hl, hr, Result.andThen];refine hK _ ?_ ((Below.refl _ _).alloc (Nat.le_refl _) _);have h := z00.new w (madeCells (Value.slice none 0 0).cells (n * i.size)) 22;rw [hs, z81] at h;simpa [hs] using h
structure MkJ (w : World) (g r : Nat) (L : Nat -> Bool) (x : Nat -> Value) (w' : World) : Prop where
 fr : Below w.heap.size w w'
 p0 : L 0 = true -> x 66 = .pointer (some ⟨g, 0, none⟩)
 p1 : L 1 = true -> x 67 = .int .i64 (r : Int)
 p3 : L 3 = true -> x 69 = .pointer (some ⟨g, 0, none⟩)
 p4 : L 4 = true -> x 70 = .int .i64 (r : Int)
 p2 : L 2 = true -> ∃ a, x 68 = .slice (some ⟨a, 0, none⟩) r r /\ w.heap.size <= a /\ z00 w' a 22 (List.replicate r (.slice none 0 0))
 p5 : L 5 = true -> ∃ a, x 71 = .slice (some ⟨a, 0, none⟩) r r /\ w.heap.size <= a /\ z00 w' a 22 (List.replicate r (.slice none 0 0))
 ap : L 2 = true -> L 5 = true -> x 68 ≠ x 71
 p6 : L 6 = true -> x 12 = x 68
 p7 : L 7 = true -> x 13 = x 71
theorem MkJ.u0 {w w' : World} {g r : Nat} {L : Nat -> Bool} {x : Nat -> Value} (h : MkJ w g r L x w') : MkJ w g r (z11 L 0) (z0k x 66 (.pointer (some ⟨g, 0, none⟩))) w' := ⟨h.fr, fun _ => rfl, h.p1, h.p3, h.p4, h.p2, h.p5, h.ap, h.p6, h.p7⟩
theorem MkJ.u1 {w w' : World} {g r : Nat} {L : Nat -> Bool} {x : Nat -> Value} (h : MkJ w g r L x w') : MkJ w g r (z11 L 1) (z0k x 67 (.int .i64 (r : Int))) w' := ⟨h.fr, h.p0, fun _ => rfl, h.p3, h.p4, h.p2, h.p5, h.ap, h.p6, h.p7⟩
theorem MkJ.u3 {w w' : World} {g r : Nat} {L : Nat -> Bool} {x : Nat -> Value} (h : MkJ w g r L x w') : MkJ w g r (z11 L 3) (z0k x 69 (.pointer (some ⟨g, 0, none⟩))) w' := ⟨h.fr, h.p0, h.p1, fun _ => rfl, h.p4, h.p2, h.p5, h.ap, h.p6, h.p7⟩
theorem MkJ.u4 {w w' : World} {g r : Nat} {L : Nat -> Bool} {x : Nat -> Value} (h : MkJ w g r L x w') : MkJ w g r (z11 L 4) (z0k x 70 (.int .i64 (r : Int))) w' := ⟨h.fr, h.p0, h.p1, h.p3, fun _ => rfl, h.p2, h.p5, h.ap, h.p6, h.p7⟩
theorem MkJ.u2 {w w' w'' : World} {g r : Nat} {L : Nat -> Bool} {x : Nat -> Value} (h : MkJ w g r L x w') (hb : Below w'.heap.size w' w'') (hr : z00 w'' w'.heap.size 22 (List.replicate r (.slice none 0 0))) (h6 : L 6 = false) :
 MkJ w g r (z11 L 2) (z0k x 68 (.slice (some ⟨w'.heap.size, 0, none⟩) r r)) w'' :=
 ⟨h.fr.trans (hb.mono h.fr.size), h.p0, h.p1, h.p3, h.p4, fun _ => ⟨_, rfl, h.fr.size, hr⟩, fun h5 => by obtain ⟨a, e, k, q⟩ := h.p5 h5; exact ⟨a, e, k, q.below hb q.lt⟩,
  fun _ h5 e => by
   obtain ⟨a, e2, k, q⟩ := h.p5 h5;have e : Value.slice (some ⟨w'.heap.size, 0, none⟩) r r = x 71 := e;rw [e2] at e;injection e with e
   injection e with e
   injection e with e
   have := q.lt;omega,
  fun h7 => (by have h7 : L 6 = true := h7; rw [h6] at h7; cases h7), h.p7⟩
theorem MkJ.u5 {w w' w'' : World} {g r : Nat} {L : Nat -> Bool} {x : Nat -> Value} (h : MkJ w g r L x w') (hb : Below w'.heap.size w' w'') (hr : z00 w'' w'.heap.size 22 (List.replicate r (.slice none 0 0))) (h7 : L 7 = false) :
 MkJ w g r (z11 L 5) (z0k x 71 (.slice (some ⟨w'.heap.size, 0, none⟩) r r)) w'' :=
 ⟨h.fr.trans (hb.mono h.fr.size), h.p0, h.p1, h.p3, h.p4, fun h5 => by obtain ⟨a, e, k, q⟩ := h.p2 h5; exact ⟨a, e, k, q.below hb q.lt⟩, fun _ => ⟨_, rfl, h.fr.size, hr⟩,
  fun h5 _ e => by
   obtain ⟨a, e2, k, q⟩ := h.p2 h5;have e : x 68 = Value.slice (some ⟨w'.heap.size, 0, none⟩) r r := e;rw [e2] at e;injection e with e
   injection e with e
   injection e with e
   have := q.lt;omega,
  h.p6, fun h8 => (by have h8 : L 7 = true := h8; rw [h7] at h8; cases h8)⟩
theorem MkJ.u6 {w w' : World} {g r : Nat} {L : Nat -> Bool} {x : Nat -> Value} (h : MkJ w g r L x w') {v : Value} (e : x 68 = v) : MkJ w g r (z11 L 6) (z0k x 12 v) w' := ⟨h.fr, h.p0, h.p1, h.p3, h.p4, h.p2, h.p5, h.ap, fun _ => e.symm, h.p7⟩
theorem MkJ.u7 {w w' : World} {g r : Nat} {L : Nat -> Bool} {x : Nat -> Value} (h : MkJ w g r L x w') {v : Value} (e : x 71 = v) : MkJ w g r (z11 L 7) (z0k x 13 v) w' := ⟨h.fr, h.p0, h.p1, h.p3, h.p4, h.p2, h.p5, h.ap, h.p6, fun _ => e.symm⟩
structure VJ (n s1 s2 : Nat) (D : Nat -> Nat) (V : Nat -> Value) (W : Bool -> Bool -> World) (L : Nat -> Bool) (x : Nat -> Value) (w' : World) : Prop where
 v : ∀ k, k < n -> k ≠ s1 -> k ≠ s2 -> L k = true -> x (D k) = V k
 w : w' = W (L s1) (L s2)
theorem VJ.pure {n s1 s2 : Nat} {D : Nat -> Nat} {V : Nat -> Value} {W : Bool -> Bool -> World} {L : Nat -> Bool} {x : Nat -> Value} {w' : World} (h : VJ n s1 s2 D V W L x w') (k : Nat) (hD : ((List.range n).all fun m => m == s1 || m == s2 || m == k || D m != D k) = true) (h1 : Nat.beq k s1 = false) (h2 : Nat.beq k s2 = false) :
 VJ n s1 s2 D V W (z11 L k) (z0k x (D k) (V k)) w' := by
 have h1 : k ≠ s1 := fun e => by subst e; simp at h1
 have h2 : k ≠ s2 := fun e => by subst e; simp at h2
 refine ⟨fun m hm hm1 hm2 hL => ?_, ?_⟩
 · unfold z0k;by_cases e : m = k
   · subst e; rw [if_pos rfl]
   · have h3 := List.all_eq_true.1 hD m (List.mem_range.2 hm);simp only [Bool.or_eq_true, beq_iff_eq, bne_iff_ne] at h3;rw [if_neg (by rcases h3 with ((h3 | h3) | h3) | h3 <;> first | exact h3 | omega)];unfold z11 at hL;rw [if_neg e] at hL;exact h.v m hm hm1 hm2 hL
 · show w' = W (z11 L k s1) (z11 L k s2);unfold z11;rw [if_neg (Ne.symm h1), if_neg (Ne.symm h2)];exact h.w
theorem VJ.st1 {n s1 s2 : Nat} {D : Nat -> Nat} {V : Nat -> Value} {W : Bool -> Bool -> World} {L : Nat -> Bool} {x : Nat -> Value} {w' w'' : World} (h : VJ n s1 s2 D V W L x w') (h12 : Nat.beq s2 s1 = false) (h2 : L s2 = false) (hw : w'' = W true false) : VJ n s1 s2 D V W (z11 L s1) x w'' := by
 have h12 : s2 ≠ s1 := fun e => by subst e; simp at h12
 refine ⟨fun m hm hm1 hm2 hL => h.v m hm hm1 hm2 (by unfold z11 at hL; rw [if_neg hm1] at hL; exact hL), ?_⟩;unfold z11;rw [if_pos rfl, if_neg h12, h2];exact hw
theorem VJ.st2 {n s1 s2 : Nat} {D : Nat -> Nat} {V : Nat -> Value} {W : Bool -> Bool -> World} {L : Nat -> Bool} {x : Nat -> Value} {w' w'' : World} (h : VJ n s1 s2 D V W L x w') (h12 : Nat.beq s1 s2 = false) (h1 : L s1 = true) (hw : w'' = W true true) : VJ n s1 s2 D V W (z11 L s2) x w'' := by
 have h12 : s1 ≠ s2 := fun e => by subst e; simp at h12
 refine ⟨fun m hm hm1 hm2 hL => h.v m hm hm1 hm2 (by unfold z11 at hL; rw [if_neg hm2] at hL; exact hL), ?_⟩;unfold z11;rw [if_pos rfl, if_neg h12, h1];exact hw
theorem list9 {cs : List Value} (h : cs.length = 9) : ∃ a b c d e f g i j, cs = [a, b, c, d, e, f, g, i, j] := by
 match cs, h with
 | [a, b, c, d, e, f, g, i, j], _ => exact ⟨a, b, c, d, e, f, g, i, j, rfl⟩
def z8h (b1 b2 r c : Nat) : List Value := [.int .i64 (r : Int), .int .i64 (c : Int), .slice (some ⟨b1, 0, none⟩) (r * c) (r * c), .int .i64 (r : Int), .int .i64 (r : Int), .slice (some ⟨b2, 0, none⟩) (r * r) (r * r), .int .i64 0, .int .i64 0, .slice none 0 0]
theorem NoW.z1y (b1 b2 r c : Nat) : NoW (z8h b1 b2 r c) := NoW.i64 (NoW.i64 (NoW.slice (NoW.i64 (NoW.i64 (NoW.slice (NoW.i64 (NoW.i64 (NoW.slice NoW.nil))))))))
def CV.z1y (B r c : Nat) (hs us : List Int) : CV := ⟨fun w v => ∃ b1 b2 : Nat, v = z8h b1 b2 r c /\ B <= b1 /\ z0c w b1 hs /\ B <= b2 /\ z0c w b2 us, fun ⟨b1, b2, e, h1, h2, h3, h4⟩ hb => ⟨b1, b2, e, h1, h2.below hb, h3, h4.below hb⟩, isI,
 fun ⟨b1, b2, e, h1, h2, h3, h4⟩ hr hn _ hb i u _ => ⟨b1, b2, e, h1, h2.z2k hr (z7z hb) hn i u, h3, h4.z2k hr (z7z hb) hn i u⟩⟩
def AV.z1y (B r c : Nat) (hs us : List Int) : AV := ⟨fun w v => ∃ b1 b2 : Nat, v = .agg (z8h b1 b2 r c).toArray /\ B <= b1 /\ z0c w b1 hs /\ B <= b2 /\ z0c w b2 us, fun ⟨b1, b2, e, h1, h2, h3, h4⟩ hb => ⟨b1, b2, e, h1, h2.below hb, h3, h4.below hb⟩, isI,
 fun ⟨b1, b2, e, h1, h2, h3, h4⟩ hr hn _ hb i u _ => ⟨b1, b2, e, h1, h2.z2k hr (z7z hb) hn i u, h3, h4.z2k hr (z7z hb) hn i u⟩⟩
theorem z5x {fn : Func} {p q : Tmp} (h : fn.results = #[.cell p 53, .tmp q]) (tmps : Array Value) (w : World) (g : Nat) (a b c d e f x y z : Value) (hp : tmps.getD p undef = .pointer (some ⟨g, 0, none⟩)) (hr : z00 w g 53 [a, b, c, d, e, f, x, y, z]) :
 (results fn tmps).run Tryz.prog w = .ok (.tuple #[.agg #[a, b, c, d, e, f, x, y, z], tmps.getD q undef]) w := by
 have hp' : tmps[p]?.getD undef = .pointer (some ⟨g, 0, none⟩) := by simpa using hp
 simp [results, h, hp', asAddr, run_loadVar_row w g 53 53 #[a, b, c, d, e, f, x, y, z] (0, 0) _ hr Tryz.underlying53 rfl (by kernel_rfl)]
def z14 (xs : List Int) (c lo d : Nat) : List Int := (xs.drop (lo * c)).take (d * c)
theorem z2o {xs : List Int} {r c lo d : Nat} (hs : xs.length = r * c) (h : lo + d <= r) : (z14 xs c lo d).length = d * c := by
 have h1 : (lo + d) * c <= r * c := Nat.mul_le_mul_right _ h;have h2 : (lo + d) * c = lo * c + d * c := Nat.add_mul ..;unfold z14;simp; omega
theorem z6f {xs : List Int} {r c lo d : Nat} (hs : xs.length = r * c) (h : lo + d <= r) (a b : Nat) (ha : a < d) : z0d (z14 xs c lo d) d c a b = z0d xs r c (lo + a) b := by
 by_cases hb : b < c
 · have h1 := z2U (r := d) ha hb;have h3 : (lo + a) * c = lo * c + a * c := Nat.add_mul ..;rw [z0Z ha hb, z0Z (by omega) hb, h3];unfold z14;rw [List.getD_eq_getElem?_getD, List.getD_eq_getElem?_getD, List.getElem?_take_of_lt h1, List.getElem?_drop, Nat.add_assoc]
 · rw [z1D _ (by omega), z1D _ (by omega)]
theorem z0F.z14 {w : World} {L cap r c lo d : Nat} {ao : Option Addr} {xs : List Int} (h : z0F w L ao xs) (hs : xs.length = r * c) (hr : lo + d <= r) (hcap : xs.length <= cap) : z0F w L (z2f ao cap (lo * c)) (z14 xs c lo d) := by
 intro hp;have hl := z2o hs hr;have h1 : (lo + d) * c <= r * c := Nat.mul_le_mul_right _ hr;have h2 : (lo + d) * c = lo * c + d * c := Nat.add_mul ..;obtain ⟨b, o, rfl, hb, hcs⟩ := h (by omega);refine ⟨b, o + lo * c * 2, ?_, hb, fun j hj => ?_⟩
 · unfold z2f;rw [if_neg (by omega)];simp [Addr.add]
 · obtain ⟨p, e0, e1, e2⟩ := hcs (lo * c + j) (by omega);have e : o + (lo * c + j) * 2 = o + lo * c * 2 + j * 2 := by omega
   rw [e] at e0 e1;refine ⟨p, e0, e1, ?_⟩;have e3 : (Go.Proofs.YtknkkceioockjaaGreat.z14 xs c lo d)[j] = xs[lo * c + j]'(by omega) := by simp [Go.Proofs.YtknkkceioockjaaGreat.z14]
   rw [e3];exact e2
theorem zar {xs : List Int} {c lo d : Nat} {x : Int} (h : x ∈ z14 xs c lo d) : x ∈ xs := List.mem_of_mem_drop (List.mem_of_mem_take h)
set_option maxRecDepth 100000 in
set_option maxHeartbeats 4000000 in
theorem zaM (r c lo hi : Nat) (ao : Option Addr) (cap : Nat) (xs : List Int) (w : World) (hr : r <= 64) (hc : c <= 64) (hs : xs.length = r * c) (hcap : xs.length <= cap) (h1 : lo <= hi) (h2 : hi <= r) :
 Calls Tryz.prog 28 #[.agg #[.int .i64 (r : Int), .int .i64 (c : Int), .slice ao xs.length cap], .int .i64 (lo : Int), .int .i64 (hi : Int)] w fun e w' => e = .returned (.agg #[.int .i64 ((hi - lo : Nat) : Int), .int .i64 (c : Int), .slice (z2f ao cap (lo * c)) ((hi - lo) * c) (cap - lo * c)]) /\ Below w.heap.size w w' := by
 have hrc : r * c <= 4096 := Nat.mul_le_mul hr hc;have hic : hi * c <= r * c := Nat.mul_le_mul_right _ h2;have hlc : lo * c <= hi * c := Nat.mul_le_mul_right _ h1;have hdc : (hi - lo) * c = hi * c - lo * c := Nat.sub_mul ..;obtain ⟨d, hd⟩ : ∃ d, hi - lo = d := ⟨_, rfl⟩;obtain ⟨P, hP⟩ : ∃ P, lo * c = P := ⟨_, rfl⟩;obtain ⟨P1, hP1⟩ : ∃ P, hi * c = P := ⟨_, rfl⟩;rw [hd] at hdc ⊢;obtain ⟨D, hD⟩ : ∃ D, d * c = D := ⟨_, rfl⟩;rw [hP, hP1] at hlc;rw [hP1] at hic;rw [hD, hP, hP1] at hdc;rw [hP, hD];have hw1 : IntKind.i64.wrap ((hi : Int) - (lo : Int)) = (d : Int) := by rw [show (hi : Int) - (lo : Int) = (d : Int) by omega]; exact wrap_small (by omega) (by omega)
 have hw2 : IntKind.i64.wrap ((lo : Int) * (c : Int)) = (P : Int) := by rw [<- Int.natCast_mul, hP]; exact wrap_small (by omega) (by omega)
 have hw3 : IntKind.i64.wrap ((hi : Int) * (c : Int)) = (P1 : Int) := by rw [<- Int.natCast_mul, hP1]; exact wrap_small (by omega) (by omega)
 have hP1c : P1 <= cap := by omega
 have hPd : P1 - P = D := by omega
 have hPP1 : P <= P1 := hlc;clear hdc hD hP hP1 hd hic hrc hs hlc;obtain ⟨r1, r2, hb⟩ := z0H w #[.int .i64 (r : Int), .int .i64 (c : Int), .slice ao xs.length cap] #[.int .i64 0, .int .i64 0, .slice none 0 0] 24 24;go_enter Tryz.func28, Tryz.ntmps28;go_wp2_with fail
 generalize (w.alloc (.cells #[.int .i64 (r : Int), .int .i64 (c : Int), .slice ao xs.length cap] 24)).alloc (.cells #[.int .i64 0, .int .i64 0, .slice none 0 0] 24) = w1 at *;have R2 := Lib.hid r2;have HB := Lib.hid hb;have ca1 : w1.cell? ⟨w.heap.size, 1, none⟩ = some (.int .i64 (c : Int)) := r1.cell 1;have ca2 : w1.cell? ⟨w.heap.size, 2, none⟩ = some (.slice ao xs.length cap) := r1.cell 2;have hl : w.heap.size < w1.heap.size := r1.lt;clear r1 r2 hb;refine z0M ⟨17, fun q_ => [7, 8, 9, 10, 11, 12, 13, 14, 15, 16, 17, 18, 19, 20, 21, 22, 23].getD q_ 0,
  fun q_ => [.val (.int .i64 (hi : Int)), .val (.int .i64 (lo : Int)), .val (.int .i64 (d : Int)), .val (.pointer (some ⟨w.heap.size, 1, none⟩)), .val (.int .i64 (c : Int)), .val (.pointer (some ⟨w.heap.size, 2, none⟩)), .val (.slice ao xs.length cap), .val (.int .i64 (lo : Int)), .val (.pointer (some ⟨w.heap.size, 1, none⟩)), .val (.int .i64 (c : Int)), .val (.int .i64 (P : Int)), .val (.int .i64 (hi : Int)), .val (.pointer (some ⟨w.heap.size, 1, none⟩)), .val (.int .i64 (c : Int)), .val (.int .i64 (P1 : Int)), .val (.slice (z2f ao cap P) D (cap - P)), .val (.agg #[.int .i64 (d : Int), .int .i64 (c : Int), .slice (z2f ao cap P) D (cap - P)])].getD q_ .any,
  [],
  [],
  [],
  [], [(⟨w.heap.size, 1, none⟩, .int .i64 (c : Int)), (⟨w.heap.size, 2, none⟩, .slice ao xs.length cap)], []⟩ [7, 8, 9, 10, 11, 12, 13, 14, 15, 16, 17, 18, 19, 20, 21, 22, 23] (w1.heap.size) (by kernel_rfl) (by kernel_rfl) (by kernel_rfl) (by kernel_rfl) (by kernel_rfl) ?_ ?_ ?_ ?_ ?_ ?_
 · exact z0h
 · exact z0h
 · exact z0q (⟨ca1, by dsimp only; omega, z0h⟩) (z0q (⟨ca2, by dsimp only; omega, z0h⟩) z0h)
 · exact z0h
 · refine z02 ?_ (z02 ?_ (z02 ?_ (z02 ?_ (z02 ?_ (z02 ?_ (z02 ?_ (z02 ?_ (z02 ?_ (z02 ?_ (z02 ?_ (z02 ?_ (z02 ?_ (z02 ?_ (z02 ?_ (z02 ?_ (z02 ?_ z2v))))))))))))))));any_goals (first | (intro L fx w' hJ hL hp hcl; have _ := hp0 hp (by decide +kernel); refine wps rfl fun K hK => ?_; go_simp; exact hJ.q hK (by kernel_rfl) rfl) | fail)
   · intro L fx w' hJ hL hp hcl;have e0 := hJ.pt 0 7 (.int .i64 (hi : Int)) rfl rfl rfl (hp 0 (by decide));rw [e0] at hJ ⊢; clear e0;have e1 := hJ.pt 1 8 (.int .i64 (lo : Int)) rfl rfl rfl (hp 1 (by decide));rw [e1] at hJ ⊢; clear e1;refine wps rfl fun K hK => ?_;go_simp;exact hJ.q hK (by kernel_rfl) rfl
   · intro L fx w' hJ hL hp hcl;have e3 := hJ.pt 3 10 (.pointer (some ⟨w.heap.size, 1, none⟩)) rfl rfl rfl (hp 3 (by decide));rw [e3] at hJ ⊢; clear e3;refine wps rfl fun K hK => ?_;have cl0 := (hJ.cells _ mm0).1;try dsimp only at cl0
     go_simp;exact hJ.q hK (by kernel_rfl) rfl
   · intro L fx w' hJ hL hp hcl;have e5 := hJ.pt 5 12 (.pointer (some ⟨w.heap.size, 2, none⟩)) rfl rfl rfl (hp 5 (by decide));rw [e5] at hJ ⊢; clear e5;refine wps rfl fun K hK => ?_;have cl0 := (hJ.cells _ mm1).1;try dsimp only at cl0
     go_simp;exact hJ.q hK (by kernel_rfl) rfl
   · intro L fx w' hJ hL hp hcl;have e8 := hJ.pt 8 15 (.pointer (some ⟨w.heap.size, 1, none⟩)) rfl rfl rfl (hp 8 (by decide));rw [e8] at hJ ⊢; clear e8;refine wps rfl fun K hK => ?_;have cl0 := (hJ.cells _ mm0).1;try dsimp only at cl0
     go_simp;exact hJ.q hK (by kernel_rfl) rfl
   · intro L fx w' hJ hL hp hcl;have e7 := hJ.pt 7 14 (.int .i64 (lo : Int)) rfl rfl rfl (hp 7 (by decide));rw [e7] at hJ ⊢; clear e7;have e9 := hJ.pt 9 16 (.int .i64 (c : Int)) rfl rfl rfl (hp 9 (by decide));rw [e9] at hJ ⊢; clear e9;refine wps rfl fun K hK => ?_;go_simp;exact hJ.q hK (by kernel_rfl) rfl
   · intro L fx w' hJ hL hp hcl;have e12 := hJ.pt 12 19 (.pointer (some ⟨w.heap.size, 1, none⟩)) rfl rfl rfl (hp 12 (by decide));rw [e12] at hJ ⊢; clear e12;refine wps rfl fun K hK => ?_;have cl0 := (hJ.cells _ mm0).1;try dsimp only at cl0
     go_simp;exact hJ.q hK (by kernel_rfl) rfl
   · intro L fx w' hJ hL hp hcl;have e11 := hJ.pt 11 18 (.int .i64 (hi : Int)) rfl rfl rfl (hp 11 (by decide));rw [e11] at hJ ⊢; clear e11;have e13 := hJ.pt 13 20 (.int .i64 (c : Int)) rfl rfl rfl (hp 13 (by decide));rw [e13] at hJ ⊢; clear e13;refine wps rfl fun K hK => ?_;go_simp;exact hJ.q hK (by kernel_rfl) rfl
   · intro L fx w' hJ hL hp hcl;have e6 := hJ.pt 6 13 (.slice ao xs.length cap) rfl rfl rfl (hp 6 (by decide));rw [e6] at hJ ⊢; clear e6;have e10 := hJ.pt 10 17 (.int .i64 (P : Int)) rfl rfl rfl (hp 10 (by decide));rw [e10] at hJ ⊢; clear e10;have e14 := hJ.pt 14 21 (.int .i64 (P1 : Int)) rfl rfl rfl (hp 14 (by decide));rw [e14] at hJ ⊢; clear e14;refine wps rfl fun K hK => ?_;go_simp;exact hJ.q hK (by kernel_rfl) rfl
   · intro L fx w' hJ hL hp hcl;have e2 := hJ.pt 2 9 (.int .i64 (d : Int)) rfl rfl rfl (hp 2 (by decide));rw [e2] at hJ ⊢; clear e2;have e4 := hJ.pt 4 11 (.int .i64 (c : Int)) rfl rfl rfl (hp 4 (by decide));rw [e4] at hJ ⊢; clear e4;have e15 := hJ.pt 15 22 (.slice (z2f ao cap P) D (cap - P)) rfl rfl rfl (hp 15 (by decide));rw [e15] at hJ ⊢; clear e15;refine wps rfl fun K hK => ?_;go_simp;exact hJ.q hK (by kernel_rfl) rfl
 · intro L x' w3 hL hJ;have hfr : Below w1.drew.heap.size w1.drew w3 := hJ.fr;have e16 : x' 23 = .agg #[.int .i64 (d : Int), .int .i64 (c : Int), .slice (z2f ao cap P) D (cap - P)] := hJ.slot 16 (by show 16 < 17; decide) (hL 16 (by show 16 < 17; decide));rw [z07 (x := x') (d := 23) (v := .agg #[.int .i64 (d : Int), .int .i64 (c : Int), .slice (z2f ao cap P) D (cap - P)]) e16];have R3 := Lib.hid (z00.below (w := w1.drew) R2.out hfr R2.out.lt);have B3 := Lib.hid (HB.out.trans (((Below.refl w1.heap.size w1).drew.mono HB.out.size).trans (hfr.mono HB.out.size)));clear hJ hL e16 ca1 ca2;have z0 := R3.out.cell 0;have z1 := R3.out.cell 1;have z2 := R3.out.cell 2;have y0 := R3.out.free 0;have y1 := R3.out.free 1;have y2 := R3.out.free 2;refine wps rfl fun K hK => ?_;go_simp;refine hK _ _ ⟨⟨z0k x' 23 (.agg #[.int .i64 (d : Int), .int .i64 (c : Int), .slice (z2f ao cap P) D (cap - P)]), by kernel_rfl⟩, ?_⟩;clear hK;go_wp2;refine bodyPost_ret (z2u (p := 6) (by kernel_rfl) _ _ (w.heap.size + 1) _ _ _ rfl (R3.out.z4W (.int .i64 (d : Int)) (.int .i64 (c : Int)) (.slice (z2f ao cap P) D (cap - P)))) rfl ?_;exact ⟨rfl, ((B3.out.setCell (p := ⟨w.heap.size + 1, 0, none⟩) (Nat.le_succ _) _).setCell (p := ⟨w.heap.size + 1, 1, none⟩) (Nat.le_succ _) _).setCell (p := ⟨w.heap.size + 1, 2, none⟩) (Nat.le_succ _) _⟩
theorem z1a.zcD {n c : Nat} {E F : Nat -> Nat -> Int} {l : Nat -> Nat} (h : z1a n c E l) (e : ∀ i, i < n -> ∀ b, F i b = E i b) : z1a n c F l :=
 ⟨⟨h.inc, h.lt, fun i hi j hj => by rw [e i hi]; exact h.zero i hi j hj, fun i hi => by rw [e i hi]; exact h.pos i hi⟩, fun i k hik hk => by rw [e i (by omega), e k hk]; exact h.red i k hik hk⟩
theorem z4c.bas {r c k : Nat} {xs hs : List Int} {l : Nat -> Nat} (h : z4c r c xs hs k l) : z5B c r (z0d xs r c) (z14 hs c 0 k) k := by
 have e : ∀ i, i < k -> ∀ b, z0d (z14 hs c 0 k) k c i b = z0d hs r c i b := fun i hi b => by
  have := z6f (lo := 0) (d := k) h.len (by have := h.kr; omega) i b hi;rw [this, Nat.zero_add]
 exact ⟨z2o h.len (by have := h.kr; omega), ⟨l, h.z1y.zcD e⟩, h.sp.trans (z0B.of_eq (fun i hi b => (e i hi b).symm))⟩
theorem LsN.z14 {w : World} {cap r c lo d : Nat} {ao : Option Addr} {xs : List Int} (h : LsN w ao xs) (hs : xs.length = r * c) (hr : lo + d <= r) (hcap : xs.length <= cap) : LsN w (z2f ao cap (lo * c)) (z14 xs c lo d) := by
 intro hp;have hl := z2o hs hr;have h1 : (lo + d) * c <= r * c := Nat.mul_le_mul_right _ hr;have h2 : (lo + d) * c = lo * c + d * c := Nat.add_mul ..;obtain ⟨b, o, rfl, hb, hcs⟩ := h (by omega);by_cases e : cap = lo * c
 · omega
 refine ⟨b, o + lo * c * 2, ?_, hb, fun j hj => ?_⟩
 · unfold z2f;rw [if_neg e];simp [Addr.add]
 · obtain ⟨p, e0, e1, e2⟩ := hcs (lo * c + j) (by omega);have e : o + (lo * c + j) * 2 = o + lo * c * 2 + j * 2 := by omega
   rw [e] at e0 e1;refine ⟨p, e0, e1, ?_⟩;have e3 : (Go.Proofs.YtknkkceioockjaaGreat.z14 xs c lo d)[j] = xs[lo * c + j]'(by omega) := by simp [Go.Proofs.YtknkkceioockjaaGreat.z14]
   rw [e3];exact e2
structure TransT (r c : Nat) (xs hs us : List Int) (k : Nat) : Prop where
 ua : ∀ i j, i < r -> j < c -> sm r (fun q => z0d us r r i q * z0d xs r c q j) = z0d hs r c i j
 hnf : ∃ l, z4c r c xs hs k l
 ker : ∃ l, z1a (r - k) r (z0d (z14 us r k (r - k)) (r - k) r) l
 red : ∀ i, i < k -> ∀ l, z1a (r - k) r (z0d (z14 us r k (r - k)) (r - k) r) l -> ∀ q, q < r - k -> 0 <= z0d us r r i (l q) /\ z0d us r r i (l q) < z0d (z14 us r k (r - k)) (r - k) r q (l q)
theorem z6m.trans {r c m : Nat} {xs hs us ws : List Int} (h : z6m r c m xs hs us ws) : ∃ k, k <= r /\ TransT r c xs hs us k := by
 obtain ⟨E, l, hH, hh, hu⟩ := h.z1y;obtain ⟨k, hk, p1, p2, p3, p4⟩ := zaH hH hh hu;have ua : ∀ i j, i < r -> j < c -> sm r (fun q => z0d us r r i q * z0d xs r c q j) = z0d hs r c i j := fun i j hi hj => by
  have e1 : sm r (fun q => z0d us r r i q * z0d xs r c q j) = sm r (fun q => sm r (fun p => z0d us r r i q * z0d ws r r q p * z0d hs r c p j)) := z0z fun q hq => by
   rw [<- h.wh q j hq hj, <- z3j];exact z0z fun p _ => by rw [Int.mul_assoc]
  rw [e1, zb5, z3A i hi (fun p hp hpi => by rw [z3z, h.uw i p hi hp, if_neg (fun e => hpi e.symm), Int.zero_mul]), z3z, h.uw i i hi hi, if_pos rfl, Int.one_mul]
 have hpe : ∀ a, a < r - k -> ∀ b, z0d (z14 us r k (r - k)) (r - k) r a b = z0d us r r (k + a) b := fun a ha b => z6f (r := r) h.ul (by omega) a b ha;have hker := p3.zcD hpe;refine ⟨k, hk, ua, ⟨l, h.hl, hk, p1, p2, ⟨fun i hi => ⟨fun q => z0d ws r r i q, fun j => ?_⟩, fun i hi => ⟨fun q => z0d us r r i q, fun j => ?_⟩⟩⟩, ⟨_, hker⟩, fun i hi l' hl' q hq => ?_⟩
 · by_cases hj : j < c
   · rw [<- h.wh i j hi hj];exact sm_cut hk (fun q h1 _ => by rw [p2 q h1 j, Int.mul_zero])
   · rw [z1D _ (by omega), z2q (fun q _ => by rw [z1D _ (by omega), Int.mul_zero])]
 · by_cases hj : j < c
   · exact (ua i j (by omega) hj).symm
   · rw [z1D _ (by omega), z2q (fun q _ => by rw [z1D _ (by omega), Int.mul_zero])]
 · obtain ⟨_, e, _⟩ := hl'.unique hker (z0B.refl _ _);rw [e q hq, hpe q hq];exact p4 i q hi hq
theorem z8Q {r c : Nat} {zs ys : List Int} (hz : zs.length = r * c) (hy : ys.length = r * c) (h : ∀ i j, i < r -> j < c -> zs.getD (i * c + j) 0 = z0d ys r c i j) : zs = ys :=
 z6V hz hy fun i j hi hj => by rw [z0Z hi hj]; exact h i j hi hj
end Go.Proofs.YtknkkceioockjaaGreat
namespace Go.Proofs.YtknkkceioockjaaGreat
def z1l (n : Nat) (R : List Hd) : Prop := ∀ h ∈ R, n <= h.cap
theorem z4F {n : Nat} {R : List Hd} (h : z1l n R) (i : Nat) (xs : List Int) : z1l n (z1f R i xs) := fun x hx => by
 obtain ⟨k, hk, rfl⟩ := List.getElem_of_mem hx;have hk' : k < R.length := by rw [z06] at hk; exact hk
 have := h _ (List.getElem_mem hk');rw [z1h hk'];split <;> exact this
theorem z7X {n : Nat} {R : List Hd} (h : z1l n R) (i j : Nat) : z1l n (swapT R i j) := by
 unfold swapT; split
 · rename_i e;intro x hx;rcases List.mem_or_eq_of_mem_set hx with hx | rfl
   · rcases List.mem_or_eq_of_mem_set hx with hx | rfl
     · exact h x hx
     · exact h _ (List.getElem_mem _)
   · exact h _ (List.getElem_mem _)
 · exact h
theorem zbg {n : Nat} {R : List Hd} (h : z1l n R) (i : Nat) : z1l n (z0L R i) := by
 unfold z0L; split
 · exact z4F h _ _
 · exact h
theorem z7G {n : Nat} {R : List Hd} (h : z1l n R) (i j : Nat) (k : Int) : z1l n (z32 R i j k) := by
 unfold z32; split
 · exact z4F h _ _
 · exact h
theorem zca {n : Nat} {R : List Hd} (h : z1l n R) (i j : Nat) (a b c d : Int) : z1l n (z4G R i j a b c d) := by
 unfold z4G; split
 · exact z4F (z4F h _ _) _ _
 · exact h
theorem zba {n : Nat} {R : List Hd} (h : z1l n R) (a b j : Nat) : z1l n (z1m R a b j) := by
 unfold z1m; split
 · exact z7G h _ _ _
 · exact zca (z7G h _ _ _) _ _ _ _ _ _
theorem zdW {m B c i n k : Nat} {ls : List Nat} {R R' : List Hd} (h : SIn B c ls i n k R R') : z1l m R -> z1l m R' := by
 induction h with
 | done _ => exact id
 | step _ _ _ _ _ ih => exact fun h => ih (z7G h _ _ _)
theorem z9G {q B c n m : Nat} {ls : List Nat} {R R' : List Hd} (h : z3m B c ls n m R R') : z1l q R -> z1l q R' := by
 induction h with
 | done => exact id
 | step h1 _ ih => exact fun h => ih (zdW h1 h)
theorem z6R {q : Nat} (a : Nat) : ∀ (i : Nat) (R : List Hd), z1l q R -> z1l q (z0u a i R)
 | 0, R, h => h
 | i + 1, R, h => by
  unfold z0u; split
  · exact h
  · exact z6R a i _ (z7X h _ _)
theorem z9W {q : Nat} : ∀ (k i : Nat) (R : List Hd), z1l q R -> z1l q (z6c k i R)
 | 0, _, R, h => h
 | k + 1, i, R, h => z9W k (i + 1) _ (z7X h _ _)
theorem z9g {q B c n a : Nat} {l : Int} {R R' : List Hd} {b : Bool} (h : z4n B c n a l R b R') : z1l q R -> z1l q R' := by
 induction h with
 | zero _ _ hs => exact z9G hs
 | stop _ _ _ _ _ _ _ _ _ hs =>
  refine fun h => z9G hs (z6R _ _ _ ?_);split
  · exact zbg h _
  · exact h
 | meet _ _ _ _ _ _ _ _ _ _ _ _ ih => exact fun h => ih (zba h _ _ _)
theorem zcC {q B c d e k : Nat} {R R' : List Hd} (h : z58 B c d e R k R') : z1l q R -> z1l q R' := by
 induction h with
 | fin _ => exact id
 | ok _ hp _ ih => exact fun h => ih (z9g hp h)
 | zero _ hp _ ih => exact fun h => ih (z9W _ _ _ (z9g hp h))
end Go.Proofs.YtknkkceioockjaaGreat
namespace Go.Proofs.YtknkkceioockjaaGreat
open Go.RowKit
theorem zcq {r c m : Nat} {xs us : List Int} {R R1 V : List Hd} (hr : r <= 64) (hc : c <= 64) (hT : z4U R xs us c r r R1) (hR : R.length = r) (hx : xs.length = r * c) (hus : z2y r (fun i j => if i = j then (1 : Int) else 0) (r * r) = us)
 (hVl : V.length = r) (hVx : ∀ k (hk : k < V.length), V[k].xs = rowOf us r k) (hm : ∀ x ∈ xs, x.natAbs < W ^ m) (hm0 : 1 <= m) :
 Sh (c + r) R1 /\ Sh r V /\ (∀ x q, x < r -> q < r -> ent R1 x (c + q) = if x = q then 1 else 0) /\ (∀ a b, a < r -> b < r -> ent V a b = if a = b then 1 else 0) /\ (∀ i b, b < c -> ent R1 i b = z0d xs r c i b) /\
  ∃ k R', z58 (z4j 66 m) (c + r) 0 r R1 k R' /\ z7a (c + r) (hW m) R1 k R' := by
 have hu : us.length = r * r := by rw [<- hus]; exact z10 ..
 have hR1 : R1.length = r := hT.1.trans hR;obtain ⟨h1, h2, h3⟩ := hT.ent hR hx hu;obtain ⟨v1, v2⟩ := z6U hVl hu hVx;have hun : ∀ i b, i < r -> b < r -> z0d us r r i b = if i = b then 1 else 0 := fun i b hi hb => by rw [<- hus]; exact zbc i b hi hb
 have hp : 1 < W ^ m := Nat.one_lt_two_pow_iff.2 (by omega) |> fun h => Nat.lt_of_lt_of_le h (Nat.pow_le_pow_left (by decide) m);have hb : ∀ i b, (ent R1 i b).natAbs < W ^ m := fun i b => by
  by_cases e : b < c
  · rw [h2 i b e]; exact z2R (z1v m) hm i b
  · have e2 : b = c + (b - c) := by omega
    rw [e2, h3];by_cases e3 : i < r /\ b - c < r
    · rw [hun _ _ e3.1 e3.2];split
      · exact hp
      · exact z1v m
    · have : z0d us r r i (b - c) = 0 := by
       by_cases e4 : i < r
       · exact z1D _ (by omega)
       · exact z3o (by omega) _
      rw [this]; exact z1v m
 obtain ⟨k, R', h4, h5⟩ := z5J (N := 66) (B := z4j 66 m) (m := m) h1 hb (by omega) (by omega) (Nat.le_refl _);rw [hR1] at h4;exact ⟨h1, v1, fun x q hx hq => by rw [h3]; exact hun x q hx hq, fun a b ha hb => by rw [v2]; exact hun a b ha hb, h2, k, R', h4, h5⟩
def W2 (w : World) (p q : Addr) (u v : Value) : Bool -> Bool -> World
 | false, _ => w
 | true, false => w.setCell p u
 | true, true => (w.setCell p u).setCell q v
theorem W2.cell {w : World} {p q a : Addr} {u v x : Value} (h : w.cell? a = some x) (hp : p.block ≠ a.block) (hq : q.block ≠ a.block) : ∀ s t, (W2 w p q u v s t).cell? a = some x
 | false, _ => h
 | true, false => (World.cell?_setCell_far _ _ _ _ hp).trans h
 | true, true => (World.cell?_setCell_far _ _ _ _ hq).trans ((World.cell?_setCell_far _ _ _ _ hp).trans h)
def topH (c : Nat) (h : Hd) : Value := .slice (some ⟨h.blk, 0, none⟩) c h.cap
def botH (c r : Nat) (h : Hd) : Value := .slice (z2f (some ⟨h.blk, 0, none⟩) h.cap c) r (h.cap - c)
theorem zcc (f : Hd -> Value) {R : List Hd} {i : Nat} : (z79 f R i).length = R.length := by
 unfold z79;rw [List.length_append, List.length_map, List.length_take, List.length_replicate];omega
theorem zcy {w : World} {b c r : Nat} {R : List Hd} (hb : z00 w b 22 (R.map (topH c))) (hx : ∀ h ∈ R, h.xs.length = c + r) (hR : ∀ h ∈ R, z0c w h.blk h.xs) (hw : ∀ h ∈ R, ∀ x ∈ h.xs, z04 x.natAbs <= 17592186044415) : z3X w 17592186044415 b (R.map (fun h => h.xs.take c)) :=
 z7s (fun h => h.xs.take c) hb (fun h hh => ⟨some ⟨h.blk, 0, none⟩, h.cap, by
  have : (h.xs.take c).length = c := by rw [List.length_take, hx h hh]; omega
  rw [this]; rfl, ((hR h hh).z3Q (hw h hh)).take c⟩)
theorem zcg {w : World} {b c r : Nat} {R : List Hd} (hb : z00 w b 22 (R.map (botH c r))) (hx : ∀ h ∈ R, h.xs.length = c + r) (hR : ∀ h ∈ R, z0c w h.blk h.xs) (hw : ∀ h ∈ R, ∀ x ∈ h.xs, z04 x.natAbs <= 17592186044415) (hcp : z1l (c + r) R) : z3X w 17592186044415 b (R.map (fun h => h.xs.drop c)) :=
 z7s (fun h => h.xs.drop c) hb (fun h hh => ⟨z2f (some ⟨h.blk, 0, none⟩) h.cap c, h.cap - c, by
  have : (h.xs.drop c).length = r := by rw [List.length_drop, hx h hh]; omega
  rw [this]; rfl, by
  have := hcp h hh;have hd := ((hR h hh).z3Q (hw h hh)).drop c;unfold z2f;split
  · intro hp;rw [List.length_drop, hx h hh] at hp;omega
  · have e : (some (⟨h.blk, 0, none⟩ : Addr)).map (·.add (c * 2)) = some ⟨h.blk, 0 + c * 2, none⟩ := by
     show some (Addr.add ⟨h.blk, 0, none⟩ (c * 2)) = _;unfold Addr.add;simp only;split
     · rename_i e; rw [e]
     · rfl
    rw [e]; exact hd⟩)
def AV.matF (B r c : Nat) (hs : List Int) : AV := ⟨fun w v => ∃ b : Nat, v = matV b r c /\ B <= b /\ z0c w b hs, fun ⟨b, e, h1, h2⟩ hb => ⟨b, e, h1, h2.below hb⟩, isI,
 fun ⟨b, e, h1, h2⟩ hr hn _ hb i u _ => ⟨b, e, h1, h2.z2k hr (z7z hb) hn i u⟩⟩
theorem z0c.z5F {b g : Nat} {t : TypeId} {hs : List Int} (ht : t ≠ 45) : ∀ (us : List Value) (k : Nat) {w : World} {cs : List Value}, z0c w b hs -> z00 w g t cs -> NoW cs -> NoW us -> z0c (z0N w g k us) b hs
 | [], _, _, _, h, _, _, _ => h
 | u :: us, k, _, _, h, hr, hn, hu => z0c.z5F ht us (k + 1) (h.z2k hr ht hn k u) (hr.set k u) (hn.set k hu.head) hu.tail
section
variable {w w' : World} (hb : Below w.heap.size w w')
include hb
theorem kR {b : Nat} {t : TypeId} {cs : List Value} (h : z00 w b t cs) : z00 w' b t cs := h.below hb h.lt
theorem kN {b : Nat} {xs : List Int} (h : z0c w b xs) : z0c w' b xs := h.below hb
theorem kM {o : Nat} {R : List Hd} (h : z0V w o R) : z0V w' o R := h.below hb
theorem kL {L : Nat} {ao : Option Addr} {xs : List Int} (h : z0F w L ao xs) : z0F w' L ao xs := h.below hb
theorem kB {w0 : World} (h : Below w0.heap.size w0 w) : Below w0.heap.size w0 w' := h.trans (hb.mono h.size)
end
theorem kA {p q p' q' : Prop} (f : p -> p') (g : q -> q') (h : p /\ q) : p' /\ q' := ⟨f h.1, g h.2⟩
theorem kH {p p' : Prop} (f : p -> p') (h : Hid p) : Hid p' := Lib.hid (f h.out)
theorem z0R {p q : Prop} (h : Hid p) (k : q) : Hid (q /\ p) := Lib.hid ⟨k, h.out⟩
end Go.Proofs.YtknkkceioockjaaGreat
