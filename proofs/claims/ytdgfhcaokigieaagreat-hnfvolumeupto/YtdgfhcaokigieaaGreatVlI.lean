/- Part 9 of 9 of the proof that the law HnfVolume returns true for every input of bulk at most 1048576 and leaves its arguments as they were: the law itself. -/
import Derived.Test.YtdgfhcaokigieaaGreatVlH
set_option linter.all false
namespace Go.Proofs.YtdgfhcaokigieaaGreat
open Go.RowKit
set_option maxRecDepth 100000 in
set_option maxHeartbeats 4000000 in
theorem Of18_c (n : Nat) (w : World) (h0 : 0 < n) (h1 : n < W) :
 Calls Tryz.prog 10 #[.int .u64 (n : Int)] w fun e w' => (e = .returned (.agg #[.bool false, .slice (some ⟨w.heap.size + 1, 0, none⟩) 1 1]) /\ NumAt w' (.agg #[.bool false, .slice (some ⟨w.heap.size + 1, 0, none⟩) 1 1]) (n : Int)) /\ Below w.heap.size w w' := by
 obtain ⟨r1, r2, hb⟩ := two_new w #[.bool false, .slice (some ⟨w.heap.size + 1, 0, none⟩) 1 1] #[.int .u64 (n : Int)] 37 41;have hw2 : WAt ((w.alloc (.cells #[.bool false, .slice (some ⟨w.heap.size + 1, 0, none⟩) 1 1] 37)).alloc (.cells #[.int .u64 (n : Int)] 41)) (some ⟨w.heap.size + 1, 0, none⟩) [n] := RowAt.wat (ws := [n]) r2 (Ok.one h1);have hv1 : nval [n] = n := by simp [nval]
 have hwl : wlen n = 1 := by
  have e1 : wlen n ≠ 0 := fun e => by have := wlen_eq_zero.1 e; omega
  have e2 : wlen n <= 1 := wlen_le_of_lt (by simpa using h1);omega
 have hI : IntAt ((w.alloc (.cells #[.bool false, .slice (some ⟨w.heap.size + 1, 0, none⟩) 1 1] 37)).alloc (.cells #[.int .u64 (n : Int)] 41)) (wlen ((n : Int)).natAbs) (.agg #[.bool false, .slice (some ⟨w.heap.size + 1, 0, none⟩) 1 1]) (n : Int) :=
  ⟨false, _, 1, 1, [n], rfl, hw2, rfl, by rw [Int.natAbs_natCast, hwl]; exact Nat.le_refl _, Nat.le_refl _, by rw [hv1]; rfl⟩
 have HI := Lib.hid hI;have HR6 := Lib.hid r1;have HB := Lib.hid hb;clear hI hw2 hv1 hb r2 r1 hwl;go_enter Tryz.func10, Tryz.ntmps10;go_wp2;refine bodyPost_ret (results_int (p := 2) (by kernel_rfl) _ _ w.heap.size _ _ rfl HR6.out) rfl ?_;exact ⟨⟨rfl, HI.out, ⟨_, by rw [show decide ((n : Int) < 0) = false by simp]⟩⟩, HB.out⟩
theorem hnf_wake : IsHnf 2 1 [4, 6] [2, 0] 1 (fun _ => 0) := by
 have e0 : ∀ i j, matE [2, 0] 2 1 i j = if i = 0 /\ j = 0 then 2 else 0 := fun i j => by
  unfold matE;by_cases h : i < 2 /\ j < 1
  · obtain ⟨h1, h2⟩ := h;obtain rfl : j = 0 := by omega
    rw [if_pos ⟨h1, h2⟩];have : i = 0 ∨ i = 1 := by omega
    rcases this with rfl | rfl <;> rfl
  · rw [if_neg h, if_neg (by omega)]
 have e1 : ∀ i j, matE [4, 6] 2 1 i j = if i = 0 /\ j = 0 then 4 else if i = 1 /\ j = 0 then 6 else 0 := fun i j => by
  unfold matE;by_cases h : i < 2 /\ j < 1
  · obtain ⟨h1, h2⟩ := h;obtain rfl : j = 0 := by omega
    rw [if_pos ⟨h1, h2⟩];have : i = 0 ∨ i = 1 := by omega
    rcases this with rfl | rfl <;> rfl
  · rw [if_neg h, if_neg (by omega), if_neg (by omega)]
 refine ⟨rfl, by omega, ⟨⟨fun i k _ _ => by omega, fun i _ => by omega, fun i _ j hj => by omega, fun i hi => ?_⟩, fun i k _ _ => by omega⟩, fun i hi b => ?_, ?_⟩
 · obtain rfl : i = 0 := by omega
   rw [e0]; decide
 · rw [e0, if_neg (by omega)]
 · refine ⟨fun k hk => ?_, fun k hk => ?_⟩
   · have hk' : k = 0 ∨ k = 1 := by omega
     rcases hk' with rfl | rfl
     · exact ((Sp.row (matE [2, 0] 2 1) (k := 0) (n := 1) (by omega)).smul 2).congr (fun j => by
        rw [e0, e1]; by_cases h : j = 0 <;> simp [h])
     · exact ((Sp.row (matE [2, 0] 2 1) (k := 0) (n := 1) (by omega)).smul 3).congr (fun j => by
        rw [e0, e1]; by_cases h : j = 0 <;> simp [h])
   · obtain rfl : k = 0 := by omega
     exact ((Sp.row (matE [4, 6] 2 1) (k := 1) (n := 2) (by omega)).sub (Sp.row (matE [4, 6] 2 1) (k := 0) (n := 2) (by omega))).congr (fun j => by
      rw [e0, e1, e1]; by_cases h : j = 0 <;> simp [h])
theorem row2 {w : World} {p q : P4} {x y : Int} (hp : NumAt w (av p) x) (hq : NumAt w (av q) y) : RowN (w.alloc (.cells #[.bool p.1, .slice p.2.1 p.2.2.1 p.2.2.2, .bool q.1, .slice q.2.1 q.2.2.1 q.2.2.2] 37)) w.heap.size [x, y] := by
 have hb : Below w.heap.size w (w.alloc (.cells #[.bool p.1, .slice p.2.1 p.2.2.1 p.2.2.2, .bool q.1, .slice q.2.1 q.2.2.1 q.2.2.2] 37)) := (Below.refl _ _).alloc (Nat.le_refl _) _;refine RowN.of (ps := [p, q]) (RowAt.new w _ _) rfl fun i h1 h2 => ?_;match i, h1, h2 with
 | 0, _, _ => exact NumAt.below hp hb
 | 1, _, _ => exact NumAt.below hq hb
set_option maxRecDepth 100000 in
set_option maxHeartbeats 4000000 in
theorem Wakes_c (w : World) :
 Calls Tryz.prog 4 #[] w fun e w' => e = .returned (.bool true) /\ Below w.heap.size w w' := by
 go_enter Tryz.func4, Tryz.ntmps4;go_wp2_with fail
 refine (Of18_c 4 _ (by omega) (by decide)).mono ?_;rintro e w1 ⟨⟨rfl, h4⟩, hb1⟩;have H4 := Lib.hid h4; clear h4;go_wp2_with fail
 refine (Of18_c 6 _ (by omega) (by decide)).mono ?_;rintro e w2 ⟨⟨rfl, h6⟩, hb2⟩;have HN4 := Lib.hid (NumAt.below H4.out hb2);have HN6 := Lib.hid h6;have HB2 := Lib.hid (hb1.trans (hb2.mono hb1.size));clear h6 hb1 hb2 H4;have hW6 : ∀ x ∈ ([4, 6] : List Int), x.natAbs < W ^ 1 := fun x hx => by simp at hx; rcases hx with rfl | rfl <;> decide
 have hrw := row2 (p := (false, some ⟨w.heap.size + 1, 0, none⟩, 1, 1)) (q := (false, some ⟨w1.heap.size + 1, 0, none⟩, 1, 1)) HN4.out HN6.out;have hb3 : Below w2.heap.size w2 (w2.alloc (.cells #[.bool false, .slice (some ⟨w.heap.size + 1, 0, none⟩) 1 1, .bool false, .slice (some ⟨w1.heap.size + 1, 0, none⟩) 1 1] 37)) := (Below.refl _ _).alloc (Nat.le_refl _) _;have HF3 := Lib.hid (Form_c 2 1 1 (some ⟨w2.heap.size, 0, none⟩) 2 2 [4, 6] _ (by omega) (by omega) (hrw.lsN.lsAt (fun x hx => Nat.le_trans (wlen_le_of_lt (hW6 x hx)) (by omega))) hW6 (by omega) rfl rfl);have HB3 := Lib.hid (HB2.out.trans (hb3.mono HB2.out.size));clear hrw hW6 hb3 HN4 HN6;go_wp2_with fail
 refine HF3.out.mono ?_;rintro e w4 ⟨⟨b, hs, k, l, rfl, hbb, hR, hH, hbd⟩, hb4⟩;obtain ⟨rfl, -, -⟩ := hH.unique hnf_wake;have HR := Lib.hid hR;have HB4 := Lib.hid (HB3.out.trans (hb4.mono HB3.out.size));have rB := RowAt.new w4 #[.int .i64 2, .int .i64 1, .slice (some ⟨b, 0, none⟩) 2 2] 24;have hb5 : Below w4.heap.size w4 (w4.alloc (.cells #[.int .i64 2, .int .i64 1, .slice (some ⟨b, 0, none⟩) 2 2] 24)) := (Below.refl _ _).alloc (Nat.le_refl _) _;clear hR hH hbd hb4 HF3;go_wp2;generalize w4.alloc (.cells #[.int .i64 2, .int .i64 1, .slice (some ⟨b, 0, none⟩) 2 2] 24) = w5 at *;have HR5 := Lib.hid (HR.out.below hb5);have HB5 := Lib.hid (HB4.out.trans (hb5.mono HB4.out.size));have RB := Lib.hid rB;have z0 := RB.out.cell 0;have z1 := RB.out.cell 1;have z2 := RB.out.cell 2;simp only [List.getElem?_cons_zero, List.getElem?_cons_succ] at z0 z1 z2;have hs5 : w4.heap.size < w5.heap.size := RB.out.lt;clear rB hb5;refine wp_region_any (by kernel_rfl) ?_;try (change wpAny _ _ _ _ _ _ _ (World.drew _))
 refine wpAny_take (i := 0) (v := ?_) rfl (by kernel_rfl) (by kernel_rfl) (by kernel_rfl) (fun _ _ _ h => h) (Or.inl ⟨by kernel_rfl, ?_⟩) ?_;rotate_left
 · intro w; go_simp; try (with_reducible rfl)
 refine wpAny_take (i := 1) (v := ?_) rfl (by kernel_rfl) (by kernel_rfl) (by kernel_rfl) (fun _ _ _ h => h) (Or.inl ⟨by kernel_rfl, ?_⟩) ?_;rotate_left
 · intro w; go_simp; try (with_reducible rfl)
 refine wpAny_take (i := 2) (v := ?_) rfl (by kernel_rfl) (by kernel_rfl) (by kernel_rfl) (fun _ _ _ h => h) (Or.inl ⟨by kernel_rfl, ?_⟩) ?_;rotate_left
 · intro w; go_simp; try (with_reducible rfl)
 refine wpAny_take (i := 5) (v := ?_) rfl (by kernel_rfl) (by kernel_rfl) (by kernel_rfl) (fun _ _ _ h => h) (Or.inl ⟨by kernel_rfl, ?_⟩) ?_;rotate_left
 · intro w; go_simp; try (with_reducible rfl)
 refine wpAny_ready (rs := [3, 4]) (by kernel_rfl) (by simp) ?_;refine AllReady.cons rfl (fun K hK => ?_) (AllReady.cons rfl (fun K hK => ?_) AllReady.nil)
 · go_simp;refine hK _ _ ?_;clear hK K;refine wpAny_ready (rs := [4]) (by kernel_rfl) (by simp) ?_;refine AllReady.cons rfl (fun K hK => ?_) AllReady.nil;go_simp;go_wp2_with (first | (go_at_call 10; refine (Of18_c 2 _ (by omega) (by decide)).mono ?_; rintro e w6 ⟨⟨rfl, h2⟩, hb6⟩; have H2 := Lib.hid h2; clear h2; have hs6 : w4.heap.size < w6.heap.size := Nat.lt_of_lt_of_le hs5 hb6.size; have y0 := (hb6.cell (p := ⟨w4.heap.size, 0, none⟩) hs5).trans z0; have y1 := (hb6.cell (p := ⟨w4.heap.size, 1, none⟩) hs5).trans z1; have y2 := (hb6.cell (p := ⟨w4.heap.size, 2, none⟩) hs5).trans z2))
   refine wpAny_ready (rs := [6]) (by kernel_rfl) (by simp) ?_;refine AllReady.cons rfl (fun K hK => ?_) AllReady.nil;go_simp;refine hK _ _ ?_;clear hK K;refine wpAny_take (i := 7) (v := ?_) rfl (by kernel_rfl) (by kernel_rfl) (by kernel_rfl) (fun _ _ _ h => h) (Or.inl ⟨by kernel_rfl, ?_⟩) ?_;rotate_left
   · intro w; go_simp; try (with_reducible rfl)
   have hrw := row2 (p := (false, some ⟨w5.heap.size + 1, 0, none⟩, 1, 1)) (q := p0) H2.out (NumAt.zero w6);have hb7 : Below w6.heap.size w6 (w6.alloc (.cells #[.bool false, .slice (some ⟨w5.heap.size + 1, 0, none⟩) 1 1, .bool false, .slice none 0 0] 37)) := (Below.refl _ _).alloc (Nat.le_refl _) _;have hb67 : Below w5.heap.size w5 (w6.alloc (.cells #[.bool false, .slice (some ⟨w5.heap.size + 1, 0, none⟩) 1 1, .bool false, .slice none 0 0] 37)) := ((Below.refl _ w5).drew.trans hb6).trans (hb7.mono hb6.size);have HAM := Lib.hid (AlikeMats_c 2 1 2 1 (some ⟨b, 0, none⟩) (some ⟨w6.heap.size, 0, none⟩) 2 2 2 2 [2, 0] [2, 0] _ (HR5.out.below hb67).lsN hrw.lsN rfl rfl (by omega) (by omega) (by intro x hx; simp at hx; rcases hx with rfl | rfl <;> exact Nat.le_trans (wlen_le_of_lt (k := 1) (by decide)) (by omega)) (by intro x hx; simp at hx; rcases hx with rfl | rfl <;> exact Nat.le_trans (wlen_le_of_lt (k := 1) (by decide)) (by omega)));have HB7 := Lib.hid (HB5.out.trans (hb67.mono HB5.out.size));clear hrw hb7 hb67;refine wpAny_ready (rs := [8]) (by kernel_rfl) (by simp) ?_;refine AllReady.cons rfl (fun K hK => ?_) AllReady.nil;go_simp;go_wp2_with (first | (go_at_call 13; refine HAM.out.mono ?_; rintro e w8 ⟨rfl, hb8⟩))
   refine wpAny_take (i := 9) (v := ?_) rfl (by kernel_rfl) (by kernel_rfl) (by kernel_rfl) (fun _ _ _ h => h) (Or.inl ⟨by kernel_rfl, ?_⟩) ?_;rotate_left
   · intro w; go_simp; try (with_reducible rfl)
   refine wpAny_take (i := 10) (v := ?_) rfl (by kernel_rfl) (by kernel_rfl) (by kernel_rfl) (fun _ _ _ h => h) (Or.inl ⟨by kernel_rfl, ?_⟩) ?_;rotate_left
   · intro w; go_simp; try (with_reducible rfl)
   refine wpAny_done (by kernel_rfl) ?_ _;go_simp;have HB8 := Lib.hid (HB7.out.trans (hb8.mono HB7.out.size));go_wp2;go_ret;exact ⟨rfl, HB8.out⟩
 · go_simp;go_wp2_with (first | (go_at_call 10; refine (Of18_c 2 _ (by omega) (by decide)).mono ?_; rintro e w6 ⟨⟨rfl, h2⟩, hb6⟩; have H2 := Lib.hid h2; clear h2; have hs6 : w4.heap.size < w6.heap.size := Nat.lt_of_lt_of_le hs5 hb6.size; have y0 := (hb6.cell (p := ⟨w4.heap.size, 0, none⟩) hs5).trans z0; have y1 := (hb6.cell (p := ⟨w4.heap.size, 1, none⟩) hs5).trans z1; have y2 := (hb6.cell (p := ⟨w4.heap.size, 2, none⟩) hs5).trans z2))
   refine wpAny_ready (rs := [3, 6]) (by kernel_rfl) (by simp) ?_;refine AllReady.cons rfl (fun K hK => ?_) (AllReady.cons rfl (fun K hK => ?_) AllReady.nil)
   · go_simp;refine hK _ _ ?_;clear hK K;refine wpAny_ready (rs := [6]) (by kernel_rfl) (by simp) ?_;refine AllReady.cons rfl (fun K hK => ?_) AllReady.nil;go_simp;refine hK _ _ ?_;clear hK K;refine wpAny_take (i := 7) (v := ?_) rfl (by kernel_rfl) (by kernel_rfl) (by kernel_rfl) (fun _ _ _ h => h) (Or.inl ⟨by kernel_rfl, ?_⟩) ?_;rotate_left
     · intro w; go_simp; try (with_reducible rfl)
     have hrw := row2 (p := (false, some ⟨w5.heap.size + 1, 0, none⟩, 1, 1)) (q := p0) H2.out (NumAt.zero w6);have hb7 : Below w6.heap.size w6 (w6.alloc (.cells #[.bool false, .slice (some ⟨w5.heap.size + 1, 0, none⟩) 1 1, .bool false, .slice none 0 0] 37)) := (Below.refl _ _).alloc (Nat.le_refl _) _;have hb67 : Below w5.heap.size w5 (w6.alloc (.cells #[.bool false, .slice (some ⟨w5.heap.size + 1, 0, none⟩) 1 1, .bool false, .slice none 0 0] 37)) := ((Below.refl _ w5).drew.trans hb6).trans (hb7.mono hb6.size);have HAM := Lib.hid (AlikeMats_c 2 1 2 1 (some ⟨b, 0, none⟩) (some ⟨w6.heap.size, 0, none⟩) 2 2 2 2 [2, 0] [2, 0] _ (HR5.out.below hb67).lsN hrw.lsN rfl rfl (by omega) (by omega) (by intro x hx; simp at hx; rcases hx with rfl | rfl <;> exact Nat.le_trans (wlen_le_of_lt (k := 1) (by decide)) (by omega)) (by intro x hx; simp at hx; rcases hx with rfl | rfl <;> exact Nat.le_trans (wlen_le_of_lt (k := 1) (by decide)) (by omega)));have HB7 := Lib.hid (HB5.out.trans (hb67.mono HB5.out.size));clear hrw hb7 hb67;refine wpAny_ready (rs := [8]) (by kernel_rfl) (by simp) ?_;refine AllReady.cons rfl (fun K hK => ?_) AllReady.nil;go_simp;go_wp2_with (first | (go_at_call 13; refine HAM.out.mono ?_; rintro e w8 ⟨rfl, hb8⟩))
     refine wpAny_take (i := 9) (v := ?_) rfl (by kernel_rfl) (by kernel_rfl) (by kernel_rfl) (fun _ _ _ h => h) (Or.inl ⟨by kernel_rfl, ?_⟩) ?_;rotate_left
     · intro w; go_simp; try (with_reducible rfl)
     refine wpAny_take (i := 10) (v := ?_) rfl (by kernel_rfl) (by kernel_rfl) (by kernel_rfl) (fun _ _ _ h => h) (Or.inl ⟨by kernel_rfl, ?_⟩) ?_;rotate_left
     · intro w; go_simp; try (with_reducible rfl)
     refine wpAny_done (by kernel_rfl) ?_ _;go_simp;have HB8 := Lib.hid (HB7.out.trans (hb8.mono HB7.out.size));go_wp2;go_ret;exact ⟨rfl, HB8.out⟩
   · go_simp;refine hK _ _ ?_;clear hK K;refine wpAny_take (i := 7) (v := ?_) rfl (by kernel_rfl) (by kernel_rfl) (by kernel_rfl) (fun _ _ _ h => h) (Or.inl ⟨by kernel_rfl, ?_⟩) ?_;rotate_left
     · intro w; go_simp; try (with_reducible rfl)
     refine wpAny_ready (rs := [3]) (by kernel_rfl) (by simp) ?_;refine AllReady.cons rfl (fun K hK => ?_) AllReady.nil;go_simp;refine hK _ _ ?_;clear hK K;have hrw := row2 (p := (false, some ⟨w5.heap.size + 1, 0, none⟩, 1, 1)) (q := p0) H2.out (NumAt.zero w6);have hb7 : Below w6.heap.size w6 (w6.alloc (.cells #[.bool false, .slice (some ⟨w5.heap.size + 1, 0, none⟩) 1 1, .bool false, .slice none 0 0] 37)) := (Below.refl _ _).alloc (Nat.le_refl _) _;have hb67 : Below w5.heap.size w5 (w6.alloc (.cells #[.bool false, .slice (some ⟨w5.heap.size + 1, 0, none⟩) 1 1, .bool false, .slice none 0 0] 37)) := ((Below.refl _ w5).drew.trans hb6).trans (hb7.mono hb6.size);have HAM := Lib.hid (AlikeMats_c 2 1 2 1 (some ⟨b, 0, none⟩) (some ⟨w6.heap.size, 0, none⟩) 2 2 2 2 [2, 0] [2, 0] _ (HR5.out.below hb67).lsN hrw.lsN rfl rfl (by omega) (by omega) (by intro x hx; simp at hx; rcases hx with rfl | rfl <;> exact Nat.le_trans (wlen_le_of_lt (k := 1) (by decide)) (by omega)) (by intro x hx; simp at hx; rcases hx with rfl | rfl <;> exact Nat.le_trans (wlen_le_of_lt (k := 1) (by decide)) (by omega)));have HB7 := Lib.hid (HB5.out.trans (hb67.mono HB5.out.size));clear hrw hb7 hb67;refine wpAny_ready (rs := [8]) (by kernel_rfl) (by simp) ?_;refine AllReady.cons rfl (fun K hK => ?_) AllReady.nil;go_simp;go_wp2_with (first | (go_at_call 13; refine HAM.out.mono ?_; rintro e w8 ⟨rfl, hb8⟩))
     refine wpAny_take (i := 9) (v := ?_) rfl (by kernel_rfl) (by kernel_rfl) (by kernel_rfl) (fun _ _ _ h => h) (Or.inl ⟨by kernel_rfl, ?_⟩) ?_;rotate_left
     · intro w; go_simp; try (with_reducible rfl)
     refine wpAny_take (i := 10) (v := ?_) rfl (by kernel_rfl) (by kernel_rfl) (by kernel_rfl) (fun _ _ _ h => h) (Or.inl ⟨by kernel_rfl, ?_⟩) ?_;rotate_left
     · intro w; go_simp; try (with_reducible rfl)
     refine wpAny_done (by kernel_rfl) ?_ _;go_simp;have HB8 := Lib.hid (HB7.out.trans (hb8.mono HB7.out.size));go_wp2;go_ret;exact ⟨rfl, HB8.out⟩
theorem Herm.len_eqV {r c k n : Nat} {E : Nat -> Nat -> Int} {l l' : Nat -> Nat} (h : Herm k c E l) (h' : Herm n c E l') (hk : k <= r) (hn : n <= r) (z : ∀ a, k <= a -> a < r -> ∀ b, E a b = 0) (z' : ∀ a, n <= a -> a < r -> ∀ b, E a b = 0) : k = n := by
 rcases Nat.lt_trichotomy k n with e | e | e
 · have := h'.pos k e; rw [z k (Nat.le_refl _) (by omega)] at this; omega
 · exact e
 · have := h.pos n e; rw [z' n (Nat.le_refl _) (by omega)] at this; omega
theorem IsHnf.len_pvsV {r c k : Nat} {xs hs : List Int} {l : Nat -> Nat} {ls : List Nat} (h : IsHnf r c xs hs k l) (h' : Pvs r c (matE hs r c) ls) : k = ls.length := by
 obtain ⟨i, hi, hp, hz⟩ := h';have e := hp.len;exact (Herm.len_eqV h.herm hp.herm h.kr hi (fun a h1 _ b => h.zero a h1 b) hz).trans e.symm
set_option maxRecDepth 100000 in
set_option maxHeartbeats 1000000 in
theorem Volume_u (r c : Int) (ao : Option Addr) (len cap : Nat) (w : World) (hs : soundM r c len = false) :
 Calls Tryz.prog 3 #[.agg #[.int .i64 r, .int .i64 c, .slice ao len cap]] w fun e w' => e = .returned (.bool true) /\ Below w.heap.size w w' := by
 have hS := fun w' => Sound_c r c ao len cap w';rw [hs] at hS;have HS := Lib.hid hS;clear hS hs;refine funW (S0 := fun _ => False) Tryz.func3 (Fr.nil _ w) ?_;refine goW ?_;refine rW [] ?_;refine aW fun g1 => ?_;refine dW ?_;refine eW ?_;refine goW ?_;refine rW [] ?_;refine cV (v := .bool true) (fun w' H => Wakes_c w') ?_;refine dW ?_;refine eW ?_;refine goW ?_;refine cfW ?_;refine goW ?_;refine rW [] ?_;refine dW ?_;refine cV (v := .bool false) (fun w' H => HS.out w') ?_;refine dW ?_;refine eW ?_;refine goW ?_;refine ctW ?_;refine goW ?_;refine rW [] ?_;refine dW ?_;refine eW ?_;refine goW ?_;refine fin1 fun w' H => ?_;exact ⟨_, rvT, rfl, H.below⟩
structure VolX where
 i : Nat
 p : P4
structure VolJ (n : Nat) (x : VolX) : Prop where
 hi : x.i <= n
theorem vol_words {n B : Nat} {hs : List Int} (hb : ∀ x ∈ hs, wlen x.natAbs <= B) : ∀ i, wlen (prodZ i fun t => matE hs n n t t).natAbs <= i * B + 1
 | 0 => by show wlen (1 : Int).natAbs <= _; exact Nat.le_trans (Nat.le_of_eq (wlenOne (show 0 < 1 by omega) (show 1 < W by unfold W; omega))) (by omega)
 | i + 1 => by
  rw [prodZ, Int.natAbs_mul];refine Nat.le_trans (wlen_mul _ _) ?_;have h1 := vol_words (n := n) hb i;have h2 : wlen (matE hs n n i i).natAbs <= B := by
   unfold matE;split
   · by_cases q : i * n + i < hs.length
     · rw [show hs.getD (i * n + i) 0 = hs[i * n + i] by simp [q]]; exact hb _ (List.getElem_mem q)
     · simp [Nat.le_of_not_lt q, wlen_zero]
   · simp [wlen_zero]
  have h3 : (i + 1) * B = i * B + B := Nat.succ_mul i B;omega
set_option maxRecDepth 100000 in
set_option maxHeartbeats 8000000 in
theorem Volume_c (r c m cap : Nat) (ao : Option Addr) (xs : List Int) (w : World) (hr : r <= 64) (hc : c <= 64) (hA : LsAt w m ao xs) (hs : xs.length = r * c) (hcap : r * c <= cap) (hm : m <= 1048576) :
 Calls Tryz.prog 3 #[.agg #[.int .i64 (r : Int), .int .i64 (c : Int), .slice ao (r * c) cap]] w fun e w' => e = .returned (.bool true) /\ Below w.heap.size w w' := by
 have hxb : ∀ x ∈ xs, x.natAbs < W ^ m := lt_ls13 hA;have hsd : soundM r c (r * c) = true := by
  have h1 : decide (0 <= (r : Int)) = true := by simp
  have h2 : decide (0 <= (c : Int)) = true := by simp
  have h3 : decide ((r : Int) <= 64) = true := by simp; omega
  have h4 : decide ((c : Int) <= 64) = true := by simp; omega
  simp [soundM, sideOk, h3, h4]
 have cS1 := fun w' => Sound_c (r : Int) (c : Int) ao (r * c) cap w';have cS2 := fun (b : Option Addr) w' => Sound_c (r : Int) (c : Int) b (r * c) (r * c) w';rw [hsd] at cS1;simp only [hsd] at cS2;have hW1 : hW m <= 140000000 := by unfold hW hermW; omega
 have cF := fun w' (h : LsAt w' m ao xs) => Form_c r c m ao (r * c) cap xs w' hr hc (h.up (by omega)) hxb (by omega) hs.symm hs;have cR := fun w' (h : LsAt w' m ao xs) => Rank13_c r c m cap ao xs w' hr hc h hs hcap hm;have cP := fun w' b hs' k l (h : LsAt w' (hW m) b hs') (hH : IsHnf r c xs hs' k l) (hb : ∀ x ∈ hs', wlen x.natAbs <= hW m) => PivH_c r c (hW m) b (r * c) (r * c) hs' w' hr hc (h.up (by omega)) hb (by omega) hH.len.symm hH.len hH.hf;have cD : ∀ (_ : r = c) (hs' : List Int) (l : Nat -> Nat) (_ : IsHnf r c xs hs' r l) (w' : World) (_ : LsAt w' m ao xs), Calls Tryz.prog 9 #[.agg #[.int .i64 (r : Int), .int .i64 (c : Int), .slice ao (r * c) cap]] w' fun e w'' => (∃ v' d, e = .returned (.tuple #[v', .int .i64 0]) /\ OwnI w'' w'.heap.size v' d /\ d.natAbs = (det r (matE xs r r)).natAbs /\ wlen d.natAbs <= 1099511627776) /\ Below w'.heap.size w' w'' := by
  intro e;subst e;exact fun hs' l hH w' h => Det13_c r m cap ao xs hs' l w' hr h hs hcap hm hH
 have H1 := Lib.hid (And.intro cS1 (And.intro cS2 (And.intro cF (And.intro cR (And.intro cP cD)))));have HW := Lib.hid hW1;obtain ⟨nm, hnm⟩ : ∃ nm, r * c = nm := ⟨_, rfl⟩;have HN := Lib.hid hnm;have hnm2 : nm <= 4096 := by rw [<- hnm]; exact Nat.mul_le_mul hr hc
 rw [hnm] at H1 ⊢;clear hxb hsd cS1 cS2 hW1 cF cR cP cD hs hcap hnm;refine funW (S0 := fun _ => False) Tryz.func3 ((Fr.nil _ w).l hA (by simp)) ?_;refine goW ?_;refine rW [] ?_;refine aW fun g1 => ?_;refine dW ?_;refine eW ?_;refine goW ?_;refine rW [] ?_;refine cV (v := .bool true) (fun w' H => Wakes_c w') ?_;refine dW ?_;refine eW ?_;refine goW ?_;refine cfW ?_;refine goW ?_;refine rW [] ?_;refine dW ?_;refine cV (v := .bool true) (fun w' H => H1.out.1 w') ?_;refine dW ?_;refine eW ?_;refine goW ?_;refine cfW ?_;refine goW ?_;refine rW [] ?_;refine dW ?_;refine cG (α := Option Addr × List Int × Nat × (Nat -> Nat)) (mk := fun q => .tuple #[.agg #[.int .i64 (r : Int), .int .i64 (c : Int), .slice q.1 nm nm], .int .i64 0]) (ens := fun q => [.ls (hW m) q.1 q.2.1, .pr (IsHnf r c xs q.2.1 q.2.2.1 q.2.2.2 /\ ∀ x ∈ q.2.1, wlen x.natAbs <= hW m)]) (fun w' H => (H1.out.2.2.1 w' (H.all (.ls m ao xs) (by simp))).mono fun e w'' ⟨⟨b, hs, k, l, he, h1, h2, h3, h4⟩, hb⟩ => ⟨(some ⟨b, 0, none⟩, hs, k, l), he, hb, fun e he => by
  have h5 : ∀ x ∈ hs, wlen x.natAbs <= hW m := fun x hx => wlen_le_of_lt (h4 x hx);rcases List.mem_cons.1 he with rfl | he
  · exact ⟨h2.lsAt h5, fun g ⟨_, o, e⟩ => by cases e; exact h1⟩
  · rcases List.mem_singleton.1 he with rfl;exact ⟨⟨h3, h5⟩, fun _ h => h.elim⟩, List.pairwise_cons.2 ⟨fun e he => by rcases List.mem_singleton.1 he with rfl; exact ⟨(fun q => nomatch q), (fun q => nomatch q)⟩, List.pairwise_singleton ..⟩⟩) fun q => ?_
 refine dW ?_;refine dW ?_;refine dW ?_;refine aW fun g3 => ?_;refine sG ?_;refine dW ?_;refine eW ?_;refine goW ?_;refine prW (A := IsHnf r c xs q.2.1 q.2.2.1 q.2.2.2 /\ ∀ x ∈ q.2.1, wlen x.natAbs <= hW m) (by simp) fun hq => ?_;obtain ⟨b, hs, k, l⟩ := q;have HH : Hid (IsHnf r c xs hs k l /\ ∀ x ∈ hs, wlen x.natAbs <= hW m) := Lib.hid hq;clear hq;refine rW [] ?_;refine dW ?_;refine cG (α := Option Addr × Nat × Nat) (mk := fun q => .tuple #[.slice q.1 q.2.1 q.2.2, .int .i64 0]) (ens := fun q => [.pr (q.2.1 = k)]) (fun w' H => (H1.out.2.2.2.2.1 w' b hs k l (H.all (.ls (hW m) b hs) (by simp)) HH.out.1 HH.out.2).mono fun e w'' ⟨⟨v, ls, he, h1, h2⟩, hb⟩ => by
  have h3 := HH.out.1.len_pvsV h1;obtain ⟨_, ⟨rfl, h4⟩ | ⟨g, cp, cur, rfl, _⟩⟩ := h2
  · exact ⟨(none, 0, 0), he, hb, fun e he => by rcases List.mem_singleton.1 he with rfl; exact ⟨(h3.trans h4).symm, fun _ h => h.elim⟩, List.pairwise_singleton ..⟩
  · exact ⟨(some ⟨g, 0, none⟩, ls.length, cp), he, hb, fun e he => by rcases List.mem_singleton.1 he with rfl; exact ⟨h3.symm, fun _ h => h.elim⟩, List.pairwise_singleton ..⟩) fun q => ?_
 refine dW ?_;refine dW ?_;refine dW ?_;refine dW ?_;refine dW ?_;refine eW ?_;refine goW ?_;refine prW (A := q.2.1 = k) (by simp) fun hq => ?_;obtain ⟨qa, qn, qc⟩ := q;obtain rfl : qn = k := hq;refine rW [] ?_;refine dW ?_;refine cG (α := Nat) (mk := fun q => .tuple #[.int .i64 (q : Int), .int .i64 0]) (ens := fun q => [.pr (q = qn)]) (fun w' H => (H1.out.2.2.2.1 w' (H.all (.ls m ao xs) (by simp))).mono fun e w'' ⟨⟨q, he, R, p, h1, h2⟩, hb⟩ => ⟨q, he, hb, fun e he => by rcases List.mem_singleton.1 he with rfl; exact ⟨h2.trans (h1.rank HH.out.1), fun _ h => h.elim⟩, List.pairwise_singleton ..⟩) fun q => ?_;refine dW ?_;refine dW ?_;refine dW ?_;refine dW ?_;refine dW ?_;refine eW ?_;refine goW ?_;refine prW (A := q = qn) (by simp) fun hq => ?_;obtain rfl : qn = q := hq.symm;refine rW [] ?_;refine dW ?_;refine dB false ?_;refine dW ?_;refine dG ?_;refine dGB false ?_;refine dW ?_;refine dW ?_;refine dG ?_;refine dG ?_;refine dG ?_;refine dGB false ?_;refine dW ?_;refine dW ?_;refine dG ?_;refine cVg (v := .bool true) (fun w' H => H1.out.2.1 b w') ?_;refine dG ?_;refine dW ?_;refine dW ?_;refine dG ?_;refine dG ?_;refine dG ?_;refine dG ?_;refine dGB false ?_;refine dW ?_;refine dW ?_;refine dG ?_;refine dG ?_;refine dG ?_;refine dG ?_;refine dGB false ?_;by_cases hrc : r = c
 · subst hrc;refine dW ?_;refine eW ?_;refine goW ?_;refine cfW ?_;refine goW ?_;refine rW [] ?_;refine dW ?_;refine dW ?_;refine dW ?_;refine dW ?_;refine dB false ?_;by_cases hkr : qn = r
   · obtain rfl : r = qn := hkr.symm;refine dW ?_;refine dG ?_;refine dG ?_;refine dG ?_;refine dGB false ?_;refine dW ?_;refine eW ?_;refine goW ?_;refine cfW ?_;refine goW ?_;refine rW [] ?_;refine dW ?_;refine cG (α := P4 × Int) (mk := fun q => .tuple #[av q.1, .int .i64 0]) (ens := fun q => [.own w.heap.size (av q.1) q.2, .pr (q.2.natAbs = (det r (matE xs r r)).natAbs /\ wlen q.2.natAbs <= 1099511627776)]) (fun w' H => (H1.out.2.2.2.2.2 rfl hs l HH.out.1 w' (H.all (.ls m ao xs) (by simp))).mono fun e w'' ⟨⟨v, d, he, h1, h2, h3⟩, hb⟩ => by
      obtain ⟨p, rfl, _⟩ := h1.partsP;exact ⟨(p, d), he, hb, fun e he => by
       rcases List.mem_cons.1 he with rfl | he
       · exact ⟨OwnI.mono h1 H.size, fun _ h => h.elim⟩
       · rcases List.mem_singleton.1 he with rfl;exact ⟨⟨h2, h3⟩, fun _ h => h.elim⟩, List.pairwise_cons.2 ⟨fun e he => by rcases List.mem_singleton.1 he with rfl; exact ⟨fun _ _ h => h.elim, fun _ _ h => h.elim⟩, List.pairwise_singleton ..⟩⟩) fun q => ?_
     simp only [av];refine dW ?_;refine dW ?_;refine dW ?_;refine aW fun g9 => ?_;refine sG ?_;refine dW ?_;refine eW ?_;refine goW ?_;refine prW (A := q.2.natAbs = (det r (matE xs r r)).natAbs /\ wlen q.2.natAbs <= 1099511627776) (by simp) fun hq => ?_;obtain ⟨pd, D⟩ := q;have HD : Hid (D.natAbs = (det r (matE xs r r)).natAbs /\ wlen D.natAbs <= 1099511627776) := Lib.hid hq;clear hq;refine rW [] ?_;refine cG (α := P4) (mk := fun q => .agg #[.bool q.1, .slice q.2.1 q.2.2.1 q.2.2.2]) (ens := fun q => [.num (av q) 1]) (fun w' H => (Of18_c 1 w' (by omega) (by unfold W; omega)).mono fun e w'' ⟨⟨he, hn⟩, hb⟩ => ⟨(false, some ⟨w'.heap.size + 1, 0, none⟩, 1, 1), he, hb, fun e he => by rcases List.mem_singleton.1 he with rfl; exact ⟨hn, fun _ h => h.elim⟩, List.pairwise_singleton ..⟩) fun p1 => ?_;refine aW fun g11 => ?_;refine sG ?_;refine eW ?_;refine goW ?_;refine rW [] ?_;refine dW ?_;refine eW ?_;refine goW ?_;refine loopW (X := VolX) (VolJ r) (fun x => r - x.i) (fun x => [(12, .int .i64 (x.i : Int)), (7, .int .i64 (r : Int)), (1, .pointer (some ⟨g1, 0, none⟩)), (3, .pointer (some ⟨g3, 0, none⟩)), (9, .pointer (some ⟨g9, 0, none⟩)), (11, .pointer (some ⟨g11, 0, none⟩))]) (fun x => [.row g11 37 [.bool x.p.1, .slice x.p.2.1 x.p.2.2.1 x.p.2.2.2], .row g9 37 [.bool pd.1, .slice pd.2.1 pd.2.2.1 pd.2.2.2], .row g1 24 [.int .i64 (r : Int), .int .i64 (r : Int), .slice ao nm cap], .row g3 24 [.int .i64 (r : Int), .int .i64 (r : Int), .slice b nm nm], .num (av x.p) (prodZ x.i fun t => matE hs r r t t), .own w.heap.size (av pd) D, .ls (hW m) b hs]) ⟨0, p1⟩ ⟨Nat.zero_le _⟩ (he := by
      intro w' h;show Fr _ _ w' [.row g11 37 [.bool p1.1, .slice p1.2.1 p1.2.2.1 p1.2.2.2], .row g9 37 [.bool pd.1, .slice pd.2.1 pd.2.2.1 pd.2.2.2], .row g1 24 [.int .i64 (r : Int), .int .i64 (r : Int), .slice ao nm cap], .row g3 24 [.int .i64 (r : Int), .int .i64 (r : Int), .slice b nm nm], .num (av p1) 1, .own w.heap.size (av pd) D, .ls (hW m) b hs];exact h.pick (by repeat (first | exact Pk.n | refine Pk.c (by repeat (first | exact Rm.z | apply Rm.s)) ?_))) fun x hx => ?_
     obtain ⟨i, p2⟩ := x;obtain ⟨hi⟩ := hx
     replace hi : i <= r := hi
     have hpw : wlen (prodZ i fun t => matE hs r r t t).natAbs <= 8960000001 := Nat.le_trans (vol_words HH.out.2 i) (by have h1 := Nat.mul_le_mul (Nat.le_trans hi hr) HW.out; omega);by_cases h : i < r
     · have h01 : (i : Int) < (r : Int) := by omega
       have hlt : i * r + i < nm := by rw [<- HN.out]; exact idx_lt h h
       obtain ⟨ix, hix⟩ : ∃ ix, i * r + i = ix := ⟨_, rfl⟩;have HX := Lib.hid hix;have hir : i * r < 9223372036854775808 := by omega
       have hir2 : i * r + i < 9223372036854775807 := by omega
       rw [hix] at hlt;have hlt' : (ix : Int) < (nm : Int) := by omega
       clear hix;refine goW ?_;refine rW [] ?_;refine dW ?_;refine dW ?_;refine dB true ?_;refine eW ?_;refine goW ?_;refine posLW (L := hW m) (ao := b) (xs := hs) (by simp) (by rw [HH.out.1.len, HN.out]; omega) fun bx ox e => ?_;subst e;refine numW (L := hW m) (xs := hs) (b := bx) (o := ox) ix (by simp) (by rw [HH.out.1.len, HN.out]; exact hlt) fun ph => ?_;refine ctW ?_;refine goW ?_;refine rW [] ?_;refine dW ?_;refine dW ?_;refine dW ?_;refine dW ?_;refine dW ?_;refine dW ?_;refine dE (mulI (a := i) (b := r) hir) ?_;refine dW ?_;refine dE ((sumI (a := i * r) (b := i) hir2).trans (by rw [HX.out]) : _ = Value.int .i64 (ix : Int)) ?_;refine dW ?_;refine dW ?_;refine cN (x := (prodZ i fun t => matE hs r r t t) * gi hs ix) (fun w' H => RMul_c (av p2) (av ph) (prodZ i fun t => matE hs r r t t) (gi hs ix) 8960000001 w' (NumAt.int (H.all (.num (av p2) (prodZ i fun t => matE hs r r t t)) (by simp [av])) hpw) ((H.all (.at (hW m) (av ph) (gi hs ix)) (by simp [av]) : IntAt ..).mono (by have := HW.out; omega)) (by omega)) fun p3 => ?_;refine sW ?_;refine eW ?_;refine goW ?_;refine rW [] ?_;refine dW ?_;refine dE (incB (a := i) (by omega)) ?_;refine dW ?_;refine eW ?_;refine goW ?_;exact backW (⟨i + 1, p3⟩ : VolX) ⟨⟨h⟩, by show r - (i + 1) < r - i; omega⟩ (he := by
        intro w' h';have e1 : (prodZ i fun t => matE hs r r t t) * gi hs ix = (prodZ (i + 1) fun t => matE hs r r t t) := by rw [prodZ, <- HX.out]; congr 1; unfold gi; exact (matE_eq h h).symm
        rw [e1] at h';have h3 : Fr _ _ w' (.own w.heap.size (av p3) (prodZ (i + 1) fun t => matE hs r r t t) :: [.row g11 37 [.bool p3.1, .slice p3.2.1 p3.2.2.1 p3.2.2.2], .row g9 37 [.bool pd.1, .slice pd.2.1 pd.2.2.1 pd.2.2.2], .row g1 24 [.int .i64 (r : Int), .int .i64 (r : Int), .slice ao nm cap], .row g3 24 [.int .i64 (r : Int), .int .i64 (r : Int), .slice (some ⟨bx, ox, none⟩) nm nm], .own w.heap.size (av pd) D, .ls (hW m) (some ⟨bx, ox, none⟩) hs]) := h'.pick (by repeat (first | exact Pk.n | refine Pk.c (by repeat (first | exact Rm.z | apply Rm.s)) ?_));have h4 := h3.conv (e' := .num (av p3) (prodZ (i + 1) fun t => matE hs r r t t)) (fun h => OwnI.num h) (fun _ h => h) (fun h => h);exact h4.pick (by repeat (first | exact Pk.n | refine Pk.c (by repeat (first | exact Rm.z | apply Rm.s)) ?_)))
     · obtain rfl : r = i := by omega
       have hEq : (prodZ r fun t => matE hs r r t t).natAbs = D.natAbs := by rw [HD.out.1, det_hnf HH.out.1, prodZ_abs]
       refine goW ?_;refine rW [] ?_;refine dW ?_;refine dW ?_;refine dB false ?_;refine eW ?_;refine goW ?_;refine cfW ?_;refine goW ?_;refine rW [] ?_;refine dW ?_;refine dW ?_;refine cV (v := .int .i64 0) (fun w' H => by have := RCmpAbs_c (av p2) (av pd) (prodZ r fun t => matE hs r r t t) D 1099511627776 w' (NumAt.int (H.all (.num (av p2) (prodZ r fun t => matE hs r r t t)) (by simp [av])) (Nat.le_trans hpw (by omega))) (OwnI.int (H.all (.own w.heap.size (av pd) D) (by simp [av])) HD.out.2) (Nat.le_refl _); rw [ncmp_eq hEq] at this; exact this) ?_;refine dB true ?_;refine dW ?_;refine eW ?_;refine goW ?_;refine fin1 fun w' H => ?_;exact ⟨_, rvT, rfl, H.below⟩
   · have hkr' : ¬ (qn : Int) = (r : Int) := by omega
     refine dW ?_;refine dG ?_;refine dG ?_;refine dG ?_;refine dGB true ?_;refine dW ?_;refine eW ?_;refine goW ?_;refine ctW ?_;refine goW ?_;refine rW [] ?_;refine dW ?_;refine eW ?_;refine goW ?_;refine fin1 fun w' H => ?_;exact ⟨_, rvT, rfl, H.below⟩
 · have hrc' : ¬ (r : Int) = (c : Int) := by omega
   refine dW ?_;refine eW ?_;refine goW ?_;refine cfW ?_;refine goW ?_;refine rW [] ?_;refine dW ?_;refine dW ?_;refine dW ?_;refine dW ?_;refine dB true ?_;refine dW ?_;refine uG ?_;refine uG ?_;refine uG ?_;refine uG ?_;refine dW ?_;refine eW ?_;refine goW ?_;refine ctW ?_;refine goW ?_;refine rW [] ?_;refine dW ?_;refine eW ?_;refine goW ?_;refine fin1 fun w' H => ?_;exact ⟨_, rvT, rfl, H.below⟩
end Go.Proofs.YtdgfhcaokigieaaGreat
namespace Go.Proofs.YtdgfhcaokigieaaGreat
open Go.ChangeShapes Go.WideShapes Go.ChangeAt Go.RowKit Go.Deep
namespace lawV
theorem own : ownKnob Tryz.prog.godebug = none := by kernel_rfl
set_option maxRecDepth 100000 in
theorem contract (H : Type) (enc : TypeId × Value -> H) (Wd : World) (base : Nat) (args : Array Value) (ds gs : List (DataW H)) (before : List MemPlace)
 (hval : ∀ (j : Nat) t v, Tryz.f3.params[j]? = some t -> args[j]? = some v -> Value.okWide Tryz.prog Wd .any base t v)
 (hW : DataW.Whole enc Tryz.prog Tryz.f3.params.toList Rows.hnfVolumeSpec.vars false Wd args.toList ds gs before) (hk : Rows.uptoSmall H (ds ++ gs) = true) :
 Calls Tryz.prog 3 args Wd fun e W' => ∃ v, e = .returned v /\ Rows.hnfVolumeSpec.post enc Tryz.prog Tryz.f3 false true false false Wd args v W' := by
 have hW' := hW;obtain ⟨p, q, hA0, hV, rfl, hfz, hnd⟩ := hW;have hA : DataW.TrodAll enc Tryz.prog Wd 0 (fun _ => true) true Tryz.f3.params.toList args.toList ds p := hA0;rw [Tryz.params3] at hA hval;obtain ⟨v1, vs1, d1, ds1, p1, q1, hargs, rfl, rfl, h1, r1⟩ := trodAll_cons hA;obtain ⟨rfl, rfl, rfl⟩ := trodAll_nil r1;obtain rfl : args = #[v1] := by cases args; simp_all
 obtain ⟨rfl, rfl⟩ := trodVars_none hV;have hbk := bulk_bound hk;simp only [List.append_nil, Rows.uptoBulkAll] at hbk;obtain ⟨m, n, ao, len, cap, xs, rfl, hlen, hcap, hL, hb⟩ := open_mat (hval 0 _ v1 rfl rfl) h1;have walk : Calls Tryz.prog 3 #[.agg #[.int .i64 m, .int .i64 n, .slice ao len cap]] Wd fun e w' => e = .returned (.bool true) /\ Below Wd.heap.size Wd w' := by
  cases hs : soundM m n len with
  | false => exact Volume_u m n ao len cap Wd hs
  | true =>
   obtain ⟨r, c, rfl, rfl, hr, hc, hrc⟩ := soundM_nat hs;subst hrc;exact Volume_c r c (Rows.uptoBulk d1) cap ao xs Wd hr hc hL hlen.symm (by omega) (by omega)
 refine walk.mono fun e W' ⟨he, hg⟩ => ?_;subst he;exact ⟨_, rfl, law_post (by kernel_rfl) rfl (by kernel_rfl) hW' rfl rfl rfl hg⟩
set_option maxRecDepth 100000 in
theorem lifted (os : Os) (started : os.Started) (H : Type) (enc : TypeId × Value -> H) (F : Stop.Interp) :
 ReturnsInHanded {} Tryz.checked os 3 .any ((Rows.OpenSpec.upto Rows.hnfVolumeSpec).pre6 enc Tryz.prog Tryz.f3 Rows.hnfVolumeUptoRow.domain false) (((Rows.OpenSpec.upto Rows.hnfVolumeSpec).at F).post enc Tryz.prog Tryz.f3 false true false false) := by
 refine returnsInHanded_of_cond (C := Tryz.checked) (s := Rows.OpenSpec.upto Rows.hnfVolumeSpec) (k := Rows.uptoSmall) rfl own started (by kernel_rfl) Tryz.func3
  (OpenSpec.witness (enc := enc) (C := Tryz.checked) (s := Rows.OpenSpec.upto Rows.hnfVolumeSpec) (k := Rows.uptoSmall) rfl false ⟨#[], #[.agg #[.int .i64 0, .int .i64 0, .slice none 0 0]], []⟩ 8 (by kernel_rfl) (by kernel_rfl) (by kernel_rfl)
   (x := ([.agg [.lit (.int .i64 0), .lit (.int .i64 0), .nil]], [], [])) (by kernel_rfl) rfl (by kernel_rfl)) ?_
 intro W base args ds gs before hval hW _ hk _;exact contract H enc W base args ds gs before hval hW hk
theorem over : Rows.hnfVolumeUptoRow.holds Tryz.pinned (Rows.OpenSpec.upto Rows.hnfVolumeSpec) :=
 OpenClaim.holds_of_cond 3 Tryz.f3 rfl rfl rfl rfl rfl rfl rfl ⟨rfl, rfl, rfl, rfl, rfl⟩ rfl rfl rfl rfl rfl (by kernel_rfl) Tryz.func3 (by kernel_rfl)
  (of_decide_eq_true (by kernel_rfl)) (by unfold Func.isWrapper; first | (rw [if_pos (by decide +kernel)]; kernel_rfl) | (rw [if_neg (by decide +kernel)]; exact ⟨rfl, rfl⟩))
  (fun os started H enc _ F => lifted os started H enc F)
theorem proved : Rows.HnfVolumeUptoSaid := over
end lawV
end Go.Proofs.YtdgfhcaokigieaaGreat
