/- Part 2 of 9 of the proof that the law HnfTransforms returns true for every input of bulk at most 1048576 and leaves its arguments as they were: here the contracts of the functions that it calls, and plain lemmas. -/
import Derived.RegionTactic
import Derived.Test.YtknkkceioockjaaGreatPtA
set_option linter.all false
namespace Go.Proofs.YtknkkceioockjaaGreat
open Go.RowKit
theorem z1H (w : World) (c1 c2 c3 : Array Value) (t1 t2 t3 : TypeId) : z00 (((w.alloc (.cells c1 t1)).alloc (.cells c2 t2)).alloc (.cells c3 t3)) w.heap.size t1 c1.toList /\ z00 (((w.alloc (.cells c1 t1)).alloc (.cells c2 t2)).alloc (.cells c3 t3)) (w.heap.size + 1) t2 c2.toList /\
 z00 (((w.alloc (.cells c1 t1)).alloc (.cells c2 t2)).alloc (.cells c3 t3)) (w.heap.size + 2) t3 c3.toList /\
 Below w.heap.size w (((w.alloc (.cells c1 t1)).alloc (.cells c2 t2)).alloc (.cells c3 t3)) := by
 obtain ⟨h1, h2, h3⟩ := z0H w c1 c2 t1 t2;have e : ((w.alloc (.cells c1 t1)).alloc (.cells c2 t2)).heap.size = w.heap.size + 2 := by simp
 refine ⟨h1.alloc _, h2.alloc _, ?_, h3.alloc (by omega) _⟩;have := z00.new ((w.alloc (.cells c1 t1)).alloc (.cells c2 t2)) c3 t3
 rwa [e] at this
theorem z05.z19 {w : World} {B : Nat} {v : Value} {x : Int} (h : z05 w B v x) {p : Addr} (hp : p.block < B) (u : Value) : z05 (w.setCell p u) B v x := by
 obtain ⟨ao, cap, rfl, hO⟩ := h;exact ⟨ao, cap, rfl, hO.z19 hp u⟩
theorem z05.done {w w4 : World} {r B : Nat} {v a b : Value} {x : Int} (h : z05 w4 (r + 1) v x) (hB : B <= r) (hb : Below B w w4) :
 (∃ v', Ending.returned v = .returned v' /\ z05 ((w4.setCell ⟨r, 0, none⟩ a).setCell ⟨r, 1, none⟩ b) B v' x) /\ Below B w ((w4.setCell ⟨r, 0, none⟩ a).setCell ⟨r, 1, none⟩ b) :=
 ⟨⟨v, rfl, ((h.z19 (p := ⟨r, 0, none⟩) (Nat.lt_succ_self _) a).z19 (p := ⟨r, 1, none⟩) (Nat.lt_succ_self _) b).mono (Nat.le_succ_of_le hB)⟩, (hb.setCell (p := ⟨r, 0, none⟩) hB a).setCell (p := ⟨r, 1, none⟩) hB b⟩
theorem zcO (n : Bool) (m : Nat) : zi (!n) m = -zi n m := by cases n <;> simp [zi]
theorem zcd (a b : Bool) (m n : Nat) : zi (a != b) (m * n) = zi a m * zi b n := by
 cases a <;> cases b <;> simp [zi, Int.natCast_mul, Int.neg_mul, Int.mul_neg]
set_option maxRecDepth 100000 in
set_option maxHeartbeats 1000000 in
theorem z4r (v : Value) (x : Int) (w : World) (hA : z03 w 17592186044415 v x) :
 Calls Tryz.prog 109 #[v] w fun e w' => (∃ v', e = .returned v' /\ z05 w' w.heap.size v' (-x)) /\ Below w.heap.size w w' := by
 obtain ⟨n, ao, len, cap, ws, rfl, hW, hl, hL, hc, hx⟩ := hA;have Hx := Lib.hid hx; clear hx;have Hl := Lib.hid hl; clear hl;go_enter Tryz.func109, Tryz.ntmps109;go_wp2;obtain ⟨r1, r2, hb⟩ := z0H w #[.bool n, .slice ao len cap] #[.bool false, .slice none 0 0] 45 45;have hW2 := hW.below hb;generalize (w.alloc (.cells #[.bool n, .slice ao len cap] 45)).alloc (.cells #[.bool false, .slice none 0 0] 45) = w2 at *;have e1 : w2.cell? ⟨w.heap.size, 0, none⟩ = some (.bool n) := r1.cell 0;have e2 : w2.cell? ⟨w.heap.size, 1, none⟩ = some (.slice ao len cap) := r1.cell 1;have hb1 := r1.lt;have hb2 := r2.lt;have Hr2 := Lib.hid r2;have HW2 := Lib.hid hW2;clear r1 r2 hW2
 go_region_held3 (fun w' => w'.cell? ⟨w.heap.size, 0, none⟩ = some (.bool n) /\ w'.cell? ⟨w.heap.size, 1, none⟩ = some (.slice ao len cap))
  (first | exact ⟨e1, e2⟩ | exact ⟨(hb3.cell hb1).trans e1, (hb3.cell hb1).trans e2⟩ | exact ⟨(hb5.cell (Nat.lt_succ_self _)).trans e1, (hb5.cell (Nat.lt_succ_self _)).trans e2⟩ | exact ⟨(((hb5.setCell (Nat.le_refl _) _).setCell (Nat.le_refl _) _).cell (Nat.lt_succ_self _)).trans e1, (((hb5.setCell (Nat.le_refl _) _).setCell (Nat.le_refl _) _).cell (Nat.lt_succ_self _)).trans e2⟩)
  (first
   | (go_at_call 116; refine (z2b _ _ _ ws _ (by exact HW2.out) Hl.out (by omega)).mono ?_; rintro e w3 ⟨⟨ao', cap', rfl, hO⟩, hb3⟩)
   | (go_at_call 115; refine (z7F (!n) _ _ _ _).mono ?_; rintro e w4 ⟨rfl, hb4⟩; have hb5 : Below (w.heap.size + 1) w2.drew w4 := (hb3.trans (hb4.mono hb3.size)).mono (Nat.le_of_lt hb2); have hr4 := (z00.below (w := w2.drew) Hr2.out hb3 hb2).below hb4 (Nat.lt_of_lt_of_le hb2 hb3.size); have hf0 := hr4.free 0; have hf1 := hr4.free 1; have hc0 := hr4.cell 0; have hc1 := hr4.cell 1))
 go_wp2;have hr5 := hr4.z2n (.bool (!n && decide (0 < z04 (z01 ws)))) (.slice ao' (z04 (z01 ws)) cap');have hs2 : w.heap.size <= w2.heap.size := by omega
 have hbf : Below w.heap.size w w4 := (hb.drew.trans (hb3.mono hs2)).trans (hb4.mono (Nat.le_trans hs2 hb3.size));refine bodyPost_ret (z0i (p := 2) (by kernel_rfl) _ _ (w.heap.size + 1) _ _ rfl hr5) rfl ?_;have hO' := (hO.mono (B' := w.heap.size + 2) (by show w.heap.size + 2 <= w2.heap.size; omega)).below hb4;have hI := z05.mk (!n) hO';rw [Hx.out];rw [zcO] at hI;exact z05.done hI (Nat.le_succ _) hbf
set_option maxRecDepth 100000 in
set_option maxHeartbeats 1000000 in
theorem zac (v : Value) (x : Int) (w : World) (hA : z03 w 17592186044415 v x) :
 Calls Tryz.prog 193 #[v] w fun e w' => (∃ v', e = .returned v' /\ z05 w' w.heap.size v' ((x.natAbs : Nat) : Int)) /\ Below w.heap.size w w' := by
 obtain ⟨n, ao, len, cap, ws, rfl, hW, hl, hL, hc, hx⟩ := hA;have Hx := Lib.hid hx; clear hx;have Hl := Lib.hid hl; clear hl;go_enter Tryz.func193, Tryz.ntmps193;go_wp2_with fail
 obtain ⟨r1, r2, hb⟩ := z0H w #[.bool n, .slice ao len cap] #[.bool false, .slice none 0 0] 45 45;have hW2 := hW.below hb;generalize (w.alloc (.cells #[.bool n, .slice ao len cap] 45)).alloc (.cells #[.bool false, .slice none 0 0] 45) = w2 at *;have hb2 := r2.lt;refine (z2b _ _ _ ws _ hW2 Hl.out (by omega)).mono ?_;rintro e w3 ⟨⟨ao', cap', rfl, hO⟩, hb3⟩;go_wp2_with fail
 refine (z7F false _ _ _ _).mono ?_;rintro e w4 ⟨rfl, hb4⟩;have hr4 := (r2.below hb3 hb2).below hb4 (Nat.lt_of_lt_of_le hb2 hb3.size);have hf0 := hr4.free 0;have hf1 := hr4.free 1;have hc0 := hr4.cell 0;have hc1 := hr4.cell 1;clear r1 r2;go_wp2;have hr5 := hr4.z2n (.bool false) (.slice ao' (z04 (z01 ws)) cap');have hs2 : w.heap.size <= w2.heap.size := by omega
 have hbf : Below w.heap.size w w4 := (hb.trans (hb3.mono hs2)).trans (hb4.mono (Nat.le_trans hs2 hb3.size));refine bodyPost_ret (z0i (p := 2) (by kernel_rfl) _ _ (w.heap.size + 1) _ _ rfl hr5) rfl ?_;have hO' := (hO.mono (B' := w.heap.size + 2) (by show w.heap.size + 2 <= w2.heap.size; omega)).below hb4;have hI := z05.mk false hO';rw [Hx.out, z2A];exact z05.done hI (Nat.le_succ _) hbf
set_option maxRecDepth 100000 in
set_option maxHeartbeats 1000000 in
theorem z7x (v u : Value) (x y : Int) (LA LB : Nat) (w : World) (hA : z03 w LA v x) (hB : z03 w LB u y) (hL : LA + LB <= 17592186044415) :
 Calls Tryz.prog 72 #[v, u] w fun e w' => (∃ v', e = .returned v' /\ z05 w' w.heap.size v' (x * y)) /\ Below w.heap.size w w' := by
 obtain ⟨n, ao, len, cap, ws, rfl, hW, hl, hL1, hc, hx⟩ := hA;obtain ⟨n2, ao2, len2, cap2, ws2, rfl, hW2, hl2, hL2, hc2, hx2⟩ := hB;have Hx := Lib.hid hx; clear hx;have Hl := Lib.hid hl; clear hl;have Hx2 := Lib.hid hx2; clear hx2;have Hl2 := Lib.hid hl2; clear hl2;go_enter Tryz.func72, Tryz.ntmps72;go_wp2;obtain ⟨r1, r2, r3, hb⟩ := z1H w #[.bool n, .slice ao len cap] #[.bool n2, .slice ao2 len2 cap2] #[.bool false, .slice none 0 0] 45 45 45;have hW' := hW.below hb;have hW2' := hW2.below hb;generalize ((w.alloc (.cells #[.bool n, .slice ao len cap] 45)).alloc (.cells #[.bool n2, .slice ao2 len2 cap2] 45)).alloc (.cells #[.bool false, .slice none 0 0] 45) = w2 at *;have e1 : w2.cell? ⟨w.heap.size, 0, none⟩ = some (.bool n) := r1.cell 0;have e2 : w2.cell? ⟨w.heap.size, 1, none⟩ = some (.slice ao len cap) := r1.cell 1;have e3 : w2.cell? ⟨w.heap.size + 1, 0, none⟩ = some (.bool n2) := r2.cell 0;have e4 : w2.cell? ⟨w.heap.size + 1, 1, none⟩ = some (.slice ao2 len2 cap2) := r2.cell 1;have hb2 := r3.lt;have k0 : w.heap.size < w.heap.size + 2 := by omega
 have k1 : w.heap.size + 1 < w.heap.size + 2 := by omega
 have Hr3 := Lib.hid r3;have HW := Lib.hid hW';have HW2 := Lib.hid hW2';clear r1 r2 r3 hW' hW2'
 go_region_held3 (fun w' => w'.cell? ⟨w.heap.size, 0, none⟩ = some (.bool n) /\ w'.cell? ⟨w.heap.size, 1, none⟩ = some (.slice ao len cap) /\ w'.cell? ⟨w.heap.size + 1, 0, none⟩ = some (.bool n2) /\ w'.cell? ⟨w.heap.size + 1, 1, none⟩ = some (.slice ao2 len2 cap2))
  (first
   | exact ⟨e1, e2, e3, e4⟩
   | exact ⟨(hb3'.cell k0).trans e1, (hb3'.cell k0).trans e2, (hb3'.cell k1).trans e3, (hb3'.cell k1).trans e4⟩
   | exact ⟨(hb5.cell k0).trans e1, (hb5.cell k0).trans e2, (hb5.cell k1).trans e3, (hb5.cell k1).trans e4⟩
   | exact ⟨(((hb5.setCell (Nat.le_refl _) _).setCell (Nat.le_refl _) _).cell k0).trans e1, (((hb5.setCell (Nat.le_refl _) _).setCell (Nat.le_refl _) _).cell k0).trans e2, (((hb5.setCell (Nat.le_refl _) _).setCell (Nat.le_refl _) _).cell k1).trans e3, (((hb5.setCell (Nat.le_refl _) _).setCell (Nat.le_refl _) _).cell k1).trans e4⟩)
  (first
   | (go_at_call 119; refine (MulN_c _ _ _ _ _ _ ws ws2 _ (by exact HW.out) (by exact HW2.out) Hl.out Hl2.out hc hc2 (by omega)).mono ?_; rintro e w3 ⟨⟨ao', cap', rfl, hO⟩, hb3⟩; have hb3' : Below (w.heap.size + 2) w2.drew w3 := hb3.mono (Nat.le_of_lt hb2))
   | (go_at_call 115; refine (z7F (n != n2) _ _ _ _).mono ?_; rintro e w4 ⟨rfl, hb4⟩; have hb5 : Below (w.heap.size + 2) w2.drew w4 := (hb3.trans (hb4.mono hb3.size)).mono (Nat.le_of_lt hb2); have hr4 := (z00.below (w := w2.drew) Hr3.out hb3 hb2).below hb4 (Nat.lt_of_lt_of_le hb2 hb3.size); have hf0 := hr4.free 0; have hf1 := hr4.free 1; have hc0 := hr4.cell 0; have hc1 := hr4.cell 1))
 go_wp2;have hr5 := hr4.z2n (.bool ((n != n2) && decide (0 < z04 (z01 ws * z01 ws2)))) (.slice ao' (z04 (z01 ws * z01 ws2)) cap');have hs2 : w.heap.size <= w2.heap.size := by omega
 have hbf : Below w.heap.size w w4 := (hb.drew.trans (hb3.mono hs2)).trans (hb4.mono (Nat.le_trans hs2 hb3.size));refine bodyPost_ret (z0i (p := 4) (by kernel_rfl) _ _ (w.heap.size + 2) _ _ rfl hr5) rfl ?_;have hO' := (hO.mono (B' := w.heap.size + 3) (by show w.heap.size + 3 <= w2.heap.size; omega)).below hb4;have hI := z05.mk (n != n2) hO';rw [zcd] at hI;rw [Hx.out, Hx2.out];exact z05.done hI (by omega) hbf
theorem za2 (n : Bool) (a b : Nat) : zi n (a + b) = zi n a + zi n b := by cases n <;> simp [zi] <;> omega
theorem z8U {n n2 : Bool} (h : n ≠ n2) {a b : Nat} (hle : b <= a) : zi n (a - b) = zi n a + zi n2 b := by
 cases n <;> cases n2 <;> simp [zi] at h ⊢ <;> omega
theorem z8I {n n2 : Bool} (h : n ≠ n2) {a b : Nat} (hle : a <= b) : zi n2 (b - a) = zi n a + zi n2 b := by
 cases n <;> cases n2 <;> simp [zi] at h ⊢ <;> omega
set_option maxRecDepth 100000 in
set_option maxHeartbeats 1000000 in
theorem z7t (v u : Value) (x y : Int) (w : World) (hA : z03 w 17592186044415 v x) (hB : z03 w 17592186044415 u y) :
 Calls Tryz.prog 118 #[v, u] w fun e w' => (∃ v', e = .returned v' /\ z05 w' w.heap.size v' (x + y)) /\ Below w.heap.size w w' := by
 obtain ⟨n, ao, len, cap, ws, rfl, hW, hl, hL1, hc, hx⟩ := hA;obtain ⟨n2, ao2, len2, cap2, ws2, rfl, hW2, hl2, hL2, hc2, hx2⟩ := hB;have Hx := Lib.hid hx; clear hx;have Hl := Lib.hid hl; clear hl;have Hx2 := Lib.hid hx2; clear hx2;have Hl2 := Lib.hid hl2; clear hl2;go_enter Tryz.func118, Tryz.ntmps118;by_cases hne : n = n2
 · subst hne;go_wp2;obtain ⟨r1, r2, r3, hb⟩ := z1H w #[.bool n, .slice ao len cap] #[.bool n, .slice ao2 len2 cap2] #[.bool false, .slice none 0 0] 45 45 45;have hW' := hW.below hb;have hW2' := hW2.below hb;generalize ((w.alloc (.cells #[.bool n, .slice ao len cap] 45)).alloc (.cells #[.bool n, .slice ao2 len2 cap2] 45)).alloc (.cells #[.bool false, .slice none 0 0] 45) = w2 at *;have e1 : w2.cell? ⟨w.heap.size, 0, none⟩ = some (.bool n) := r1.cell 0;have e2 : w2.cell? ⟨w.heap.size, 1, none⟩ = some (.slice ao len cap) := r1.cell 1;have e4 : w2.cell? ⟨w.heap.size + 1, 1, none⟩ = some (.slice ao2 len2 cap2) := r2.cell 1;have hb2 := r3.lt;have k0 : w.heap.size < w.heap.size + 2 := by omega
   have k1 : w.heap.size + 1 < w.heap.size + 2 := by omega
   have Hr3 := Lib.hid r3;have HW := Lib.hid hW';have HW2 := Lib.hid hW2';clear r1 r2 r3 hW' hW2'
   go_region_held3 (fun w' => w'.cell? ⟨w.heap.size, 0, none⟩ = some (.bool n) /\ w'.cell? ⟨w.heap.size, 1, none⟩ = some (.slice ao len cap) /\ w'.cell? ⟨w.heap.size + 1, 1, none⟩ = some (.slice ao2 len2 cap2))
    (first
     | exact ⟨e1, e2, e4⟩
     | exact ⟨(hb3'.cell k0).trans e1, (hb3'.cell k0).trans e2, (hb3'.cell k1).trans e4⟩
     | exact ⟨(hb5.cell k0).trans e1, (hb5.cell k0).trans e2, (hb5.cell k1).trans e4⟩
     | exact ⟨(((hb5.setCell (Nat.le_refl _) _).setCell (Nat.le_refl _) _).cell k0).trans e1, (((hb5.setCell (Nat.le_refl _) _).setCell (Nat.le_refl _) _).cell k0).trans e2, (((hb5.setCell (Nat.le_refl _) _).setCell (Nat.le_refl _) _).cell k1).trans e4⟩)
    (first
     | (go_at_call 156; refine (Add_c _ _ _ _ _ _ ws ws2 _ (by exact HW.out) (by exact HW2.out) Hl.out Hl2.out (by omega) (by omega)).mono ?_; rintro e w3 ⟨⟨ao', cap', rfl, hO⟩, hb3⟩; have hb3' : Below (w.heap.size + 2) w2.drew w3 := hb3.mono (Nat.le_of_lt hb2))
     | (go_at_call 115; refine (z7F n _ _ _ _).mono ?_; rintro e w4 ⟨rfl, hb4⟩; have hb5 : Below (w.heap.size + 2) w2.drew w4 := (hb3.trans (hb4.mono hb3.size)).mono (Nat.le_of_lt hb2); have hr4 := (z00.below (w := w2.drew) Hr3.out hb3 hb2).below hb4 (Nat.lt_of_lt_of_le hb2 hb3.size); have hf0 := hr4.free 0; have hf1 := hr4.free 1; have hc0 := hr4.cell 0; have hc1 := hr4.cell 1))
   go_wp2;have hr5 := hr4.z2n (.bool (n && decide (0 < z04 (z01 ws + z01 ws2)))) (.slice ao' (z04 (z01 ws + z01 ws2)) cap');have hs2 : w.heap.size <= w2.heap.size := by omega
   have hbf : Below w.heap.size w w4 := (hb.drew.trans (hb3.mono hs2)).trans (hb4.mono (Nat.le_trans hs2 hb3.size));refine bodyPost_ret (z0i (p := 4) (by kernel_rfl) _ _ (w.heap.size + 2) _ _ rfl hr5) rfl ?_;have hO' := (hO.mono (B' := w.heap.size + 3) (by show w.heap.size + 3 <= w2.heap.size; omega)).below hb4;have hI := z05.mk n hO';rw [za2] at hI;rw [Hx.out, Hx2.out];exact z05.done hI (by omega) hbf
 · have hnb : (n == n2) = false := by simpa using hne
   go_wp2_with fail
   obtain ⟨r1, r2, r3, hb⟩ := z1H w #[.bool n, .slice ao len cap] #[.bool n2, .slice ao2 len2 cap2] #[.bool false, .slice none 0 0] 45 45 45;generalize ((w.alloc (.cells #[.bool n, .slice ao len cap] 45)).alloc (.cells #[.bool n2, .slice ao2 len2 cap2] 45)).alloc (.cells #[.bool false, .slice none 0 0] 45) = w2 at *;refine (zcA _ _ _ _ _ _ ws ws2 _ (hW.below hb) (hW2.below hb) Hl.out Hl2.out (by omega) (by omega)).mono ?_;rintro e w3 ⟨rfl, hb3⟩;have R1 := r1.below hb3 r1.lt;have R2 := r2.below hb3 r2.lt;have R3 := r3.below hb3 r3.lt;have HB : Below w.heap.size w w3 := hb.trans (hb3.mono hb.size);clear r1 r2 r3;have e1 : w3.cell? ⟨w.heap.size, 0, none⟩ = some (.bool n) := R1.cell 0;have e2 : w3.cell? ⟨w.heap.size, 1, none⟩ = some (.slice ao len cap) := R1.cell 1;have e3 : w3.cell? ⟨w.heap.size + 1, 0, none⟩ = some (.bool n2) := R2.cell 0;have e4 : w3.cell? ⟨w.heap.size + 1, 1, none⟩ = some (.slice ao2 len2 cap2) := R2.cell 1;by_cases hlt : z01 ws < z01 ws2
   · rw [z4z hlt];have HlE := Lib.hid (Nat.le_of_lt hlt); clear hlt;have g1 := R1.free 0;have g2 := R1.free 1;have g3 := R2.free 0;have g4 := R2.free 1;go_wp2_with fail
     have S1 := ((R1.z2n (.bool n2) (.slice ao2 len2 cap2)).other (p := ⟨w.heap.size + 1, 0, none⟩) (by show w.heap.size ≠ w.heap.size + 1; omega) (.bool n)).other (p := ⟨w.heap.size + 1, 1, none⟩) (by show w.heap.size ≠ w.heap.size + 1; omega) (.slice ao len cap);have S2 := (((R2.other (p := ⟨w.heap.size, 0, none⟩) (by show w.heap.size + 1 ≠ w.heap.size; omega) (.bool n2)).other (p := ⟨w.heap.size, 1, none⟩) (by show w.heap.size + 1 ≠ w.heap.size; omega) (.slice ao2 len2 cap2))).z2n (.bool n) (.slice ao len cap);have S3 := (((R3.other (p := ⟨w.heap.size, 0, none⟩) (by show w.heap.size + 2 ≠ w.heap.size; omega) (.bool n2)).other (p := ⟨w.heap.size, 1, none⟩) (by show w.heap.size + 2 ≠ w.heap.size; omega) (.slice ao2 len2 cap2)).other (p := ⟨w.heap.size + 1, 0, none⟩) (by show w.heap.size + 2 ≠ w.heap.size + 1; omega) (.bool n)).other (p := ⟨w.heap.size + 1, 1, none⟩) (by show w.heap.size + 2 ≠ w.heap.size + 1; omega) (.slice ao len cap);have SB := (((HB.setCell (p := ⟨w.heap.size, 0, none⟩) (Nat.le_refl _) (.bool n2)).setCell (p := ⟨w.heap.size, 1, none⟩) (Nat.le_refl _) (.slice ao2 len2 cap2)).setCell (p := ⟨w.heap.size + 1, 0, none⟩) (Nat.le_succ _) (.bool n)).setCell (p := ⟨w.heap.size + 1, 1, none⟩) (Nat.le_succ _) (.slice ao len cap);clear R1 R2 R3 HB e1 e2 e3 e4 g1 g2 g3 g4 hb3;generalize (((w3.setCell ⟨w.heap.size, 0, none⟩ (.bool n2)).setCell ⟨w.heap.size, 1, none⟩ (.slice ao2 len2 cap2)).setCell ⟨w.heap.size + 1, 0, none⟩ (.bool n)).setCell ⟨w.heap.size + 1, 1, none⟩ (.slice ao len cap) = w3' at *;clear w3;obtain ⟨w3, rfl⟩ : ∃ w3 : World, w3 = w3' := ⟨_, rfl⟩;have R1 := S1;have R2 := S2;have R3 := S3;have HB := SB;clear S1 S2 S3 SB;refine (Sub_c _ _ _ _ _ _ ws2 ws _ (hW2.below HB) (hW.below HB) Hl2.out Hl.out (by omega) (by omega) HlE.out).mono ?_;rintro e w4 ⟨⟨ao', cap', rfl, hO⟩, hb4⟩;have R1' := R1.below hb4 R1.lt;have R3' := R3.below hb4 R3.lt;have f1 : w4.cell? ⟨w.heap.size, 0, none⟩ = some (.bool n2) := R1'.cell 0;have k4 := R3'.lt;go_wp2_with fail
     refine (z7F n2 _ _ _ _).mono ?_;rintro e w5 ⟨rfl, hb5⟩;have hr5 := R3'.below hb5 R3'.lt;have hf0 := hr5.free 0;have hf1 := hr5.free 1;have hc0 := hr5.cell 0;have hc1 := hr5.cell 1;have hs3 : w.heap.size + 3 <= w3.heap.size := R3.lt;have hbf : Below w.heap.size w w5 := (HB.trans (hb4.mono (by omega))).trans (hb5.mono (by have := hb4.size; omega));clear R1 R1' R2 R3 R3';go_wp2;have hr6 := hr5.z2n (.bool (n2 && decide (0 < z04 (z01 ws2 - z01 ws)))) (.slice ao' (z04 (z01 ws2 - z01 ws)) cap');refine bodyPost_ret (z0i (p := 4) (by kernel_rfl) _ _ (w.heap.size + 2) _ _ rfl hr6) rfl ?_;have hO' := (hO.mono (B' := w.heap.size + 3) hs3).below hb5;have hI := z05.mk n2 hO';rw [z8I hne HlE.out] at hI;rw [Hx.out, Hx2.out];exact z05.done hI (by omega) hbf
   · have hc' : decide (z1k (z01 ws) (z01 ws2) < 0) = false := by
      unfold z1k; rw [if_neg hlt]; split <;> rfl
     have HlE := Lib.hid (Nat.le_of_not_lt hlt); clear hlt;generalize z1k (z01 ws) (z01 ws2) = cm at *;go_wp2_with fail
     refine (Sub_c _ _ _ _ _ _ ws ws2 _ (hW.below HB) (hW2.below HB) Hl.out Hl2.out (by omega) (by omega) HlE.out).mono ?_;rintro e w4 ⟨⟨ao', cap', rfl, hO⟩, hb4⟩;have R1' := R1.below hb4 R1.lt;have R3' := R3.below hb4 R3.lt;have f1 : w4.cell? ⟨w.heap.size, 0, none⟩ = some (.bool n) := R1'.cell 0;have k4 := R3'.lt;go_wp2_with fail
     refine (z7F n _ _ _ _).mono ?_;rintro e w5 ⟨rfl, hb5⟩;have hr5 := R3'.below hb5 R3'.lt;have hf0 := hr5.free 0;have hf1 := hr5.free 1;have hc0 := hr5.cell 0;have hc1 := hr5.cell 1;have hs3 : w.heap.size + 3 <= w3.heap.size := R3.lt;have hbf : Below w.heap.size w w5 := (HB.trans (hb4.mono (by omega))).trans (hb5.mono (by have := hb4.size; omega));clear R1 R1' R2 R3 R3';go_wp2;have hr6 := hr5.z2n (.bool (n && decide (0 < z04 (z01 ws - z01 ws2)))) (.slice ao' (z04 (z01 ws - z01 ws2)) cap');refine bodyPost_ret (z0i (p := 4) (by kernel_rfl) _ _ (w.heap.size + 2) _ _ rfl hr6) rfl ?_;have hO' := (hO.mono (B' := w.heap.size + 3) hs3).below hb5;have hI := z05.mk n hO';rw [z8U hne HlE.out] at hI;rw [Hx.out, Hx2.out];exact z05.done hI (by omega) hbf
set_option maxRecDepth 100000 in
set_option maxHeartbeats 1000000 in
theorem z7q (v u : Value) (x y : Int) (w : World) (hA : z03 w 17592186044415 v x) (hB : z03 w 17592186044415 u y) :
 Calls Tryz.prog 71 #[v, u] w fun e w' => (∃ v', e = .returned v' /\ z05 w' w.heap.size v' (x - y)) /\ Below w.heap.size w w' := by
 obtain ⟨n, ao, len, cap, ws, rfl, hW, hl, hL1, hc, hx⟩ := hA;obtain ⟨n2, ao2, len2, cap2, ws2, rfl, hW2, hl2, hL2, hc2, hx2⟩ := hB;have Hx := Lib.hid hx; clear hx;have Hl := Lib.hid hl; clear hl;have Hx2 := Lib.hid hx2; clear hx2;have Hl2 := Lib.hid hl2; clear hl2;go_enter Tryz.func71, Tryz.ntmps71;go_wp2_with fail
 obtain ⟨r1, r2, r3, hb⟩ := z1H w #[.bool n, .slice ao len cap] #[.bool n2, .slice ao2 len2 cap2] #[.bool false, .slice none 0 0] 45 45 45;generalize ((w.alloc (.cells #[.bool n, .slice ao len cap] 45)).alloc (.cells #[.bool n2, .slice ao2 len2 cap2] 45)).alloc (.cells #[.bool false, .slice none 0 0] 45) = w2 at *;have hI1 : z03 w2 17592186044415 (.agg #[.bool n, .slice ao len cap]) x := ⟨n, ao, len, cap, ws, rfl, hW.below hb, Hl.out, hL1, hc, Hx.out⟩;have hI2 : z03 w2 17592186044415 (.agg #[.bool (!n2), .slice ao2 len2 cap2]) (-y) := ⟨!n2, ao2, len2, cap2, ws2, rfl, hW2.below hb, Hl2.out, hL2, hc2, by rw [zcO, Hx2.out]⟩;refine (z7t _ _ x (-y) _ hI1 hI2).mono ?_;rintro e w3 ⟨⟨v', rfl, hO⟩, hb3⟩;have hs3 : w.heap.size + 3 <= w2.heap.size := r3.lt;have hr4 := r3.below hb3 r3.lt;have hf0 := hr4.free 0;have hf1 := hr4.free 1;have hc0 := hr4.cell 0;have hc1 := hr4.cell 1;have hbf : Below w.heap.size w w3 := hb.trans (hb3.mono hb.size);have HO := Lib.hid hO;obtain ⟨ao', cap', rfl, -⟩ := hO;clear r1 r2 r3;go_wp2;have hr6 := hr4.z2n (.bool (decide (x + -y < 0))) (.slice ao' (z04 (x + -y).natAbs) cap');refine bodyPost_ret (z0i (p := 4) (by kernel_rfl) _ _ (w.heap.size + 2) _ _ rfl hr6) rfl ?_;have hO' := HO.out.mono (B' := w.heap.size + 3) hs3;rw [Int.sub_eq_add_neg];exact z05.done hO' (by omega) hbf
theorem z9Z (w : World) (c1 c2 c3 c4 : Array Value) (t1 t2 t3 t4 : TypeId) : z00 ((((w.alloc (.cells c1 t1)).alloc (.cells c2 t2)).alloc (.cells c3 t3)).alloc (.cells c4 t4)) w.heap.size t1 c1.toList /\ z00 ((((w.alloc (.cells c1 t1)).alloc (.cells c2 t2)).alloc (.cells c3 t3)).alloc (.cells c4 t4)) (w.heap.size + 1) t2 c2.toList /\
 z00 ((((w.alloc (.cells c1 t1)).alloc (.cells c2 t2)).alloc (.cells c3 t3)).alloc (.cells c4 t4)) (w.heap.size + 2) t3 c3.toList /\ z00 ((((w.alloc (.cells c1 t1)).alloc (.cells c2 t2)).alloc (.cells c3 t3)).alloc (.cells c4 t4)) (w.heap.size + 3) t4 c4.toList /\
 Below w.heap.size w ((((w.alloc (.cells c1 t1)).alloc (.cells c2 t2)).alloc (.cells c3 t3)).alloc (.cells c4 t4)) := by
 obtain ⟨h1, h2, h3, h4⟩ := z1H w c1 c2 c3 t1 t2 t3;have e : (((w.alloc (.cells c1 t1)).alloc (.cells c2 t2)).alloc (.cells c3 t3)).heap.size = w.heap.size + 3 := by simp
 refine ⟨h1.alloc _, h2.alloc _, h3.alloc _, ?_, h4.alloc (by omega) _⟩;have := z00.new (((w.alloc (.cells c1 t1)).alloc (.cells c2 t2)).alloc (.cells c3 t3)) c4 t4
 rwa [e] at this
def z0o (x : Int) : Int := if x < 0 then -1 else if x = 0 then 0 else 1
set_option maxRecDepth 100000 in
set_option maxHeartbeats 1000000 in
theorem z2H (v : Value) (x : Int) (w : World) (hA : z03 w 17592186044415 v x) :
 Calls Tryz.prog 47 #[v] w fun e w' => e = .returned (.int .i64 (z0o x)) /\ Below w.heap.size w w' := by
 obtain ⟨n, ao, len, cap, ws, rfl, hW, hl, hL, hc, hx⟩ := hA;have Hx := Lib.hid hx; clear hx;have Hl := Lib.hid hl; clear hl;go_enter Tryz.func47, Tryz.ntmps47;go_wp2_with fail
 have hb : Below w.heap.size w (w.alloc (.cells #[.bool n, .slice ao len cap] 45)) := (Below.refl _ _).alloc (Nat.le_refl _) _;refine (zc4 _ _ _ ws _ (hW.below hb) Hl.out (by omega)).mono ?_;rintro e w' ⟨⟨k, rfl, hk⟩, rfl⟩;by_cases h0 : k = 0
 · have t1 : ((k : Int) == 0) = true := by rw [h0]; rfl
   have e0 := hk.1 h0;have E0 := Lib.hid e0; clear e0 hk h0;go_wp2;go_ret;refine ⟨?_, hb⟩;rw [Hx.out, E0.out];have : z0o (zi n 0) = 0 := by cases n <;> rfl
   rw [this]; rfl
 · have t1 : ((k : Int) == 0) = false := by rw [beq_eq_false_iff_ne]; omega
   have e0 : z01 ws ≠ 0 := fun h => h0 (hk.2 h);have E0 := Lib.hid e0; clear e0 hk h0;cases n
   · go_wp2;go_ret;refine ⟨?_, hb⟩;have : z0o (zi false (z01 ws)) = 1 := by
      have := E0.out;unfold z0o zi; simp; omega
     rw [Hx.out, this]; rfl
   · go_wp2;go_ret;refine ⟨?_, hb⟩;have : z0o (zi true (z01 ws)) = -1 := by
      have := E0.out;unfold z0o zi; simp; omega
     rw [Hx.out, this]; rfl
theorem z6y {fn : Func} {p q : Tmp} (h : fn.results = #[.cell p 45, .tmp q]) (tmps : Array Value) (w : World) (g : Nat) (a b : Value) (hp : tmps.getD p undef = .pointer (some ⟨g, 0, none⟩)) (hr : z00 w g 45 [a, b]) :
 (results fn tmps).run Tryz.prog w = .ok (.tuple #[.agg #[a, b], tmps.getD q undef]) w := by
 have hp' : tmps[p]?.getD undef = .pointer (some ⟨g, 0, none⟩) := by simpa using hp
 simp [results, h, hp', asAddr, run_loadVar_row w g 45 45 #[a, b] (0, 0) _ hr Tryz.underlying45 rfl (by kernel_rfl)]
theorem z03.z04 {w : World} {L : Nat} {v : Value} {x : Int} (h : z03 w L v x) : z04 x.natAbs <= L := by
 obtain ⟨n, ao, len, cap, ws, rfl, hW, hl, hL, hc, hx⟩ := h;rw [hx, z2A];exact Nat.le_trans (z0f hW.ok) (by omega)
theorem zbf {x y : Int} (h : y ∣ x) : x.natAbs % y.natAbs = 0 := by
 have := Int.natAbs_dvd_natAbs.2 h;exact Nat.mod_eq_zero_of_dvd this
theorem zi_div {a b : Bool} {m n : Nat} (hn : n ≠ 0) (h : m % n = 0) : zi (a != b) (m / n) = zi a m / zi b n := by
 obtain ⟨k, rfl⟩ := Nat.dvd_of_mod_eq_zero h;rw [Nat.mul_div_cancel_left _ (by omega)];have hy : zi b n ≠ 0 := by cases b <;> simp [zi] <;> omega
 have e : zi a (n * k) = zi b n * zi (a != b) k := by
  cases a <;> cases b <;> simp [zi, Int.natCast_mul, Int.neg_mul, Int.mul_neg]
 rw [e, Int.mul_ediv_cancel_left _ hy]
set_option maxRecDepth 100000 in
set_option maxHeartbeats 1000000 in
theorem z5C (v u : Value) (x y : Int) (w : World) (hA : z03 w 17592186044415 v x) (hB : z03 w 17592186044415 u y) (hy : y ≠ 0) (hd : y ∣ x) :
 Calls Tryz.prog 173 #[v, u] w fun e w' => (∃ v', e = .returned (.tuple #[v', .int .i64 0]) /\ z05 w' w.heap.size v' (x / y)) /\ Below w.heap.size w w' := by
 obtain ⟨n, ao, len, cap, ws, rfl, hW, hl, hL1, hc, hx⟩ := hA;obtain ⟨n2, ao2, len2, cap2, ws2, rfl, hW2, hl2, hL2, hc2, hx2⟩ := hB;have h1 := zbf hd;have h2 : z01 ws2 ≠ 0 := fun h => hy (by rw [hx2, h]; cases n2 <;> rfl);rw [hx, hx2, z2A, z2A] at h1;have H1 := Lib.hid h1; clear h1;have H2 := Lib.hid h2; clear h2;have Hx := Lib.hid hx; clear hx;have Hl := Lib.hid hl; clear hl;have Hx2 := Lib.hid hx2; clear hx2;have Hl2 := Lib.hid hl2; clear hl2;clear hd hy;go_enter Tryz.func173, Tryz.ntmps173;go_wp2_with fail
 obtain ⟨r1, r2, r3, hb⟩ := z1H w #[.bool n, .slice ao len cap] #[.bool n2, .slice ao2 len2 cap2] #[.bool false, .slice none 0 0] 45 45 45;generalize ((w.alloc (.cells #[.bool n, .slice ao len cap] 45)).alloc (.cells #[.bool n2, .slice ao2 len2 cap2] 45)).alloc (.cells #[.bool false, .slice none 0 0] 45) = w2 at *;refine (zdL _ _ _ _ _ _ ws ws2 _ (hW.below hb) (hW2.below hb) Hl.out Hl2.out (by omega) (by omega) H2.out H1.out).mono ?_;rintro e w3 ⟨⟨ao', cap', rfl, hO⟩, hb3⟩;have R1 := r1.below hb3 r1.lt;have R2 := r2.below hb3 r2.lt;have R3 := r3.below hb3 r3.lt;have e1 : w3.cell? ⟨w.heap.size, 0, none⟩ = some (.bool n) := R1.cell 0;have e3 : w3.cell? ⟨w.heap.size + 1, 0, none⟩ = some (.bool n2) := R2.cell 0;have hs3 : w.heap.size + 3 <= w2.heap.size := r3.lt;have hs4 := hb3.size;clear r1 r2 r3;go_wp2_with fail
 refine (z7F (n != n2) _ _ _ _).mono ?_;rintro e w4 ⟨rfl, hb4⟩;have hr4 := R3.below hb4 R3.lt;have hf0 := hr4.free 0;have hf1 := hr4.free 1;have hc0 := hr4.cell 0;have hc1 := hr4.cell 1;have hbf : Below w.heap.size w w4 := (hb.trans (hb3.mono hb.size)).trans (hb4.mono (by omega));clear R1 R2 R3;go_wp2;have hr6 := hr4.z2n (.bool ((n != n2) && decide (0 < z04 (z01 ws / z01 ws2)))) (.slice ao' (z04 (z01 ws / z01 ws2)) cap');refine bodyPost_ret (z6y (p := 4) (q := 5) (by kernel_rfl) _ _ (w.heap.size + 2) _ _ rfl hr6) rfl ?_;have hO' := (hO.mono (B' := w.heap.size + 3) hs3).below hb4;have hI := z05.mk (n != n2) hO';rw [zi_div H2.out H1.out] at hI;rw [Hx.out, Hx2.out];obtain ⟨⟨v', hv, hI'⟩, hB'⟩ := z05.done (a := .bool ((n != n2) && decide (0 < z04 (z01 ws / z01 ws2)))) (b := .slice ao' (z04 (z01 ws / z01 ws2)) cap') hI (by omega : w.heap.size <= w.heap.size + 2) hbf;refine ⟨⟨v', ?_, hI'⟩, hB'⟩;cases hv;rfl
set_option maxRecDepth 100000 in
set_option maxHeartbeats 1000000 in
theorem z6W (k : Int) (w : World) (h1 : -9223372036854775808 <= k) (h2 : k <= 9223372036854775807) :
 Calls Tryz.prog 105 #[.int .i64 k] w fun e w' => (∃ v', e = .returned v' /\ z05 w' w.heap.size v' k) /\ Below w.heap.size w w' := by
 go_enter Tryz.func105, Tryz.ntmps105;by_cases hk : k < 0
 · go_wp2_with fail
   have ev : IntKind.u64.wrap (-IntKind.u64.wrap k) = ((k.natAbs : Nat) : Int) := by simp only [IntKind.wrap_u64]; omega
   rw [ev];obtain ⟨r1, r2, hb⟩ := z0H w #[.bool false, .slice none 0 0] #[.int .u64 ((k.natAbs : Nat) : Int)] 45 49;generalize (w.alloc (.cells #[.bool false, .slice none 0 0] 45)).alloc (.cells #[.int .u64 ((k.natAbs : Nat) : Int)] 49) = w2 at *;have hkW : k.natAbs < W := by unfold W; omega
   have hw2 : WAt w2 (some ⟨w.heap.size + 1, 0, none⟩) [k.natAbs] := z00.wat (ws := [k.natAbs]) r2 (Ok.one hkW);have hv1 : z01 [k.natAbs] = k.natAbs := by simp [z01]
   have hLe := z2b _ 1 1 [k.natAbs] _ hw2 rfl (by omega);rw [hv1] at hLe;refine hLe.mono ?_;rintro e w3 ⟨⟨ao', cap', rfl, hO⟩, hb3⟩;have hr3 := r1.below hb3 r1.lt;have hs2 : w.heap.size + 2 <= w2.heap.size := r2.lt;have hs3 := hb3.size;clear r1 r2 hLe;go_wp2_with fail
   refine (z7F true _ _ _ _).mono ?_;rintro e w4 ⟨rfl, hb4⟩;have hr4 := hr3.below hb4 hr3.lt;have hf0 := hr4.free 0;have hf1 := hr4.free 1;have hc0 := hr4.cell 0;have hc1 := hr4.cell 1;have hbf : Below w.heap.size w w4 := (hb.trans (hb3.mono hb.size)).trans (hb4.mono (by omega));have hO' := (hO.mono (B' := w.heap.size + 1) (by omega)).below hb4;have hI := z05.mk true hO';have hz : zi true k.natAbs = k := by unfold zi; simp; omega
   rw [hz] at hI;have HI := Lib.hid hI;clear hr3 hz hI hw2 hv1 ev;go_wp2;have hr6 := hr4.z2n (.bool (true && decide (0 < z04 k.natAbs))) (.slice ao' (z04 k.natAbs) cap');refine bodyPost_ret (z0i (p := 2) (by kernel_rfl) _ _ w.heap.size _ _ rfl hr6) rfl ?_;exact z05.done HI.out (Nat.le_refl _) hbf
 · obtain ⟨m, rfl⟩ : ∃ m : Nat, k = (m : Int) := ⟨k.toNat, by omega⟩;go_wp2_with fail
   obtain ⟨r1, r2, hb⟩ := z0H w #[.bool false, .slice none 0 0] #[.int .u64 ((m : Nat) : Int)] 45 49;generalize (w.alloc (.cells #[.bool false, .slice none 0 0] 45)).alloc (.cells #[.int .u64 ((m : Nat) : Int)] 49) = w2 at *;have hkW : m < W := by unfold W; omega
   have hw2 : WAt w2 (some ⟨w.heap.size + 1, 0, none⟩) [m] := z00.wat (ws := [m]) r2 (Ok.one hkW);have hv1 : z01 [m] = m := by simp [z01]
   have hLe := z2b _ 1 1 [m] _ hw2 rfl (by omega);rw [hv1] at hLe;refine hLe.mono ?_;rintro e w3 ⟨⟨ao', cap', rfl, hO⟩, hb3⟩;have hr3 := r1.below hb3 r1.lt;have hs2 : w.heap.size + 2 <= w2.heap.size := r2.lt;have hs3 := hb3.size;clear r1 r2 hLe;go_wp2_with fail
   refine (z7F false _ _ _ _).mono ?_;rintro e w4 ⟨rfl, hb4⟩;have hr4 := hr3.below hb4 hr3.lt;have hf0 := hr4.free 0;have hf1 := hr4.free 1;have hc0 := hr4.cell 0;have hc1 := hr4.cell 1;have hbf : Below w.heap.size w w4 := (hb.trans (hb3.mono hb.size)).trans (hb4.mono (by omega));have hO' := (hO.mono (B' := w.heap.size + 1) (by omega)).below hb4;have hI := z05.mk false hO';have hz : zi false m = (m : Int) := rfl;rw [hz] at hI;have HI := Lib.hid hI;clear hr3 hz hI hw2 hv1;go_wp2;have hr6 := hr4.z2n (.bool (false && decide (0 < z04 m))) (.slice ao' (z04 m) cap');refine bodyPost_ret (z0i (p := 2) (by kernel_rfl) _ _ w.heap.size _ _ rfl hr6) rfl ?_;exact z05.done HI.out (Nat.le_refl _) hbf
theorem z05.int {w : World} {B L : Nat} {v : Value} {x : Int} (h : z05 w B v x) (hL : Go.Proofs.YtknkkceioockjaaGreat.z04 x.natAbs <= L) : z03 w L v x := h.at_.mono hL
set_option maxRecDepth 100000 in
set_option maxHeartbeats 1000000 in
theorem z5E (v u t : Value) (x y z : Int) (LA LB : Nat) (w : World) (hA : z03 w LA v x) (hB : z03 w LB u y) (hC : z03 w 17592186044415 t z) (hL : LA + LB <= 17592186044415) :
 Calls Tryz.prog 150 #[v, u, t] w fun e w' => (∃ v', e = .returned v' /\ z05 w' w.heap.size v' (x * y + z)) /\ Below w.heap.size w w' := by
 have hwx := hA.z04;have hwy := hB.z04;have hwz : z04 (x * y).natAbs <= 17592186044415 := by
  rw [Int.natAbs_mul]; have := z2Q x.natAbs y.natAbs; omega
 have Hwz := Lib.hid hwz; clear hwz hwx hwy;obtain ⟨n, ao, len, cap, ws, rfl, hW, hl, hL1, hc, hx⟩ := hA;obtain ⟨n2, ao2, len2, cap2, ws2, rfl, hW2, hl2, hL2, hc2, hx2⟩ := hB;obtain ⟨n3, ao3, len3, cap3, ws3, rfl, hW3, hl3, hL3, hc3, hx3⟩ := hC;have HA : Hid (∀ w', Below w.heap.size w w' -> z03 w' LA (.agg #[.bool n, .slice ao len cap]) x) := Lib.hid (fun w' h => ⟨n, ao, len, cap, ws, rfl, hW.below h, hl, hL1, hc, hx⟩);have HB : Hid (∀ w', Below w.heap.size w w' -> z03 w' LB (.agg #[.bool n2, .slice ao2 len2 cap2]) y) := Lib.hid (fun w' h => ⟨n2, ao2, len2, cap2, ws2, rfl, hW2.below h, hl2, hL2, hc2, hx2⟩);have HC : Hid (∀ w', Below w.heap.size w w' -> z03 w' 17592186044415 (.agg #[.bool n3, .slice ao3 len3 cap3]) z) := Lib.hid (fun w' h => ⟨n3, ao3, len3, cap3, ws3, rfl, hW3.below h, hl3, hL3, hc3, hx3⟩);clear hW hl hL1 hc hx hW2 hl2 hL2 hc2 hx2 hW3 hl3 hL3 hc3 hx3;go_enter Tryz.func150, Tryz.ntmps150;go_wp2;obtain ⟨r1, r2, r3, r4, hb⟩ := z9Z w #[.bool n, .slice ao len cap] #[.bool n2, .slice ao2 len2 cap2] #[.bool n3, .slice ao3 len3 cap3] #[.bool false, .slice none 0 0] 45 45 45 45;generalize (((w.alloc (.cells #[.bool n, .slice ao len cap] 45)).alloc (.cells #[.bool n2, .slice ao2 len2 cap2] 45)).alloc (.cells #[.bool n3, .slice ao3 len3 cap3] 45)).alloc (.cells #[.bool false, .slice none 0 0] 45) = w2 at *;have e1 : w2.cell? ⟨w.heap.size, 0, none⟩ = some (.bool n) := r1.cell 0;have e2 : w2.cell? ⟨w.heap.size, 1, none⟩ = some (.slice ao len cap) := r1.cell 1;have e3 : w2.cell? ⟨w.heap.size + 1, 0, none⟩ = some (.bool n2) := r2.cell 0;have e4 : w2.cell? ⟨w.heap.size + 1, 1, none⟩ = some (.slice ao2 len2 cap2) := r2.cell 1;have e5 : w2.cell? ⟨w.heap.size + 2, 0, none⟩ = some (.bool n3) := r3.cell 0;have e6 : w2.cell? ⟨w.heap.size + 2, 1, none⟩ = some (.slice ao3 len3 cap3) := r3.cell 1;have hb2 := r4.lt;have k0 : w.heap.size < w.heap.size + 3 := by omega
 have k1 : w.heap.size + 1 < w.heap.size + 3 := by omega
 have k2 : w.heap.size + 2 < w.heap.size + 3 := by omega
 have Hr4 := Lib.hid r4;have hs2 : w.heap.size <= w2.heap.size := by omega
 have hbd : Below w.heap.size w w2.drew := hb.drew;clear r1 r2 r3 r4
 go_region_held3 (fun w' => w'.cell? ⟨w.heap.size, 0, none⟩ = some (.bool n) /\ w'.cell? ⟨w.heap.size, 1, none⟩ = some (.slice ao len cap) /\ w'.cell? ⟨w.heap.size + 1, 0, none⟩ = some (.bool n2) /\ w'.cell? ⟨w.heap.size + 1, 1, none⟩ = some (.slice ao2 len2 cap2) /\ w'.cell? ⟨w.heap.size + 2, 0, none⟩ = some (.bool n3) /\ w'.cell? ⟨w.heap.size + 2, 1, none⟩ = some (.slice ao3 len3 cap3))
  (first
   | exact ⟨e1, e2, e3, e4, e5, e6⟩
   | exact ⟨(hb3'.cell k0).trans e1, (hb3'.cell k0).trans e2, (hb3'.cell k1).trans e3, (hb3'.cell k1).trans e4, (hb3'.cell k2).trans e5, (hb3'.cell k2).trans e6⟩
   | exact ⟨(hb5.cell k0).trans e1, (hb5.cell k0).trans e2, (hb5.cell k1).trans e3, (hb5.cell k1).trans e4, (hb5.cell k2).trans e5, (hb5.cell k2).trans e6⟩
   | exact ⟨(((hb5.setCell (Nat.le_refl _) _).setCell (Nat.le_refl _) _).cell k0).trans e1, (((hb5.setCell (Nat.le_refl _) _).setCell (Nat.le_refl _) _).cell k0).trans e2, (((hb5.setCell (Nat.le_refl _) _).setCell (Nat.le_refl _) _).cell k1).trans e3, (((hb5.setCell (Nat.le_refl _) _).setCell (Nat.le_refl _) _).cell k1).trans e4, (((hb5.setCell (Nat.le_refl _) _).setCell (Nat.le_refl _) _).cell k2).trans e5, (((hb5.setCell (Nat.le_refl _) _).setCell (Nat.le_refl _) _).cell k2).trans e6⟩)
  (first
   | (go_at_call 72; refine (z7x _ _ x y LA LB _ (by exact HA.out _ hbd) (by exact HB.out _ hbd) (by omega)).mono ?_; rintro e w3 ⟨⟨v3, rfl, hO⟩, hb3⟩; have HO := Lib.hid (hO.int Hwz.out); have hb3' : Below (w.heap.size + 3) w2.drew w3 := hb3.mono (Nat.le_of_lt hb2); have hb3w : Below w.heap.size w w3 := hbd.trans (hb3.mono hs2))
   | (go_at_call 118; refine (z7t _ _ (x * y) z _ (by exact HO.out) (by exact HC.out _ hb3w)).mono ?_; rintro e w4 ⟨⟨v4, rfl, hO4⟩, hb4⟩; have hb5 : Below (w.heap.size + 3) w2.drew w4 := (hb3.trans (hb4.mono hb3.size)).mono (Nat.le_of_lt hb2); have hr4 := (z00.below (w := w2.drew) Hr4.out hb3 hb2).below hb4 (Nat.lt_of_lt_of_le hb2 hb3.size); have hf0 := hr4.free 0; have hf1 := hr4.free 1; have hc0 := hr4.cell 0; have hc1 := hr4.cell 1; have HO4 := Lib.hid hO4; obtain ⟨ao', cap', rfl, -⟩ := hO4))
 go_wp2;have hr5 := hr4.z2n (.bool (decide (x * y + z < 0))) (.slice ao' (z04 (x * y + z).natAbs) cap');have hbf : Below w.heap.size w w4 := hb3w.trans (hb4.mono (Nat.le_trans hs2 hb3.size));refine bodyPost_ret (z0i (p := 6) (by kernel_rfl) _ _ (w.heap.size + 3) _ _ rfl hr5) rfl ?_;have hs3 : w2.heap.size <= w3.heap.size := hb3.size;have hI := HO4.out.mono (B' := w.heap.size + 4) (by omega);exact z05.done hI (by omega) hbf
def NoW (cs : List Value) : Prop := ∀ c ∈ cs, ∀ n, c ≠ .int .u64 n
theorem NoW.nil : NoW [] := fun c h => by cases h
theorem NoW.bool {b : Bool} {cs : List Value} (h : NoW cs) : NoW (.bool b :: cs) := fun c hc n => by
 rcases List.mem_cons.1 hc with rfl | hc
 · simp
 · exact h c hc n
theorem NoW.slice {ao : Option Addr} {l k : Nat} {cs : List Value} (h : NoW cs) : NoW (.slice ao l k :: cs) := fun c hc n => by
 rcases List.mem_cons.1 hc with rfl | hc
 · simp
 · exact h c hc n
theorem NoW.two (b : Bool) (ao : Option Addr) (l k : Nat) : NoW [.bool b, .slice ao l k] := NoW.bool (NoW.slice NoW.nil)
theorem NoW.append {a b : List Value} (ha : NoW a) (hb : NoW b) : NoW (a ++ b) := fun c hc n => (List.mem_append.1 hc).elim (fun h => ha c h n) (fun h => hb c h n)
theorem WAt.setRow {w : World} {ao : Option Addr} {ws : List Nat} (h : WAt w ao ws) {g : Nat} {t : TypeId} {cs : List Value} (hr : z00 w g t cs) (hn : NoW cs) (i : Nat) (u : Value) : WAt (w.setCell ⟨g, i, none⟩ u) ao ws := by
 refine ⟨h.1, fun hl => ?_⟩;obtain ⟨b, o, rfl, hb, hc⟩ := h.2 hl;have hne : b ≠ g := by
  rintro rfl;have h0 := hc 0 hl;rw [hr.cell] at h0;exact hn _ (List.mem_of_getElem? h0) _ rfl
 refine ⟨b, o, rfl, by simpa using hb, fun k hk => ?_⟩;rw [World.cell?_setCell_far _ _ _ _ (fun e => hne e.symm)];exact hc k hk
theorem z03.setRow {w : World} {L : Nat} {v : Value} {x : Int} (h : z03 w L v x) {g : Nat} {t : TypeId} {cs : List Value} (hr : z00 w g t cs) (hn : NoW cs) (i : Nat) (u : Value) : z03 (w.setCell ⟨g, i, none⟩ u) L v x := by
 obtain ⟨n, ao, len, cap, ws, rfl, hW, hl, hL, hc, hx⟩ := h;exact ⟨n, ao, len, cap, ws, rfl, hW.setRow hr hn i u, hl, hL, hc, hx⟩
theorem z16.setRow {w : World} {B : Nat} {ao : Option Addr} {len cap : Nat} {ws : List Nat} (h : z16 w B ao len cap ws) {g : Nat} {t : TypeId} {cs : List Value} (hr : z00 w g t cs) (ht : t ≠ 49) (i : Nat) (u : Value) : z16 (w.setCell ⟨g, i, none⟩ u) B ao len cap ws := by
 obtain ⟨h1, h2, h3, h4⟩ := h;refine ⟨h1, h2, h3, ?_⟩;rcases h4 with h0 | ⟨g', c, cur, hv, hbb, hg, r⟩
 · exact .inl h0
 · have hne : g' ≠ g := by
    rintro rfl;unfold z00 at hr;rw [hg] at hr;simp only [Option.some.injEq, Obj.cells.injEq] at hr;exact ht hr.2.1.symm
   exact .inr ⟨g', c, cur, hv, hbb, by rw [Below.heap_setCell _ _ _ _ hne]; exact hg, r⟩
theorem z05.setRow {w : World} {B : Nat} {v : Value} {x : Int} (h : z05 w B v x) {g : Nat} {t : TypeId} {cs : List Value} (hr : z00 w g t cs) (ht : t ≠ 49) (i : Nat) (u : Value) : z05 (w.setCell ⟨g, i, none⟩ u) B v x := by
 obtain ⟨ao, cap, rfl, hO⟩ := h;exact ⟨ao, cap, rfl, hO.setRow hr ht i u⟩
theorem z05.z2F {w : World} {B : Nat} {v : Value} {x : Int} (h : z05 w B v x) {g : Nat} {a b : Value} (hr : z00 w g 45 [a, b]) (u u' : Value) : z05 ((w.setCell ⟨g, 0, none⟩ u).setCell ⟨g, 1, none⟩ u') B v x :=
 (h.setRow hr (by decide) 0 u).setRow (hr.set 0 u) (by decide) 1 u'
end Go.Proofs.YtknkkceioockjaaGreat
namespace Go.Proofs.YtknkkceioockjaaGreat
open Go
theorem z8k {α} (p q : α -> Bool) (h : ∀ x, q x = true -> p x = true) (y : α) (hp : p y = true) (hq : q y = false) : ∀ l : List α, y ∈ l -> l.countP q < l.countP p
 | [], hm => by cases hm
 | x :: l, hm => by
  have hle : ∀ l : List α, l.countP q <= l.countP p := fun l => List.countP_mono_left (fun x _ => h x);rw [List.countP_cons, List.countP_cons];rcases List.mem_cons.1 hm with rfl | hm
  · rw [hp, hq]; have := hle l; simp; omega
  · have := z8k p q h y hp hq l hm;cases hqx : q x
    · simp; omega
    · rw [h x hqx]; simp; omega
def z3s (ops : Array Oper) (n : Nat) (L : Nat -> Bool) : Prop := ∀ k < n, L k = true -> ((ops[k]?).map (·.after.all fun e => !Region.binds .any e || L e.on)).getD false = true
theorem z3s.add {ops : Array Oper} {n i : Nat} {L L' : Nat -> Bool} (h : z3s ops n L) (hi : ((ops[i]?).map (·.after.all fun e => !Region.binds .any e || L e.on)).getD false = true) (hL : ∀ j, L' j = if j = i then true else L j) : z3s ops n L' := by
 have mono : ∀ k : Nat, ((ops[k]?).map (·.after.all fun e => !Region.binds .any e || L e.on)).getD false = true -> ((ops[k]?).map (·.after.all fun e => !Region.binds .any e || L' e.on)).getD false = true := by
  intro k hk;cases ho : ops[k]? with
  | none => rw [ho] at hk; simp at hk
  | some o =>
   rw [ho] at hk;simp only [Option.map_some, Option.getD_some] at hk ⊢;rw [Array.all_eq_true] at hk ⊢;intro m hm;have := hk m hm;simp only [Bool.or_eq_true] at this ⊢;refine this.imp id fun h => ?_;rw [hL]; split
   · rfl
   · exact h
 intro k hk hLk;rw [hL] at hLk;by_cases hki : k = i
 · subst hki; exact mono k hi
 · rw [if_neg hki] at hLk; exact mono k (h k hk hLk)
theorem zbu {P : Program} {ops : Array Oper} {Q : Exit -> Act -> World -> Prop} {n : Nat} (hn : ops.size = n)
 (hb : ((List.range n).all fun i => ((ops[i]?).map (·.after.all fun e => !Region.binds .any e || decide (e.on < i))).getD false) = true)
 (F : (Nat -> Value) -> Act) (J : (Nat -> Bool) -> (Nat -> Value) -> World -> Prop)
 (hs : ∀ i < n, ∀ L x w, J L x w -> z3s ops n L -> L i = false -> ((ops[i]?).map (·.after.all fun e => !Region.binds .any e || L e.on)).getD false = true -> wpOp P ops Q i (fun a' w' => ∃ x', a' = F x' /\ J (fun j => if j = i then true else L j) x' w') (F x) w)
 (hend : ∀ L x w, (∀ i < n, L i = true) -> J L x w -> Q .normal (F x) w) :
 ∀ (fuel : Nat) (listed : Array Bool) (x : Nat -> Value) (w : World), listed.size = n -> (List.range n).countP (fun i => !listed.getD i false) <= fuel -> z3s ops n (fun j => listed.getD j false) -> J (fun j => listed.getD j false) x w -> wpAny P .any ops Q fuel listed (F x) w := by
 have hex : ∀ listed : Array Bool, listed.size = n -> Region.ready .any ops listed = [] -> ∀ i < n, listed.getD i false = true := by
  intro listed hsz hr i;induction i using Nat.strongRecOn with
  | _ i ih =>
   intro hi;by_cases h : listed.getD i false = true
   · exact h
   exfalso;have hm : i ∈ Region.ready .any ops listed := by
    simp only [Region.ready, List.mem_filter, List.mem_range, hn, Bool.and_eq_true];refine ⟨hi, ?_, ?_⟩
    · simp only [Array.getD_eq_getD_getElem?] at h ⊢;rw [Array.getElem?_eq_getElem (by omega)] at h ⊢;simpa using h
    · have := List.all_eq_true.1 hb i (List.mem_range.2 hi);cases ho : ops[i]? with
      | none => rw [ho] at this; simp at this
      | some o =>
       rw [ho] at this;simp only [Option.map_some, Option.getD_some] at this ⊢;rw [Array.all_eq_true] at this ⊢;intro k hk;have hlt := this k hk;simp only [Bool.or_eq_true, decide_eq_true_eq] at hlt ⊢;exact hlt.imp id fun hlt => ih _ hlt (by omega)
   rw [hr] at hm; cases hm
 intro fuel;induction fuel with
 | zero =>
  intro listed x w hsz hf hG hJ;have hr : Region.ready .any ops listed = [] := by
   refine List.eq_nil_iff_forall_not_mem.2 fun i hi => ?_;simp only [Region.ready, List.mem_filter, List.mem_range, hn, Bool.and_eq_true] at hi;have : 0 < (List.range n).countP (fun i => !listed.getD i false) := List.countP_pos_iff.2 ⟨i, List.mem_range.2 hi.1, by
    have h1 := hi.2.1;simp only [Array.getD_eq_getD_getElem?] at h1 ⊢;rw [Array.getElem?_eq_getElem (by omega)] at h1 ⊢;simpa using h1⟩
   omega
  exact ⟨hr, hend _ x w (hex listed hsz hr) hJ⟩
 | succ fuel ih =>
  intro listed x w hsz hf hG hJ;refine ⟨fun hr => hend _ x w (hex listed hsz hr) hJ, fun i hi => ?_⟩;simp only [Region.ready, List.mem_filter, List.mem_range, hn, Bool.and_eq_true] at hi;have hfi : listed.getD i false = false := by
   have h1 := hi.2.1;simp only [Array.getD_eq_getD_getElem?] at h1 ⊢;rw [Array.getElem?_eq_getElem (by omega)] at h1 ⊢;simpa using h1
  refine wpOp_mono ?_ (hs i hi.1 _ x w hJ hG hfi hi.2.2);rintro a' w' ⟨x', rfl, hJ'⟩;have e : (fun j => if j = i then true else listed.getD j false) = fun j => (listed.setIfInBounds i true).getD j false := by
   funext j;by_cases hj : j = i
   · subst hj; simp [Array.getD_eq_getD_getElem?, Array.getElem?_setIfInBounds, hsz, hi.1]
   · simp [Array.getD_eq_getD_getElem?, Array.getElem?_setIfInBounds, hj, Ne.symm hj]
  rw [e] at hJ';refine ih _ x' w' (by simp [hsz]) ?_ (hG.add hi.2.2 (fun j => (congrFun e j).symm)) hJ';have := z8k (fun i => !listed.getD i false) (fun j => !(listed.setIfInBounds i true).getD j false) (by
   intro j hj;rw [<- congrFun e j] at hj;by_cases hji : j = i
   · simp [hji] at hj
   · simpa [hji] using hj) i (by simp [hfi]) (by rw [<- congrFun e i]; simp) (List.range n) (List.mem_range.2 hi.1)
  omega
theorem z2s {P : Program} {ops : Array Oper} {Q : Exit -> Act -> World -> Prop} {id n : Nat} {a : Act} {w : World} (hm : P.follows .mixedOrders = true) (hn : ops.size = n)
 (hb : ((List.range n).all fun i => ((ops[i]?).map (·.after.all fun e => !Region.binds .any e || decide (e.on < i))).getD false) = true)
 (F : (Nat -> Value) -> Act) (J : (Nat -> Bool) -> (Nat -> Value) -> World -> Prop) (x0 : Nat -> Value) (ha : a = F x0)
 (h0 : J (fun _ => false) x0 w.drew)
 (hs : ∀ i < n, ∀ L x w, J L x w -> z3s ops n L -> L i = false -> ((ops[i]?).map (·.after.all fun e => !Region.binds .any e || L e.on)).getD false = true -> wpOp P ops Q i (fun a' w' => ∃ x', a' = F x' /\ J (fun j => if j = i then true else L j) x' w') (F x) w)
 (hend : ∀ L x w, (∀ i < n, L i = true) -> J L x w -> Q .normal (F x) w) : (Code.region id ops true).wp P Q a w := by
 subst ha;refine wp_region_any hm (zbu hn hb F J hs hend _ _ x0 _ (by simp [hn]) ?_ ?_ ?_)
 · exact Nat.le_trans List.countP_le_length (by simp [hn])
 · intro k _ hk;simp only [Array.getD_eq_getD_getElem?, Array.getElem?_replicate] at hk;split at hk <;> simp at hk
 · have e : (fun j => (Array.replicate ops.size false).getD j false) = fun _ => false := by
    funext j; simp [Array.getD_eq_getD_getElem?, Array.getElem?_replicate]; split <;> rfl
   rw [e]; exact h0
end Go.Proofs.YtknkkceioockjaaGreat
namespace Go.Proofs.YtknkkceioockjaaGreat
open Go.RowKit
theorem NoW.set {cs : List Value} (h : NoW cs) (i : Nat) {u : Value} (hu : ∀ n, u ≠ .int .u64 n) : NoW (cs.set i u) := fun c hc n => by
 rcases List.mem_or_eq_of_mem_set hc with hc | rfl
 · exact h c hc n
 · exact hu n
structure AV where
 holds : World -> Value -> Prop
 below : ∀ {w w' : World} {v : Value}, holds w v -> Below w.heap.size w w' -> holds w' v
 ban : TypeId -> Bool
 set : ∀ {w : World} {v : Value} {g : Nat} {t : TypeId} {cs : List Value}, holds w v -> z00 w g t cs -> NoW cs -> t ≠ 49 -> ban t = false -> ∀ (k : Nat) (u : Value), (∀ n, u ≠ .int .u64 n) -> holds (w.setCell ⟨g, k, none⟩ u) v
def AV.free (holds : World -> Value -> Prop) (below : ∀ {w w' : World} {v : Value}, holds w v -> Below w.heap.size w w' -> holds w' v)
 (set : ∀ {w : World} {v : Value} {g : Nat} {t : TypeId} {cs : List Value}, holds w v -> z00 w g t cs -> NoW cs -> t ≠ 49 -> ∀ (k : Nat) (u : Value), (∀ n, u ≠ .int .u64 n) -> holds (w.setCell ⟨g, k, none⟩ u) v) : AV :=
 ⟨holds, below, fun _ => false, fun h hr hn ht _ k u hu => set h hr hn ht k u hu⟩
def AV.any : AV := AV.free (fun _ _ => True) (fun _ _ => trivial) (fun _ _ _ _ _ _ _ => trivial)
def AV.val (u : Value) : AV := AV.free (fun _ v => v = u) (fun h _ => h) (fun h _ _ _ _ _ _ => h)
def AV.int (B : Nat) (x : Int) : AV := AV.free (fun w v => z05 w B v x) (fun h hb => z05.below h hb) (fun h hr _ ht k u _ => z05.setRow h hr ht k u)
def AV.at_ (L : Nat) (x : Int) : AV := AV.free (fun w v => z03 w L v x) (fun h hb => z03.below h hb) (fun h hr hn _ k u _ => z03.setRow h hr hn k u)
def AV.ptr (B : Nat) (t : TypeId) (n : Nat) : AV := AV.free (fun w v => ∃ g cs, v = .pointer (some ⟨g, 0, none⟩) /\ B <= g /\ z00 w g t cs /\ NoW cs /\ cs.length = n) (fun ⟨g, cs, e, hB, hr, hn, hl⟩ hb => ⟨g, cs, e, hB, hr.below hb hr.lt, hn, hl⟩) (fun {_ _ g' _ _} ⟨g, cs, e, hB, hr, hn, hl⟩ hr' _ _ k u hu => by
 by_cases hg : g = g'
 · subst hg; exact ⟨g, cs.set k u, e, hB, hr.set k u, hn.set k hu, by simpa using hl⟩
 · exact ⟨g, cs, e, hB, hr.other hg u, hn, hl⟩)
structure CV where
 holds : World -> List Value -> Prop
 below : ∀ {w w' : World} {v : List Value}, holds w v -> Below w.heap.size w w' -> holds w' v
 ban : TypeId -> Bool
 set : ∀ {w : World} {v : List Value} {g : Nat} {t : TypeId} {cs : List Value}, holds w v -> z00 w g t cs -> NoW cs -> t ≠ 49 -> ban t = false -> ∀ (k : Nat) (u : Value), (∀ n, u ≠ .int .u64 n) -> holds (w.setCell ⟨g, k, none⟩ u) v
def CV.free (holds : World -> List Value -> Prop) (below : ∀ {w w' : World} {v : List Value}, holds w v -> Below w.heap.size w w' -> holds w' v)
 (set : ∀ {w : World} {v : List Value} {g : Nat} {t : TypeId} {cs : List Value}, holds w v -> z00 w g t cs -> NoW cs -> t ≠ 49 -> ∀ (k : Nat) (u : Value), (∀ n, u ≠ .int .u64 n) -> holds (w.setCell ⟨g, k, none⟩ u) v) : CV :=
 ⟨holds, below, fun _ => false, fun h hr hn ht _ k u hu => set h hr hn ht k u hu⟩
def CV.int (B : Nat) (x : Int) : CV := CV.free (fun w cs => ∃ b ao l k, cs = [.bool b, .slice ao l k] /\ z05 w B (.agg #[.bool b, .slice ao l k]) x) (fun ⟨b, ao, l, k, e, h⟩ hb => ⟨b, ao, l, k, e, z05.below h hb⟩) (fun ⟨b, ao, l, k, e, h⟩ hr _ ht j u _ => ⟨b, ao, l, k, e, z05.setRow h hr ht j u⟩)
def z0N (w : World) (g : Nat) : Nat -> List Value -> World
 | _, [] => w
 | k, u :: us => z0N (w.setCell ⟨g, k, none⟩ u) g (k + 1) us
theorem NoW.tail {u : Value} {us : List Value} (h : NoW (u :: us)) : NoW us := fun c hc => h c (List.mem_cons_of_mem _ hc)
theorem NoW.head {u : Value} {us : List Value} (h : NoW (u :: us)) : ∀ n, u ≠ .int .u64 n := h u (List.mem_cons_self ..)
theorem z00.z0N {g : Nat} {t : TypeId} : ∀ (us : List Value) (k : Nat) {w : World} {cs : List Value}, z00 w g t cs -> k + us.length = cs.length -> z00 (z0N w g k us) g t (cs.take k ++ us)
 | [], k, w, cs, h, hl => by
  rw [List.append_nil, List.take_of_length_le (by simp at hl; omega)]; exact h
 | u :: us, k, w, cs, h, hl => by
  have h1 := z00.z0N us (k + 1) (h.set k u) (by simp at hl ⊢; omega);have e : (cs.set k u).take (k + 1) = cs.take k ++ [u] := by
   simp at hl;rw [List.take_succ_eq_append_getElem (by simp; omega), List.take_set_of_le (Nat.le_refl _)];simp
  rw [e] at h1;simpa [Go.Proofs.YtknkkceioockjaaGreat.z0N] using h1
theorem AV.z5u (a : AV) {v : Value} {g : Nat} {t : TypeId} (ht : t ≠ 49) (hb : a.ban t = false) : ∀ (us : List Value) (k : Nat) {w : World} {cs : List Value}, a.holds w v -> z00 w g t cs -> NoW cs -> NoW us -> a.holds (z0N w g k us) v
 | [], k, w, cs, h, _, _, _ => h
 | u :: us, k, w, cs, h, hr, hn, hu => AV.z5u a ht hb us (k + 1) (a.set h hr hn ht hb k u hu.head) (hr.set k u) (hn.set k hu.head) hu.tail
theorem CV.z5u (a : CV) {v : List Value} {g : Nat} {t : TypeId} (ht : t ≠ 49) (hb : a.ban t = false) : ∀ (us : List Value) (k : Nat) {w : World} {cs : List Value}, a.holds w v -> z00 w g t cs -> NoW cs -> NoW us -> a.holds (Go.Proofs.YtknkkceioockjaaGreat.z0N w g k us) v
 | [], k, w, cs, h, _, _, _ => h
 | u :: us, k, w, cs, h, hr, hn, hu => CV.z5u a ht hb us (k + 1) (a.set h hr hn ht hb k u hu.head) (hr.set k u) (hn.set k hu.head) hu.tail
theorem z00.z2c {b g : Nat} {t : TypeId} (hne : b ≠ g) : ∀ (us : List Value) (k : Nat) {w : World} {cs : List Value}, z00 w b t cs -> z00 (Go.Proofs.YtknkkceioockjaaGreat.z0N w g k us) b t cs
 | [], k, w, cs, h => h
 | u :: us, k, w, cs, h => z00.z2c hne us (k + 1) (h.other hne u)
theorem z26 {B g : Nat} (hg : B <= g) : ∀ (us : List Value) (k : Nat) {w w' : World}, Below B w w' -> Below B w (z0N w' g k us)
 | [], k, w, w', h => h
 | u :: us, k, w, w', h => z26 hg us (k + 1) (h.setCell (p := ⟨g, k, none⟩) hg u)
theorem z6i {g : Nat} {a : Addr} (hne : g ≠ a.block) : ∀ (us : List Value) (k : Nat) {w : World}, (z0N w g k us).cell? a = w.cell? a
 | [], k, w => rfl
 | u :: us, k, w => (z6i hne us (k + 1)).trans (World.cell?_setCell_far _ _ _ _ hne)
theorem z6p {g : Nat} : ∀ (us : List Value) (k : Nat) {w : World}, (z0N w g k us).heap.size = w.heap.size
 | [], k, w => rfl
 | u :: us, k, w => (z6p us (k + 1)).trans (by simp)
def z11 (L : Nat -> Bool) (i : Nat) : Nat -> Bool := fun j => if j = i then true else L j
def z0k (x : Nat -> Value) (d : Nat) (v : Value) : Nat -> Value := fun j => if j = d then v else x j
theorem z07 {x : Nat -> Value} {d : Nat} {v : Value} (h : x d = v) : x = z0k x d v := by
 funext k; unfold z0k; split
 · rename_i e; rw [e, h]
 · rfl
structure RD where
 n : Nat
 dst : Nat -> Nat
 av : Nat -> AV
 tg : List (Nat × Nat × AV)
 bs : List (Value × AV)
 rows : List (Nat × TypeId × List Value)
 nw : List (Nat × Nat × TypeId × CV)
 cells : List (Addr × Value)
 al : List (Nat × Nat)
def RD.okB (d : RD) (t : TypeId) : Bool := (List.range d.n).all (fun i => !(d.av i).ban t) && d.tg.all (fun q => !q.2.2.ban t) && d.bs.all (fun p => !p.2.ban t) && d.nw.all (fun q => !q.2.2.2.ban t)
theorem RD.okB.all {d : RD} {t : TypeId} (h : d.okB t = true) : (∀ i, i < d.n -> (d.av i).ban t = false) /\ (∀ q ∈ d.tg, q.2.2.ban t = false) /\ (∀ p ∈ d.bs, p.2.ban t = false) /\ ∀ q ∈ d.nw, q.2.2.2.ban t = false := by
 unfold RD.okB at h;simp only [Bool.and_eq_true, List.all_eq_true, Bool.not_eq_true', List.mem_range] at h;exact ⟨h.1.1.1, h.1.1.2, h.1.2, h.2⟩
structure RD.J (d : RD) (g0 B : Nat) (w0 : World) (L : Nat -> Bool) (x : Nat -> Value) (w : World) : Prop where
 fr : Below g0 w0 w
 size : B <= w.heap.size
 base : ∀ p ∈ d.bs, p.2.holds w p.1
 rows : ∀ p ∈ d.rows, z00 w p.1 p.2.1 p.2.2 /\ p.1 < B /\ ∀ t ∈ d.tg, p.1 ≠ t.2.1
 cells : ∀ p ∈ d.cells, w.cell? p.1 = some p.2 /\ p.1.block < B /\ ∀ t ∈ d.tg, p.1.block ≠ t.2.1
 slot : ∀ i, i < d.n -> L i = true -> (d.av i).holds w (x (d.dst i))
 tgt : ∀ t ∈ d.tg, g0 <= t.2.1 /\ t.2.1 < B /\ ∃ n ao l k, z00 w t.2.1 45 [.bool n, .slice ao l k] /\ (L t.1 = true -> t.2.2.holds w (.agg #[.bool n, .slice ao l k]))
 apart : ∀ p ∈ d.al, ∀ q ∈ d.al, p.1 ≠ q.1 -> L p.1 = true -> L q.1 = true -> x p.2 ≠ x q.2
 new : ∀ t ∈ d.nw, L t.1 = true -> ∃ g cs, x t.2.1 = .pointer (some ⟨g, 0, none⟩) /\ B <= g /\ z00 w g t.2.2.1 cs /\ t.2.2.2.holds w cs
theorem RD.J.grow {d : RD} {g0 B : Nat} {w0 w w' : World} {L : Nat -> Bool} {x : Nat -> Value} (h : d.J g0 B w0 L x w) (i : Nat) (hi : i < d.n) (v : Value)
 (hd : ((List.range d.n).all fun j => d.dst j != d.dst i || j == i) = true) (ht : (d.tg.all fun t => t.1 != i) = true) (hnw : ∀ t ∈ d.nw, t.1 ≠ i /\ (t.2.1 = d.dst i -> L t.1 = false)) (hal : ∀ p ∈ d.al, (p.1 = i ↔ p.2 = d.dst i) /\ (p.1 = i -> ∀ q ∈ d.al, q.1 ≠ i -> L q.1 = true -> v ≠ x q.2)) (hb : Below w.heap.size w w') (hv : (d.av i).holds w' v) (hg : g0 <= w.heap.size) :
 d.J g0 B w0 (z11 L i) (z0k x (d.dst i) v) w' := by
 refine ⟨h.fr.trans (hb.mono hg), Nat.le_trans h.size hb.size, fun p hp => AV.below _ (h.base p hp) hb, fun p hp => ⟨(h.rows p hp).1.below hb (h.rows p hp).1.lt, (h.rows p hp).2⟩, fun p hp => ⟨(hb.cell (Nat.lt_of_lt_of_le (h.cells p hp).2.1 h.size)).trans (h.cells p hp).1, (h.cells p hp).2⟩, fun j hj hL => ?_, fun t ht' => ?_, fun p hp q hq hpq hLp hLq => ?_, fun t ht' hL => ?_⟩
 · unfold z0k;by_cases hji : j = i
   · subst hji; rw [if_pos rfl]; exact hv
   · have := List.all_eq_true.1 hd j (List.mem_range.2 hj);simp only [Bool.or_eq_true, bne_iff_ne, beq_iff_eq] at this;rw [if_neg (this.resolve_right hji)];unfold z11 at hL;rw [if_neg hji] at hL;exact AV.below _ (h.slot j hj hL) hb
 · obtain ⟨h1, h2, a, b, l, k, hr, hc⟩ := h.tgt t ht';refine ⟨h1, h2, a, b, l, k, hr.below hb hr.lt, fun hL => ?_⟩;have hne := List.all_eq_true.1 ht t ht';simp only [bne_iff_ne] at hne;unfold z11 at hL;rw [if_neg hne] at hL;exact AV.below _ (hc hL) hb
 · unfold z11 at hLp hLq;unfold z0k;by_cases hpi : p.1 = i
   · have hqi : q.1 ≠ i := fun e => hpq (hpi.trans e.symm);rw [if_neg hqi] at hLq;rw [if_pos ((hal p hp).1.1 hpi), if_neg (fun e => hqi ((hal q hq).1.2 e))];exact (hal p hp).2 hpi q hq hqi hLq
   · rw [if_neg hpi] at hLp;by_cases hqi : q.1 = i
     · rw [if_pos ((hal q hq).1.1 hqi), if_neg (fun e => hpi ((hal p hp).1.2 e))];exact fun e => (hal q hq).2 hqi p hp hpi hLp e.symm
     · rw [if_neg hqi] at hLq;rw [if_neg (fun e => hpi ((hal p hp).1.2 e)), if_neg (fun e => hqi ((hal q hq).1.2 e))];exact h.apart p hp q hq hpq hLp hLq
 · have hne := hnw t ht';unfold z11 at hL;rw [if_neg hne.1] at hL;obtain ⟨g, cs, e, hB, hr, hc⟩ := h.new t ht' hL;refine ⟨g, cs, ?_, hB, hr.below hb hr.lt, CV.below _ hc hb⟩;unfold z0k;rw [if_neg (fun e2 => by rw [hne.2 e2] at hL; cases hL)];exact e
theorem RD.J.growB {d : RD} {g0 B : Nat} {w0 w w' : World} {L : Nat -> Bool} {x : Nat -> Value} (h : d.J g0 B w0 L x w) (i : Nat) (hi : i < d.n) (v : Value)
 (hd : ((List.range d.n).all fun j => d.dst j != d.dst i || j == i) = true) (ht : (d.tg.all fun t => t.1 != i) = true) (hk : (d.nw.all (fun t => t.1 != i && t.2.1 != d.dst i) && d.al.all (fun p => p.1 != i && p.2 != d.dst i)) = true) (hb : Below w.heap.size w w') (hv : (d.av i).holds w' v) (hg : g0 <= w.heap.size) :
 d.J g0 B w0 (z11 L i) (z0k x (d.dst i) v) w' := by
 simp only [Bool.and_eq_true, List.all_eq_true, bne_iff_ne] at hk;exact h.grow i hi v hd ht (fun t ht => ⟨(hk.1 t ht).1, fun e => absurd e (hk.1 t ht).2⟩) (fun p hp => ⟨⟨fun e => absurd e (hk.2 p hp).1, fun e => absurd e (hk.2 p hp).2⟩, fun e => absurd e (hk.2 p hp).1⟩) hb hv hg
theorem RD.J.z1N {d : RD} {g0 B : Nat} {w0 w : World} {L : Nat -> Bool} {x : Nat -> Value} (h : d.J g0 B w0 L x w) (i s : Nat) (t : TypeId) (A : CV) (hi : i < d.n) (hav : d.av i = .any) (hm : (i, s, t, A) ∈ d.nw) (hu1 : ∀ t' ∈ d.nw, t'.1 = i -> t' = (i, s, t, A)) (hap : ∀ t' ∈ d.nw, t'.1 ≠ i -> L t'.1 = true -> x t'.2.1 ≠ x s) (hal : (d.al.all fun t => t.1 != i) = true) (htg : (d.tg.all fun t => t.1 != i) = true) (ht : t ≠ 49)
 {g : Nat} {cs us : List Value} (hx : x s = .pointer (some ⟨g, 0, none⟩)) (hB : B <= g) (hr : z00 w g t cs) (hn : NoW cs) (hl : us.length = cs.length) (hu : NoW us) (hv : A.holds w us) (hg : g0 <= B) (hban : d.okB t = true := by kernel_rfl) :
 d.J g0 B w0 (z11 L i) x (z0N w g 0 us) := by
 have hO := RD.okB.all hban;have T : ∀ (a : AV) (v : Value), a.ban t = false -> a.holds w v -> a.holds (z0N w g 0 us) v := fun a v hb hh => AV.z5u a ht hb _ 0 hh hr hn hu;have T' : ∀ (a : CV) (v : List Value), a.ban t = false -> a.holds w v -> a.holds (z0N w g 0 us) v := fun a v hb hh => CV.z5u a ht hb _ 0 hh hr hn hu;refine ⟨z26 (by omega) _ _ h.fr, by rw [z6p]; exact h.size, fun p hp => T _ _ (hO.2.2.1 p hp) (h.base p hp), fun p hp => ⟨z00.z2c (by have := (h.rows p hp).2.1; omega) _ _ (h.rows p hp).1, (h.rows p hp).2⟩, fun p hp => ⟨(z6i (by have := (h.cells p hp).2.1; omega) _ _).trans (h.cells p hp).1, (h.cells p hp).2⟩, fun j hj hL => ?_, fun t' ht' => ?_, fun p hp q hq hpq hLp hLq => ?_, fun t' ht' hL => ?_⟩
 · by_cases hji : j = i
   · subst hji; rw [hav]; exact trivial
   · unfold z11 at hL;rw [if_neg hji] at hL;exact T _ _ (hO.1 j hj) (h.slot j hj hL)
 · obtain ⟨h1, h2, a, b, l', k', hr', hc⟩ := h.tgt t' ht';refine ⟨h1, h2, a, b, l', k', z00.z2c (by omega) _ _ hr', fun hL => ?_⟩;have hne := List.all_eq_true.1 htg t' ht';simp only [bne_iff_ne] at hne;unfold z11 at hL;rw [if_neg hne] at hL;exact T _ _ (hO.2.1 t' ht') (hc hL)
 · have h1 := List.all_eq_true.1 hal p hp;have h2 := List.all_eq_true.1 hal q hq;simp only [bne_iff_ne] at h1 h2;unfold z11 at hLp hLq;rw [if_neg h1] at hLp;rw [if_neg h2] at hLq;exact h.apart p hp q hq hpq hLp hLq
 · by_cases hti : t'.1 = i
   · obtain rfl := hu1 t' ht' hti;have := z00.z0N us 0 hr (by omega);exact ⟨g, us, hx, hB, by simpa using this, T' _ _ (hO.2.2.2 _ hm) hv⟩
   · unfold z11 at hL;rw [if_neg hti] at hL;obtain ⟨g', cs', e, hB', hr', hc⟩ := h.new t' ht' hL;have hgg : g' ≠ g := by
      rintro rfl;exact hap t' ht' hti hL (e.trans hx.symm)
     exact ⟨g', cs', e, hB', z00.z2c hgg _ _ hr', T' _ _ (hO.2.2.2 t' ht') hc⟩
theorem z6g {cs : List Value} (h : cs.length = 2) : ∃ a b, cs = [a, b] := by
 match cs, h with
 | [a, b], _ => exact ⟨a, b, rfl⟩
theorem mm0 {α : Type} {a : α} {l : List α} : a ∈ a :: l := List.mem_cons_self ..
theorem mm1 {α : Type} {a b0 : α} {l : List α} : a ∈ b0 :: a :: l := List.mem_cons_of_mem _ mm0
theorem mm2 {α : Type} {a b0 b1 : α} {l : List α} : a ∈ b0 :: b1 :: a :: l := List.mem_cons_of_mem _ mm1
theorem mm3 {α : Type} {a b0 b1 b2 : α} {l : List α} : a ∈ b0 :: b1 :: b2 :: a :: l := List.mem_cons_of_mem _ mm2
theorem mm4 {α : Type} {a b0 b1 b2 b3 : α} {l : List α} : a ∈ b0 :: b1 :: b2 :: b3 :: a :: l := List.mem_cons_of_mem _ mm3
theorem mm5 {α : Type} {a b0 b1 b2 b3 b4 : α} {l : List α} : a ∈ b0 :: b1 :: b2 :: b3 :: b4 :: a :: l := List.mem_cons_of_mem _ mm4
theorem mm6 {α : Type} {a b0 b1 b2 b3 b4 b5 : α} {l : List α} : a ∈ b0 :: b1 :: b2 :: b3 :: b4 :: b5 :: a :: l := List.mem_cons_of_mem _ mm5
theorem mm7 {α : Type} {a b0 b1 b2 b3 b4 b5 b6 : α} {l : List α} : a ∈ b0 :: b1 :: b2 :: b3 :: b4 :: b5 :: b6 :: a :: l := List.mem_cons_of_mem _ mm6
theorem mm8 {α : Type} {a b0 b1 b2 b3 b4 b5 b6 b7 : α} {l : List α} : a ∈ b0 :: b1 :: b2 :: b3 :: b4 :: b5 :: b6 :: b7 :: a :: l := List.mem_cons_of_mem _ mm7
theorem mm9 {α : Type} {a b0 b1 b2 b3 b4 b5 b6 b7 b8 : α} {l : List α} : a ∈ b0 :: b1 :: b2 :: b3 :: b4 :: b5 :: b6 :: b7 :: b8 :: a :: l := List.mem_cons_of_mem _ mm8
theorem mc {α : Type} {a b : α} {l : List α} (h : a ∈ b :: l) : a = b ∨ a ∈ l := List.mem_cons.1 h
def z0T (a : Act) (x : Nat -> Value) (ds : List Nat) : Act := ds.foldl (fun b d => b.put (some d) (x d)) a
theorem pN : (∀ (a : Act) (x : Nat -> Value), z0T a x [] = a) /\ (∀ (a : Act) (x : Nat -> Value) (d : Nat) (ds : List Nat), z0T a x (d :: ds) = z0T (a.put (some d) (x d)) x ds) /\
 (∀ (l : List Value) (df : List Deferred) (d : Nat) (v : Value), Act.put ⟨l.toArray, df⟩ (some d) v = ⟨(l.set d v).toArray, df⟩) /\ (∀ (x : Nat -> Value) (d : Nat) (v : Value) (j : Nat), z0k x d v j = if j = d then v else x j) /\
 (∀ (a b : Value) (l : List Value), (a :: l).set 0 b = b :: l) /\ (∀ (a b : Value) (l : List Value) (n : Nat), (a :: l).set (n + 1) b = a :: l.set n b) :=
 ⟨fun _ _ => rfl, fun _ _ _ _ => rfl, fun l df d v => by simp [Act.put], fun _ _ _ _ => rfl, fun _ _ _ => rfl, fun _ _ _ _ => rfl⟩
attribute [go_sem] pN
theorem wps {P : Program} {ops : Array Oper} {Q : Exit -> Act -> World -> Prop} {i : Nat} {o : Oper} {K : Act -> World -> Prop} {a : Act} {w : World} (ho : ops[i]? = some o)
 (h : ∀ K' : Act -> World -> Prop, (∀ a w, K a w -> K' a w) -> if Region.wanted o (yielded ops a.tmps) = true then Oper.wp P o a w K' Q else K' (a.put o.dst undef) w) : wpOp P ops Q i K a w := wpOp_step ho h
theorem RD.J.pt {d : RD} {g0 B : Nat} {w0 w : World} {L : Nat -> Bool} {x : Nat -> Value} (h : d.J g0 B w0 L x w) (i s : Nat) (v : Value) (hi : Nat.blt i d.n = true) (hs : d.dst i = s) (ha : d.av i = .val v) (hL : L i = true) : x = z0k x s v := by
 have e := h.slot i (Nat.le_of_ble_eq_true hi) hL;rw [ha, hs] at e;exact z07 e
theorem RD.J.gC {d : RD} {g0 B : Nat} {w0 w w' : World} {L : Nat -> Bool} {x : Nat -> Value} (h : d.J g0 B w0 L x w) (i : Nat) (hi : Nat.blt i d.n = true) {v : Value}
 (hk : (((List.range d.n).all fun j => d.dst j != d.dst i || j == i) && (d.tg.all fun t => t.1 != i) && (d.nw.all (fun t => t.1 != i && t.2.1 != d.dst i) && d.al.all (fun p => p.1 != i && p.2 != d.dst i))) = true) (hb : Below w.heap.size w w') (hv : (d.av i).holds w' v) (hg : g0 <= B) :
 d.J g0 B w0 (z11 L i) (z0k x (d.dst i) v) w' := by
 rw [Bool.and_eq_true, Bool.and_eq_true] at hk;exact h.growB i (Nat.le_of_ble_eq_true hi) v hk.1.1 hk.1.2 hk.2 hb hv (Nat.le_trans hg h.size)
theorem RD.J.pC {d : RD} {g0 B : Nat} {w0 w : World} {L : Nat -> Bool} {x : Nat -> Value} (h : d.J g0 B w0 L x w) (i : Nat) (hi : Nat.blt i d.n = true) {v : Value}
 (hk : (((List.range d.n).all fun j => d.dst j != d.dst i || j == i) && (d.tg.all fun t => t.1 != i) && (d.nw.all (fun t => t.1 != i && t.2.1 != d.dst i) && d.al.all (fun p => p.1 != i && p.2 != d.dst i))) = true) (hv : (d.av i).holds w v) (hg : g0 <= B) :
 d.J g0 B w0 (z11 L i) (z0k x (d.dst i) v) w := h.gC i hi hk (Below.refl _ _) hv hg
theorem RD.J.q {d : RD} {g0 B : Nat} {w0 w : World} {L : Nat -> Bool} {x : Nat -> Value} (h : d.J g0 B w0 L x w) {A a : Act} {ds : List Nat} {i : Nat} {K : Act -> World -> Prop} (hK : ∀ a w, (∃ x', a = z0T A x' ds /\ d.J g0 B w0 (z11 L i) x' w) -> K a w) {v : Value}
 (hk : (Nat.blt i d.n && (((List.range d.n).all fun j => d.dst j != d.dst i || j == i) && (d.tg.all fun t => t.1 != i) && (d.nw.all (fun t => t.1 != i && t.2.1 != d.dst i) && d.al.all (fun p => p.1 != i && p.2 != d.dst i)))) = true) (hv : (d.av i).holds w v) (ha : a = z0T A (z0k x (d.dst i) v) ds := by kernel_rfl) (hg : g0 <= B := by omega) : K a w := by
 rw [Bool.and_eq_true] at hk;exact hK _ _ ⟨_, ha, h.pC i hk.1 hk.2 hv hg⟩
theorem z02 {p : Nat -> Prop} {i : Nat} {l : List Nat} (h : p i) (hs : ∀ j ∈ l, p j) : ∀ j ∈ i :: l, p j := fun j hj => by
 rcases List.mem_cons.1 hj with rfl | hj
 · exact h
 · exact hs j hj
theorem z2v {p : Nat -> Prop} : ∀ j ∈ ([] : List Nat), p j := fun _ h => by cases h
def z1t (ops : Array Oper) (i : Nat) : List Nat := ((ops[i]?).map fun o => (o.after.toList.filter (Region.binds .any)).map (·.on)).getD []
def noD (ops : Array Oper) (i : Nat) : Bool := ((ops[i]?).map fun o => o.after.all fun e => match e.ground with | .data => false | _ => true).getD false
theorem hp0 {ops : Array Oper} {i : Nat} {L : Nat -> Bool} (_ : ∀ j ∈ z1t ops i, L j = true) (_ : noD ops i = true) : True := trivial
theorem z0S (d : RD) (ds : List Nat) {P : Program} {ops : Array Oper} {Q : Exit -> Act -> World -> Prop} {id : Nat} {a : Act} {w : World} (g0 : Nat) (hm : P.follows .mixedOrders = true) (hn : ops.size = d.n)
 (hb : ((List.range d.n).all fun i => ((ops[i]?).map (·.after.all fun e => !Region.binds .any e || decide (e.on < i))).getD false) = true)
 (hF : a = z0T a (fun k => a.tmps.getD k undef) ds)
 (hbs : ∀ p ∈ d.bs, p.2.holds w.drew p.1) (hrw : ∀ p ∈ d.rows, z00 w p.1 p.2.1 p.2.2 /\ p.1 < w.heap.size /\ ∀ t ∈ d.tg, p.1 ≠ t.2.1) (hcl : ∀ p ∈ d.cells, w.cell? p.1 = some p.2 /\ p.1.block < w.heap.size /\ ∀ t ∈ d.tg, p.1.block ≠ t.2.1) (ht : ∀ t ∈ d.tg, g0 <= t.2.1 /\ t.2.1 < w.heap.size /\ ∃ n ao l k, z00 w t.2.1 45 [.bool n, .slice ao l k])
 (hs : ∀ i ∈ List.range d.n, ∀ L x w', d.J g0 w.heap.size w.drew L x w' -> L i = false -> (∀ j ∈ z1t ops i, L j = true) -> (∀ k < d.n, L k = true -> ∀ j ∈ z1t ops k, L j = true) -> wpOp P ops Q i (fun a' w'' => ∃ x', a' = z0T a x' ds /\ d.J g0 w.heap.size w.drew (z11 L i) x' w'') (z0T a x ds) w')
 (hend : ∀ L x w', (∀ i < d.n, L i = true) -> d.J g0 w.heap.size w.drew L x w' -> Q .normal (z0T a x ds) w') : (Code.region id ops true).wp P Q a w := by
 have hpre : ∀ (L : Nat -> Bool) (i : Nat), ((ops[i]?).map (·.after.all fun e => !Region.binds .any e || L e.on)).getD false = true -> ∀ j ∈ z1t ops i, L j = true := by
  intro L i hp j hj;unfold z1t at hj;cases ho : ops[i]? with
  | none => rw [ho] at hj; simp at hj
  | some o =>
   rw [ho] at hp hj;simp only [Option.map_some, Option.getD_some, List.mem_map, List.mem_filter] at hj hp;obtain ⟨e, ⟨he, hbd⟩, rfl⟩ := hj;rw [Array.all_eq_true] at hp;obtain ⟨k, hk, rfl⟩ := Array.mem_iff_getElem.1 (Array.mem_def.2 he);have := hp k hk;rw [hbd] at this;simpa using this
 refine z2s hm hn hb (fun x => z0T a x ds) (d.J g0 w.heap.size w.drew) (fun k => a.tmps.getD k undef) hF ?_ (fun i hi L x w' hJ hG hL hp => hs i (List.mem_range.2 hi) L x w' hJ hL (hpre L i hp) (fun k hk hLk => hpre L k (hG k hk hLk))) hend;refine ⟨Below.refl _ _, Nat.le_refl _, hbs, hrw, hcl, fun i _ h => by simp at h, fun t h => ?_, fun _ _ _ _ _ h => by simp at h, fun _ _ h => by simp at h⟩;obtain ⟨h1, h2, a, b, l, k, hr⟩ := ht t h;exact ⟨h1, h2, a, b, l, k, hr, fun h => by simp at h⟩
theorem z0q {α : Type} {Q : α -> Prop} {a : α} {l : List α} (h : Q a) (hs : ∀ p ∈ l, Q p) : ∀ p ∈ a :: l, Q p := fun p hp => by
 rcases List.mem_cons.1 hp with rfl | hp
 · exact h
 · exact hs p hp
theorem z0h {α : Type} {Q : α -> Prop} : ∀ p ∈ ([] : List α), Q p := fun _ h => by cases h
section
variable {w w' : World} (hb : Below w.heap.size w w')
include hb
end
section
variable {w : World} {g : Nat} {us : List Value}
variable {t : TypeId} {cs : List Value} (ht : t ≠ 49) (hr : z00 w g t cs) (hn : NoW cs) (hu : NoW us)
include ht hr hn hu
end
theorem z1e {ops : Array Oper} (L : Nat -> Bool) (i : Nat) (hp : ((ops[i]?).map (·.after.all fun e => !Region.binds .any e || L e.on)).getD false = true) : ∀ j ∈ z1t ops i, L j = true := by
 intro j hj;unfold z1t at hj;cases ho : ops[i]? with
 | none => rw [ho] at hj; simp at hj
 | some o =>
  rw [ho] at hp hj;simp only [Option.map_some, Option.getD_some, List.mem_map, List.mem_filter] at hj hp;obtain ⟨e, ⟨he, hbd⟩, rfl⟩ := hj;rw [Array.all_eq_true] at hp;obtain ⟨k, hk, rfl⟩ := Array.mem_iff_getElem.1 (Array.mem_def.2 he);have := hp k hk;rw [hbd] at this;simpa using this
theorem z0M (d : RD) (ds : List Nat) {P : Program} {ops : Array Oper} {Q : Exit -> Act -> World -> Prop} {id : Nat} {a : Act} {w : World} (g0 : Nat) (hm : P.follows .mixedOrders = true) (hn : ops.size = d.n + 1)
 (hb : ((List.range (d.n + 1)).all fun i => ((ops[i]?).map (·.after.all fun e => !Region.binds .any e || decide (e.on < i))).getD false) = true)
 (hla : ((List.range d.n).all fun j => (List.range (d.n + 1)).any fun k => decide (j < k) && (z1t ops k).contains j) = true)
 (hF : a = z0T a (fun k => a.tmps.getD k undef) ds)
 (hbs : ∀ p ∈ d.bs, p.2.holds w.drew p.1) (hrw : ∀ p ∈ d.rows, z00 w p.1 p.2.1 p.2.2 /\ p.1 < w.heap.size /\ ∀ t ∈ d.tg, p.1 ≠ t.2.1) (hcl : ∀ p ∈ d.cells, w.cell? p.1 = some p.2 /\ p.1.block < w.heap.size /\ ∀ t ∈ d.tg, p.1.block ≠ t.2.1) (ht : ∀ t ∈ d.tg, g0 <= t.2.1 /\ t.2.1 < w.heap.size /\ ∃ n ao l k, z00 w t.2.1 45 [.bool n, .slice ao l k])
 (hs : ∀ i ∈ List.range d.n, ∀ L x w', d.J g0 w.heap.size w.drew L x w' -> L i = false -> (∀ j ∈ z1t ops i, L j = true) -> (∀ k < d.n, L k = true -> ∀ j ∈ z1t ops k, L j = true) -> wpOp P ops Q i (fun a' w'' => ∃ x', a' = z0T a x' ds /\ d.J g0 w.heap.size w.drew (z11 L i) x' w'') (z0T a x ds) w')
 (hend : ∀ L x w', (∀ i < d.n, L i = true) -> d.J g0 w.heap.size w.drew L x w' -> wpOp P ops Q d.n (fun a' w'' => (∃ x', a' = z0T a x' ds) /\ Q .normal a' w'') (z0T a x ds) w') : (Code.region id ops true).wp P Q a w := by
 have hdown : ∀ (L : Nat -> Bool), (∀ j ∈ z1t ops d.n, L j = true) -> (∀ k < d.n, L k = true -> ∀ j ∈ z1t ops k, L j = true) -> ∀ j < d.n, L j = true := by
  intro L hp hg;have key : ∀ m j, d.n - j <= m -> j < d.n -> L j = true := by
   intro m;induction m with
   | zero => intro j h1 h2; omega
   | succ m ih =>
    intro j h1 h2;have := List.all_eq_true.1 hla j (List.mem_range.2 h2);obtain ⟨k, hk, hjk⟩ := List.any_eq_true.1 this;simp only [Bool.and_eq_true, decide_eq_true_eq, List.contains_iff_mem] at hjk;have hk' := List.mem_range.1 hk;by_cases hkn : k = d.n
    · subst hkn; exact hp j hjk.2
    · exact hg k (by omega) (ih k (by omega) (by omega)) j hjk.2
  exact fun j hj => key (d.n - j) j (Nat.le_refl _) hj
 refine z2s hm hn hb (fun x => z0T a x ds) (fun L x w' => (L d.n = false /\ d.J g0 w.heap.size w.drew L x w') ∨ (L d.n = true /\ Q .normal (z0T a x ds) w')) (fun k => a.tmps.getD k undef) hF ?_ ?_ ?_
 · refine .inl ⟨rfl, Below.refl _ _, Nat.le_refl _, hbs, hrw, hcl, fun i _ h => by simp at h, fun t h => ?_, fun _ _ _ _ _ h => by simp at h, fun _ _ h => by simp at h⟩;obtain ⟨h1, h2, a, b, l, k, hr⟩ := ht t h;exact ⟨h1, h2, a, b, l, k, hr, fun h => by simp at h⟩
 · intro i hi L x w' hJ hG hL hp;by_cases hin : i = d.n
   · subst hin;rcases hJ with ⟨_, hJ⟩ | ⟨h, _⟩
     · have hall : ∀ j < d.n, L j = true := hdown L (z1e L d.n hp) (fun k hk hLk => z1e L k (hG k (by omega) hLk));refine wpOp_mono ?_ (hend L x w' hall hJ);rintro a' w'' ⟨⟨x', rfl⟩, hQ⟩;exact ⟨x', rfl, .inr ⟨by simp, hQ⟩⟩
     · rw [h] at hL; cases hL
   · have hlt : i < d.n := by omega
     rcases hJ with ⟨h0, hJ⟩ | ⟨h, _⟩
     · refine wpOp_mono ?_ (hs i (List.mem_range.2 hlt) L x w' hJ hL (z1e L i hp) (fun k hk hLk => z1e L k (hG k (by omega) hLk)));rintro a' w'' ⟨x', rfl, hJ'⟩;exact ⟨x', rfl, .inl ⟨by show (if d.n = i then true else L d.n) = false; rw [if_neg (fun e => hin e.symm)]; exact h0, hJ'⟩⟩
     · have := hdown L (z1e L d.n (hG d.n (by omega) h)) (fun k hk hLk => z1e L k (hG k (by omega) hLk)) i hlt;rw [this] at hL; cases hL
 · intro L x w' hL hJ;rcases hJ with ⟨h, _⟩ | ⟨_, hQ⟩
   · rw [hL d.n (by omega)] at h; cases h
   · exact hQ
theorem NoW.i64 {x : Int} {cs : List Value} (h : NoW cs) : NoW (.int .i64 x :: cs) := fun c hc n => by
 rcases List.mem_cons.1 hc with rfl | hc
 · simp
 · exact h c hc n
abbrev P4 := Bool × Option Addr × Nat × Nat
def av (p : P4) : Value := .agg #[.bool p.1, .slice p.2.1 p.2.2.1 p.2.2.2]
def p0 : P4 := (false, none, 0, 0)
def flat : List P4 -> List Value
 | [] => []
 | p :: ps => .bool p.1 :: .slice p.2.1 p.2.2.1 p.2.2.2 :: flat ps
theorem z1E : ∀ ps : List P4, (flat ps).length = 2 * ps.length
 | [] => rfl
 | p :: ps => by simp [flat, z1E ps]; omega
theorem z60 : ∀ (ps : List P4) (i : Nat) (h : i < ps.length), (flat ps)[i * 2]? = some (.bool (ps[i]).1)
 | p :: ps, 0, _ => rfl
 | p :: ps, i + 1, h => by
  have e : (i + 1) * 2 = i * 2 + 1 + 1 := by omega
  rw [e]; simp only [flat, List.getElem?_cons_succ, List.getElem_cons_succ];exact z60 ps i (by simpa using h)
theorem z61 : ∀ (ps : List P4) (i : Nat) (h : i < ps.length), (flat ps)[i * 2 + 1]? = some (.slice (ps[i]).2.1 (ps[i]).2.2.1 (ps[i]).2.2.2)
 | p :: ps, 0, _ => rfl
 | p :: ps, i + 1, h => by
  have e : (i + 1) * 2 + 1 = i * 2 + 1 + 1 + 1 := by omega
  rw [e]; simp only [flat, List.getElem?_cons_succ, List.getElem_cons_succ];exact z61 ps i (by simpa using h)
theorem z9Q : ∀ (ps : List P4) (i : Nat) (p : P4), ((flat ps).set (i * 2) (.bool p.1)).set (i * 2 + 1) (.slice p.2.1 p.2.2.1 p.2.2.2) = flat (ps.set i p)
 | [], i, p => rfl
 | q :: ps, 0, p => rfl
 | q :: ps, i + 1, p => by
  have e : (i + 1) * 2 = i * 2 + 1 + 1 := by omega
  rw [e]; simp only [flat, List.set_cons_succ];rw [z9Q ps i p]
theorem z9L : ∀ ps : List P4, NoW (flat ps)
 | [] => NoW.nil
 | p :: ps => NoW.bool (NoW.slice (z9L ps))
theorem z6e : ∀ (ps qs : List P4), flat (ps ++ qs) = flat ps ++ flat qs
 | [], qs => rfl
 | p :: ps, qs => by simp [flat, z6e ps qs]
def z0n (w : World) (v : Value) (x : Int) : Prop := z03 w (z04 x.natAbs) v x /\ ∃ s, v = .agg #[.bool (decide (x < 0)), s]
theorem z05.num {w : World} {B : Nat} {v : Value} {x : Int} (h : z05 w B v x) : z0n w v x := ⟨h.at_, by obtain ⟨ao, cap, rfl, _⟩ := h; exact ⟨_, rfl⟩⟩
theorem z0n.below {w w' : World} {v : Value} {x : Int} (h : z0n w v x) (hb : Below w.heap.size w w') : z0n w' v x := ⟨z03.below h.1 hb, h.2⟩
theorem z0n.setRow {w : World} {v : Value} {x : Int} (h : z0n w v x) {g : Nat} {t : TypeId} {cs : List Value} (hr : z00 w g t cs) (hn : NoW cs) (i : Nat) (u : Value) : z0n (w.setCell ⟨g, i, none⟩ u) v x := ⟨z03.setRow h.1 hr hn i u, h.2⟩
theorem z0n.int {w : World} {L : Nat} {v : Value} {x : Int} (h : z0n w v x) (hL : z04 x.natAbs <= L) : z03 w L v x := z03.mono h.1 hL
theorem z0n.parts {w : World} {v : Value} {x : Int} (h : z0n w v x) : ∃ p : P4, v = av p := by
 obtain ⟨n, ao, len, cap, ws, rfl, _⟩ := h.1;exact ⟨(n, ao, len, cap), rfl⟩
theorem z03.parts {w : World} {L : Nat} {v : Value} {x : Int} (h : z03 w L v x) : ∃ p : P4, v = av p := by
 obtain ⟨n, ao, len, cap, ws, rfl, _⟩ := h;exact ⟨(n, ao, len, cap), rfl⟩
theorem NoW.setB {cs : List Value} (h : NoW cs) (i : Nat) (b : Bool) : NoW (cs.set i (.bool b)) := h.set i (by simp)
theorem NoW.setS {cs : List Value} (h : NoW cs) (i : Nat) (a : Option Addr) (l k : Nat) : NoW (cs.set i (.slice a l k)) := h.set i (by simp)
theorem z05.zero (w : World) (B : Nat) : z05 w B (.agg #[.bool false, .slice none 0 0]) 0 := by
 have h : z04 (0 : Int).natAbs = 0 := z1g;refine ⟨none, 0, by rw [h]; rfl, ?_⟩;rw [h];have : dig (0 : Int).natAbs = [] := z1F;rw [this];exact z16.nil w B
theorem zbd {α : Type} (J : Nat -> α -> Prop) : ∃ μ : α -> Nat, ∀ a n, J n a -> J (μ a) a /\ μ a <= n := by
 have h : ∀ a, ∃ k, ∀ n, J n a -> J k a /\ k <= n := by
  intro a;by_cases he : ∃ n, J n a
  · obtain ⟨n, hn⟩ := he;have key : ∀ n, J n a -> ∃ k, ∀ m, J m a -> J k a /\ k <= m := by
     intro n;induction n using Nat.strongRecOn with
     | _ n ih =>
      intro hn;by_cases hl : ∃ m, m < n /\ J m a
      · obtain ⟨m, hm, hj⟩ := hl; exact ih m hm hj
      · exact ⟨n, fun m hm => ⟨hn, Nat.le_of_not_lt fun hlt => hl ⟨m, hlt, hm⟩⟩⟩
    exact key n hn
  · exact ⟨0, fun n hn => absurd ⟨n, hn⟩ he⟩
 exact ⟨fun a => (h a).choose, fun a n hn => (h a).choose_spec n hn⟩
theorem z05.parts {w : World} {B : Nat} {v : Value} {x : Int} (h : z05 w B v x) : ∃ b ao l k, v = .agg #[.bool b, .slice ao l k] := by
 obtain ⟨ao, cap, rfl, _⟩ := h; exact ⟨_, _, _, _, rfl⟩
structure Chg (S : Nat -> Prop) (w w' : World) : Prop where
 os : w'.os = w.os
 tape : w'.tape = w.tape
 output : w'.output = w.output
 size : w.heap.size <= w'.heap.size
 block : ∀ k, k < w.heap.size -> ¬ S k -> w'.heap[k]? = w.heap[k]?
theorem Chg.refl (S : Nat -> Prop) (w : World) : Chg S w w := ⟨rfl, rfl, rfl, Nat.le_refl _, fun _ _ _ => rfl⟩
theorem Chg.trans {S : Nat -> Prop} {a b c : World} (h : Chg S a b) (k : Chg S b c) : Chg S a c :=
 ⟨k.os.trans h.os, k.tape.trans h.tape, k.output.trans h.output, Nat.le_trans h.size k.size, fun i hi hs => (k.block i (Nat.lt_of_lt_of_le hi h.size) hs).trans (h.block i hi hs)⟩
theorem Chg.mono {S T : Nat -> Prop} {w w' : World} (h : Chg S w w') (hT : ∀ k, k < w.heap.size -> S k -> T k) : Chg T w w' :=
 ⟨h.os, h.tape, h.output, h.size, fun k hk ht => h.block k hk (fun hs => ht (hT k hk hs))⟩
theorem Chg.z0K {S : Nat -> Prop} {w w' : World} (h : Below w.heap.size w w') : Chg S w w' := ⟨h.os, h.tape, h.output, h.size, fun k hk _ => h.block k hk⟩
theorem Chg.below {S : Nat -> Prop} {w w' w'' : World} (h : Chg S w w') (hb : Below w'.heap.size w' w'') : Chg S w w'' := h.trans (Chg.z0K hb)
theorem Chg.set {S : Nat -> Prop} {w w' : World} (h : Chg S w w') {p : Addr} (hp : S p.block) (u : Value) : Chg S w (w'.setCell p u) :=
 h.trans ⟨rfl, rfl, rfl, by simp [World.setCell], fun k _ hs => Below.heap_setCell _ _ _ _ (fun e => hs (e ▸ hp))⟩
theorem Chg.z6b {S : Nat -> Prop} {w w' : World} (h : Chg S w w') {p : Addr} (hp : w.heap.size <= p.block) (u : Value) : Chg S w (w'.setCell p u) :=
 ⟨h.os, h.tape, h.output, by simpa [World.setCell] using h.size, fun k hk hs => (Below.heap_setCell _ _ _ _ (by omega)).trans (h.block k hk hs)⟩
theorem Chg.drew {S : Nat -> Prop} {w w' : World} (h : Chg S w w') : Chg S w w'.drew := ⟨h.os, h.tape, h.output, h.size, h.block⟩
theorem Chg.z2S {S : Nat -> Prop} {B : Nat} {w w' : World} (h : Chg S w w') (hS : ∀ k, S k -> B <= k) (hB : B <= w.heap.size) : Below B w w' :=
 ⟨h.os, h.tape, h.output, h.size, fun k hk => h.block k (by omega) (fun hs => by have := hS k hs; omega)⟩
theorem Chg.row {S : Nat -> Prop} {w w' : World} (h : Chg S w w') {b : Nat} {t : TypeId} {cs : List Value} (hr : z00 w b t cs) (hb : ¬ S b) : z00 w' b t cs := by
 unfold z00 at *; rw [h.block b (z00.lt hr) hb]; exact hr
theorem Chg.cell {S : Nat -> Prop} {w w' : World} (h : Chg S w w') {p : Addr} (hp : p.block < w.heap.size) (hs : ¬ S p.block) : w'.cell? p = w.cell? p :=
 World.cell?_of_block (w := w) (h.block p.block hp hs)
def z15 (S : Nat -> Prop) (w : World) : Prop := ∀ g, S g -> ∃ t cs, z00 w g t cs /\ NoW cs
theorem Chg.wat {S : Nat -> Prop} {w w' : World} (h : Chg S w w') (hS : z15 S w) {ao : Option Addr} {ws : List Nat} (hw : WAt w ao ws) : WAt w' ao ws := by
 refine ⟨hw.1, fun hl => ?_⟩;obtain ⟨b, o, rfl, hb, hc⟩ := hw.2 hl;have hns : ¬ S b := by
  intro hs;obtain ⟨t, cs, hr, hn⟩ := hS b hs;have h0 := hc 0 hl;rw [hr.cell] at h0;exact hn _ (List.mem_of_getElem? h0) _ rfl
 exact ⟨b, o, rfl, Nat.lt_of_lt_of_le hb h.size, fun i hi => (h.cell (p := ⟨b, o + i, none⟩) hb hns).trans (hc i hi)⟩
theorem Chg.int {S : Nat -> Prop} {w w' : World} (h : Chg S w w') (hS : z15 S w) {L : Nat} {v : Value} {x : Int} (hx : z03 w L v x) : z03 w' L v x := by
 obtain ⟨n, ao, len, cap, ws, rfl, hW, hl, hL, hc, he⟩ := hx;exact ⟨n, ao, len, cap, ws, rfl, h.wat hS hW, hl, hL, hc, he⟩
theorem Chg.num {S : Nat -> Prop} {w w' : World} (h : Chg S w w') (hS : z15 S w) {v : Value} {x : Int} (hx : z0n w v x) : z0n w' v x := ⟨h.int hS hx.1, hx.2⟩
def Wl (T : Nat -> Prop) (w : World) : Prop := ∀ g, T g -> ∃ t cs, z00 w g t cs /\ NoW cs /\ t ≠ 49
theorem Wl.none (w : World) : Wl (fun _ => False) w := fun _ h => h.elim
theorem Wl.z1d {T : Nat -> Prop} {w : World} (h : Wl T w) : z15 T w := fun g hg => by obtain ⟨t, cs, a, b, _⟩ := h g hg; exact ⟨t, cs, a, b⟩
inductive En where
 | row (b : Nat) (t : TypeId) (cs : List Value)
 | cell (a : Addr) (v : Value)
 | fact (S : Nat -> Prop) (F : World -> Prop) (lt : ∀ {w : World}, F w -> ∀ b, S b -> b < w.heap.size) (z2g : ∀ {w w' : World} {T : Nat -> Prop}, F w -> Chg T w w' -> Wl T w -> (∀ b, S b -> ¬ T b) -> F w')
def En.F : En -> World -> Prop
 | .row b t cs, w => z00 w b t cs /\ NoW cs /\ t ≠ 49
 | .cell a v, w => w.cell? a = some v
 | .fact _ F _ _, w => F w
def En.S : En -> Nat -> Prop
 | .row b _ _, g => g = b
 | .cell a _, g => g = a.block
 | .fact S _ _ _, g => S g
theorem z8J {w : World} {a : Addr} {v : Value} (h : w.cell? a = some v) : a.block < w.heap.size := by
 rcases Nat.lt_or_ge a.block w.heap.size with h1 | h1
 · exact h1
 · unfold World.cell? at h;rw [Array.getElem?_eq_none h1] at h;cases h
theorem En.lt {e : En} {w : World} (h : e.F w) : ∀ b, e.S b -> b < w.heap.size := by
 cases e with
 | row b t cs => rintro g rfl; exact h.1.lt
 | cell a v => rintro g rfl; exact z8J h
 | fact S F lt z2g => exact lt h
theorem En.z2g {e : En} {w w' : World} {T : Nat -> Prop} (h : e.F w) (hc : Chg T w w') (hw : Wl T w) (hs : ∀ b, e.S b -> ¬ T b) : e.F w' := by
 cases e with
 | row b t cs => exact ⟨hc.row h.1 (hs b rfl), h.2⟩
 | cell a v => exact (hc.cell (z8J h) (hs _ rfl)).trans h
 | fact S F lt z2g => exact z2g h hc hw hs
def Ap (e e' : En) : Prop := (∀ b t cs, e = .row b t cs -> ¬ e'.S b) /\ ∀ b t cs, e' = .row b t cs -> ¬ e.S b
theorem Ap.symm {e e' : En} (h : Ap e e') : Ap e' e := ⟨h.2, h.1⟩
structure Fr (S0 : Nat -> Prop) (w0 w : World) (es : List En) : Prop where
 bs : Chg S0 w0 w
 all : ∀ e ∈ es, e.F w
 sep : es.Pairwise Ap
 own : ∀ b t cs, En.row b t cs ∈ es -> S0 b ∨ w0.heap.size <= b
section
variable {S0 : Nat -> Prop} {w0 w w' : World} {es : List En}
theorem Fr.perm {es' : List En} (h : Fr S0 w0 w es) (p : es.Perm es') : Fr S0 w0 w es' :=
 ⟨h.bs, fun e he => h.all e (p.mem_iff.2 he), (p.pairwise_iff (fun {_ _} h => h.symm)).1 h.sep, fun b t cs he => h.own b t cs (p.mem_iff.2 he)⟩
theorem Fr.sub {es' : List En} (h : Fr S0 w0 w es) (p : es'.Sublist es) : Fr S0 w0 w es' :=
 ⟨h.bs, fun e he => h.all e (p.subset he), h.sep.sublist p, fun b t cs he => h.own b t cs (p.subset he)⟩
theorem Fr.chg {T : Nat -> Prop} (h : Fr S0 w0 w es) (hc : Chg T w w') (hT : Wl T w) (h0 : ∀ b, T b -> S0 b ∨ w0.heap.size <= b) (hk : ∀ e ∈ es, ∀ b, e.S b -> ¬ T b) : Fr S0 w0 w' es :=
 ⟨⟨hc.os.trans h.bs.os, hc.tape.trans h.bs.tape, hc.output.trans h.bs.output, Nat.le_trans h.bs.size hc.size, fun k hk' hs => (hc.block k (Nat.lt_of_lt_of_le hk' h.bs.size) (fun ht => (h0 k ht).elim hs (by omega))).trans (h.bs.block k hk' hs)⟩,
  fun e he => En.z2g (h.all e he) hc hT (hk e he), h.sep, h.own⟩
theorem Fr.grow (h : Fr S0 w0 w es) (hb : Below w.heap.size w w') : Fr S0 w0 w' es := h.chg (T := fun _ => False) (.z0K hb) (Wl.none _) (fun _ h => h.elim) (fun _ _ _ _ h => h)
theorem Fr.drew (h : Fr S0 w0 w es) : Fr S0 w0 w.drew es := h.grow ((Below.refl _ _).drew)
theorem Fr.size (h : Fr S0 w0 w es) : w0.heap.size <= w.heap.size := h.bs.size
theorem Fr.cons (h : Fr S0 w0 w es) {e : En} (he : e.F w) (hap : ∀ e' ∈ es, Ap e e') (ho : ∀ b t cs, e = .row b t cs -> S0 b ∨ w0.heap.size <= b) : Fr S0 w0 w (e :: es) :=
 ⟨h.bs, fun x hx => (List.mem_cons.1 hx).elim (fun q => q ▸ he) (h.all x), List.pairwise_cons.2 ⟨hap, h.sep⟩, fun b t cs hx => by
  rcases List.mem_cons.1 hx with rfl | hx
  · exact ho b t cs rfl
  · exact h.own b t cs hx⟩
theorem Fr.new (h : Fr S0 w0 w es) (hb : Below w.heap.size w w') {e : En} (he : e.F w') (hS : ∀ b, e.S b -> w.heap.size <= b) : Fr S0 w0 w' (e :: es) :=
 (h.grow hb).cons he (fun e' he' => ⟨fun b t cs hr hs => by
  subst hr;have := hS b rfl; have := En.lt (h.all e' he') b hs; omega, fun b t cs hr hs => by
  subst hr;have := hS b hs; have := (h.all _ he').1.lt; omega⟩) (fun b t cs hr => .inr (by subst hr; exact Nat.le_trans h.size (hS b rfl)))
theorem Fr.pure (h : Fr S0 w0 w es) {e : En} (he : e.F w) (hS : ∀ b, ¬ e.S b) : Fr S0 w0 w (e :: es) :=
 h.cons he (fun e' he' => ⟨fun b t cs hr hs => by subst hr; exact hS b rfl, fun b t cs hr hs => hS b hs⟩) (fun b t cs hr => by subst hr; exact (hS b rfl).elim)
end
def stA (w : World) (b : Nat) : Nat -> List Value -> World
 | _, [] => w
 | k, u :: us => stA (w.setCell ⟨b, k, none⟩ u) b (k + 1) us
def z5I : List Value -> Nat -> List Value -> List Value
 | cs, _, [] => cs
 | cs, k, u :: us => z5I (cs.set k u) (k + 1) us
theorem z00.stA {b : Nat} {t : TypeId} : ∀ (us : List Value) (k : Nat) {w : World} {cs : List Value}, z00 w b t cs -> z00 (stA w b k us) b t (z5I cs k us)
 | [], _, _, _, h => h
 | _ :: us, k, _, _, h => z00.stA us (k + 1) (h.set k _)
theorem Chg.stA {b : Nat} : ∀ (us : List Value) (k : Nat) {w w' : World}, Chg (· = b) w w' -> Chg (· = b) w (stA w' b k us)
 | [], _, _, _, h => h
 | _ :: us, k, _, _, h => Chg.stA us (k + 1) (h.set (p := ⟨b, k, none⟩) rfl _)
theorem NoW.z5I : ∀ (us : List Value) (k : Nat) {cs : List Value}, NoW cs -> NoW us -> NoW (z5I cs k us)
 | [], _, _, h, _ => h
 | u :: us, k, _, h, hu => NoW.z5I us (k + 1) (h.set k (hu u (List.mem_cons_self ..))) (fun c hc => hu c (List.mem_cons_of_mem _ hc))
inductive Up (e e' : En) : Nat -> List En -> List En -> Prop where
 | z {l : List En} : Up e e' 0 (e :: l) (e' :: l)
 | s {x : En} {k : Nat} {l l' : List En} (h : Up e e' k l l') : Up e e' (k + 1) (x :: l) (x :: l')
section
variable {e e' : En}
theorem Up.set {k : Nat} {l l' : List En} (h : Up e e' k l l') : l' = l.set k e' /\ l[k]? = some e := by
 induction h with
 | z => exact ⟨rfl, rfl⟩
 | s _ ih => exact ⟨by rw [ih.1]; rfl, by simpa using ih.2⟩
theorem Up.other {k : Nat} {l l' : List En} (h : Up e e' k l l') {r : Nat} (hr : r ≠ k) : l'[r]? = l[r]? := by
 rw [h.set.1, List.getElem?_set_ne (fun e => hr e.symm)]
theorem Up.perm {k : Nat} {l l' : List En} (h : Up e e' k l l') : ∃ m, l.Perm (e :: m) /\ l'.Perm (e' :: m) := by
 induction h with
 | @z l => exact ⟨l, .refl _, .refl _⟩
 | @s x k l l' h ih =>
  obtain ⟨m, h1, h2⟩ := ih;exact ⟨x :: m, (h1.cons x).trans (.swap ..), (h2.cons x).trans (.swap ..)⟩
theorem Up.right {k : Nat} {l l' : List En} (h : Up e e' k l l') (g : List En) : ∃ m, (g ++ l).Perm (e :: m) /\ (g ++ l').Perm (e' :: m) := by
 obtain ⟨m, h1, h2⟩ := h.perm;exact ⟨g ++ m, (h1.append_left g).trans List.perm_middle, (h2.append_left g).trans List.perm_middle⟩
theorem Up.left {k : Nat} {l l' : List En} (h : Up e e' k l l') (g : List En) : ∃ m, (l ++ g).Perm (e :: m) /\ (l' ++ g).Perm (e' :: m) := by
 obtain ⟨m, h1, h2⟩ := h.perm;exact ⟨m ++ g, h1.append_right g, h2.append_right g⟩
end
theorem Fr.st {S0 : Nat -> Prop} {w0 w : World} {es es' m : List En} {b : Nat} {t : TypeId} {cs : List Value} (h : Fr S0 w0 w es) (us : List Value) (k : Nat) (hu : NoW us)
 (h1 : es.Perm (.row b t cs :: m)) (h2 : es'.Perm (.row b t (z5I cs k us) :: m)) : Fr S0 w0 (stA w b k us) es' := by
 have h0 := h.perm h1;obtain ⟨hr, hn, ht⟩ := h0.all _ (List.mem_cons_self ..);have hp := List.pairwise_cons.1 h0.sep;have ho := h0.own b t cs (List.mem_cons_self ..);have hm : Fr S0 w0 (stA w b k us) m := (h0.sub (List.sublist_cons_self ..)).chg (T := (· = b)) ((Chg.refl _ w).stA us k) (by rintro g rfl; exact ⟨t, cs, hr, hn, ht⟩) (by rintro g rfl; exact ho) (fun e he g hg hgb => by subst hgb; exact (hp.1 e he).1 g t cs rfl hg);refine Fr.perm (hm.cons (e := .row b t (z5I cs k us)) ⟨hr.stA us k, hn.z5I us k hu, ht⟩ (fun e' he' => ⟨fun b' t' cs' hb' => ?_, fun b' t' cs' hb' => ?_⟩) (fun b' t' cs' hb' => ?_)) h2.symm
 · cases hb'; exact (hp.1 e' he').1 b t cs rfl
 · subst hb';exact fun hg => (hp.1 _ he').2 b' t' cs' rfl hg
 · cases hb'; exact ho
def z5i : Nat -> List En -> List Nat -> List En
 | _, [], _ => []
 | i, e :: l, X => if X.contains i then z5i (i + 1) l X else e :: z5i (i + 1) l X
theorem z5S : ∀ (l : List En) (i : Nat), z5i i l [] = l
 | [], _ => rfl
 | e :: l, i => by simp [z5i, z5S l (i + 1)]
theorem z5X (X : List Nat) : ∀ (E0 E : List En) (i : Nat), (∀ r, i + r ∉ X -> E[r]? = E0[r]?) -> (z5i i E0 X).Sublist E
 | [], E, i, _ => List.nil_sublist _
 | e :: l, E, i, h => by
  have ht : ∀ r, i + 1 + r ∉ X -> E.tail[r]? = l[r]? := fun r hr => by
   have := h (r + 1) (by rw [show i + (r + 1) = i + 1 + r by omega]; exact hr);rw [List.getElem?_tail];simpa using this
  have ih := z5X X l E.tail (i + 1) ht;unfold z5i;split
  · exact ih.trans (List.tail_sublist _)
  · rename_i hc;have h0 := h 0 (by simpa using hc);cases E with
    | nil => simp at h0
    | cons x E =>
     simp at h0;subst h0;exact ih.cons_cons _
def z1G : Op -> Bool
 | .move _ | .assign _ | .pick .. | .load .. | .nilCheck _ | .binOp .. | .unOp .. | .convert .. | .slice .. | .fieldAddr .. | .field .. | .indexAddr .. | .index .. | .extract .. | .build .. => true
 | .call c => match c.callee with | .builtin .len | .builtin .cap | .builtin .min | .builtin .max => true | _ => false
 | _ => false
def z2C : Op -> Bool
 | .alloc _ | .box .. | .buildSlice .. | .makeSlice .. => true
 | _ => false
def isLd : Op -> Bool
 | .load .. | .convert .. => true
 | _ => false
def zal (W j : Nat) : Nat := (W >>> (64 * j)) % 18446744073709551616
def z9A (W : Nat) (l : List Nat) : Nat := l.foldr (fun k s => s ||| (1 <<< k ||| zal W k)) 0
def zdj (o : Oper) : List Nat := (o.after.toList.filter (Region.binds .any)).map (·.on)
def z7L : List Oper -> Nat -> Nat -> Nat
 | [], _, W => W
 | o :: l, j, W => z7L l (j + 1) (W ||| (z9A W (zdj o) <<< (64 * j)))
def pre (ops : Array Oper) (i j : Nat) : Bool := (zal (z7L ops.toList 0 0) j).testBit i
def opD (ops : Array Oper) (i : Nat) : Bool := ((ops[i]?).map fun o => z1G o.op).getD true
def upF : Nat -> Nat -> List Nat
 | 0, _ => []
 | k + 1, j => j :: upF k (j + 1)
def opL (ops : Array Oper) (i : Nat) : Bool := ((ops[i]?).map fun o => isLd o.op).getD false
def apt (ops : Array Oper) (i j : Nat) : Bool := match ops[i]?, ops[j]? with | some x, some y => x.apart ops y | _, _ => true
def z7S (ops : Array Oper) (n : Nat) : Bool := Region.noSelect ops && ((List.range n).all fun i => ((ops[i]?).map (·.after.all fun e => !Region.binds .any e || decide (e.on < i))).getD false) && (List.range n).all fun j =>
 zal (z7L ops.toList 0 0) j == z9A (z7L ops.toList 0 0) (z1t ops j) &&
 (List.range j).all fun i => pre ops i j || (apt ops i j && (opD ops j || opD ops i || ((ops[j]?).map fun o => z2C o.op).getD false))
def z67 (ops : Array Oper) (hd : List (List Nat)) (j : Nat) (K : List Nat) : Bool := (List.range ops.size).all fun i => i == j || pre ops i j || !opL ops i || K.all fun r => (hd.getD i []).contains r
structure RC where
 P : Program
 ops : Array Oper
 Q : Exit -> Act -> World -> Prop
 S0 : Nat -> Prop
 w0 : World
 E0 : List En
 hd : List (List Nat)
def RC.V (C : RC) (j : Nat) (o : Oper) (w : World) : Prop := isLd o.op = true -> Fr C.S0 C.w0 w (z5i 0 C.E0 (C.hd.getD j []))
def z43 (P : Program) (ops : Array Oper) (o : Oper) (v : Value) (a : Act) (w : World) : Prop :=
 (Region.wanted o (yielded ops a.tmps) = true /\ ((execOp a.eval o).run P w = .ok (.value v) w ∨ ((execOp a.eval o).run P w = .ok .skip w /\ v = undef))) ∨
 (Region.wanted o (yielded ops a.tmps) = false /\ v = undef)
def z4M (C : RC) (o : Oper) (a : Act) (mk : Nat -> Value) (t : TypeId) (cs : List Value) : Prop :=
 Region.wanted o (yielded C.ops a.tmps) = true /\ NoW cs /\ t ≠ 49 /\ ∀ w, (execOp a.eval o).run C.P w = .ok (.value (mk w.heap.size)) (w.alloc (.cells cs.toArray t (0, 0)))
def wpR (P : Program) (K : Value -> World -> Prop) : Result Next -> Prop
 | .ok (.value v) w' => K v w'
 | .ok .skip w' => K undef w'
 | .ok (.enter f args) w' => Calls P f args w' fun e w'' => ∃ v, e = .returned v /\ K v w''
 | .ok (.row row args) w' => Rows P row args w' K
 | _ => False
theorem wpR.mono {P : Program} {K K' : Value -> World -> Prop} (hK : ∀ v w, K v w -> K' v w) {r : Result Next} (h : wpR P K r) : wpR P K' r := by
 cases r with
 | halt x w' => exact h
 | ok n w' =>
  cases n with
  | value v => exact hK _ _ h
  | skip => exact hK _ _ h
  | enter f args => exact Calls.mono h fun e w'' ⟨v, hv, hk⟩ => ⟨v, hv, hK _ _ hk⟩
  | row row args => exact Rows.mono h fun v w'' hk => hK _ _ hk
  | _ => exact h.elim
def z5q (C : RC) (o : Oper) (a : Act) (G E : List En) {α : Type} (mk : α -> Value) (G' E' : α -> List En) : Prop :=
 ∀ X w, Fr C.S0 C.w0 w (X ++ (G ++ E)) -> if Region.wanted o (yielded C.ops a.tmps) = true then wpR C.P (fun v w' => ∃ p, v = mk p /\ Fr C.S0 C.w0 w' (X ++ (G' p ++ E' p))) ((execOp a.eval o).run C.P w) else ∃ p, undef = mk p /\ Fr C.S0 C.w0 w (X ++ (G' p ++ E' p))
def RW (C : RC) : List Nat -> List En -> List En -> Act -> Prop
 | [], G, E, a => ∀ w, Fr C.S0 C.w0 w (G ++ E) -> C.Q .normal a w
 | j :: l, G, E, a => ∃ o, C.ops[j]? = some o /\
  ((z1G o.op = true /\ ∃ v, (∀ w, C.V j o w -> z43 C.P C.ops o v a w) /\ RW C l G E (a.put o.dst v)) ∨
   (z1G o.op = false /\ z2C o.op = true /\ ∃ mk t cs, z4M C o a mk t cs /\ ∀ g, RW C l (.row g t cs :: G) E (a.put o.dst (mk g))) ∨
   (z1G o.op = false /\ z2C o.op = false /\ ∃ (α : Type) (mk : α -> Value) (G' E' : α -> List En) (K : List Nat), Nonempty α /\ z5q C o a G E mk G' E' /\ z67 C.ops C.hd j K = true /\
    (∀ p r, r ∉ K -> (E' p)[r]? = E[r]?) /\ ∀ p, RW C l (G' p) (E' p) (a.put o.dst (mk p))))
theorem RW.perm {C : RC} : ∀ (l : List Nat) {G G' E : List En} {a : Act}, G.Perm G' -> RW C l G E a -> RW C l G' E a
 | [], G, G', E, a, hp, h => fun w hw => h w (hw.perm (hp.symm.append_right E))
 | j :: l, G, G', E, a, hp, h => by
  obtain ⟨o, ho, h⟩ := h;refine ⟨o, ho, ?_⟩;rcases h with ⟨hk, v, hg, hr⟩ | ⟨hk, hk2, mk, t, cs, hn, hr⟩ | ⟨hk, hk2, α, mk, G1, E1, K, hne, hc, hK, hE, hr⟩
  · exact .inl ⟨hk, v, hg, RW.perm l hp hr⟩
  · exact .inr (.inl ⟨hk, hk2, mk, t, cs, hn, fun g => RW.perm l (hp.cons _) (hr g)⟩)
  · exact .inr (.inr ⟨hk, hk2, α, mk, G1, E1, K, hne, fun X w hw => hc X w (hw.perm ((hp.symm.append_right E).append_left X)), hK, hE, hr⟩)
section
variable {C : RC} {a : Act} {o x : Oper}
theorem z1X (hs : ∀ cs b, o.op ≠ .select cs b) {d : Option Tmp} (h : ∀ e, d = some e -> e ∉ o.looksAt C.ops) (u v : Value) (w : World) : z43 C.P C.ops o v (a.put d u) w ↔ z43 C.P C.ops o v a w := by
 unfold z43;rw [execOp_put o hs a d u h, wanted_put o a d u h]
theorem z43.uniq {v v' : Value} {w : World} (h : z43 C.P C.ops o v a w) (h' : z43 C.P C.ops o v' a w) : v = v' := by
 unfold z43 at *;rcases h with ⟨h1, h2⟩ | ⟨h1, h2⟩ <;> rcases h' with ⟨h3, h4⟩ | ⟨h3, h4⟩
 · rcases h2 with h2 | ⟨h2, e⟩ <;> rcases h4 with h4 | ⟨h4, e'⟩
   · rw [h2] at h4; cases h4; rfl
   · rw [h2] at h4; cases h4
   · rw [h2] at h4; cases h4
   · rw [e, e']
 · rw [h1] at h3; cases h3
 · rw [h1] at h3; cases h3
 · rw [h2, h4]
theorem z7W (hs : ∀ cs b, o.op ≠ .select cs b) {d : Option Tmp} (h : ∀ e, d = some e -> e ∉ o.looksAt C.ops) (u : Value) {mk : Nat -> Value} {t : TypeId} {cs : List Value} (hn : z4M C o a mk t cs) : z4M C o (a.put d u) mk t cs := by
 unfold z4M at *;rw [execOp_put o hs a d u h, wanted_put o a d u h];exact hn
theorem z2O (hs : ∀ cs b, o.op ≠ .select cs b) {d : Option Tmp} (h : ∀ e, d = some e -> e ∉ o.looksAt C.ops) (u : Value) {mk : Nat -> Value} {t : TypeId} {cs : List Value} (hn : z4M C o (a.put d u) mk t cs) : z4M C o a mk t cs := by
 unfold z4M at *;rw [execOp_put o hs a d u h, wanted_put o a d u h] at hn;exact hn
theorem z4l (hs : ∀ cs b, o.op ≠ .select cs b) {d : Option Tmp} (h : ∀ e, d = some e -> e ∉ o.looksAt C.ops) (u : Value) {G E : List En} {α : Type} {mk : α -> Value} {G' E' : α -> List En} : z5q C o (a.put d u) G E mk G' E' ↔ z5q C o a G E mk G' E' := by
 unfold z5q;rw [execOp_put o hs a d u h, wanted_put o a d u h]
end
theorem wpR.wp {P : Program} {ops : Array Oper} {Q : Exit -> Act -> World -> Prop} {i : Nat} {o : Oper} {a : Act} {w : World} {K : Value -> World -> Prop} {K' : Act -> World -> Prop} (hi : ops[i]? = some o)
 (h : if Region.wanted o (yielded ops a.tmps) = true then wpR P K ((execOp a.eval o).run P w) else K undef w) (hK : ∀ v w', K v w' -> K' (a.put o.dst v) w') : wpOp P ops Q i K' a w := by
 unfold wpOp;simp only [hi];split
 · rename_i hw;rw [if_pos hw] at h;refine .inl ?_;unfold Oper.wp;generalize (execOp a.eval o).run P w = r at *;cases r with
   | halt x w' => exact h.elim
   | ok n w' =>
    cases n with
    | value v => exact hK _ _ h
    | skip => exact hK _ _ h
    | enter f args =>
     refine Calls.mono h fun e w'' he => ?_;obtain ⟨v, rfl, hv⟩ := he;exact hK _ _ hv
    | row row args => exact Rows.mono h fun v w'' he => hK _ _ he
    | _ => exact h.elim
 · rename_i hw;rw [if_neg hw] at h;exact hK _ _ h
theorem zaz {C : RC} {x y : Oper} (h : x.apart C.ops y = true) : (∀ d, x.dst = some d -> d ∉ y.looksAt C.ops) /\ (∀ d, x.dst = some d -> y.dst ≠ some d) /\ (∀ d, y.dst = some d -> d ∉ x.looksAt C.ops) := Oper.apart_spec h
theorem RW.det {C : RC} (hs : Region.noSelect C.ops = true) {j : Nat} {o : Oper} (ho : C.ops[j]? = some o) (hk : z1G o.op = true) {w1 : World} (hw1 : C.V j o w1) (l2 : List Nat) :
 ∀ (l1 : List Nat) {G E : List En} {a : Act}, RW C (l1 ++ j :: l2) G E a -> (∀ i ∈ l1, ∀ x, C.ops[i]? = some x -> x.apart C.ops o = true) -> ∃ v, (∀ w, C.V j o w -> z43 C.P C.ops o v a w) /\ RW C (l1 ++ l2) G E (a.put o.dst v)
 | [], G, E, a, h, _ => by
  obtain ⟨o', ho', h⟩ := h;rw [ho] at ho'; cases ho';rcases h with ⟨_, v, hg, hr⟩ | ⟨h, _⟩ | ⟨h, _⟩
  · exact ⟨v, hg, hr⟩
  · rw [hk] at h; cases h
  · rw [hk] at h; cases h
 | i :: l1, G, E, a, h, hap => by
  obtain ⟨x, hx, h⟩ := h;obtain ⟨h1, h2, h3⟩ := zaz (hap i (List.mem_cons_self ..) x hx);have hso := Region.noSelect_spec hs j o (ho := ho);have hsx := Region.noSelect_spec hs i x (ho := hx);have hap' := fun k hk => hap k (List.mem_cons_of_mem _ hk);have sw : ∀ (u v : Value), (a.put x.dst u).put o.dst v = (a.put o.dst v).put x.dst u := fun u v => Act.put_comm a u v h2;rcases h with ⟨hxk, u, hg, hr⟩ | ⟨hxk, hxk2, mk, t, cs, hn, hr⟩ | ⟨hxk, hxk2, α, mk, G1, E1, K, hne, hc, hK, hE, hr⟩
  · obtain ⟨v, hv, hr'⟩ := RW.det hs ho hk hw1 l2 l1 hr hap';exact ⟨v, fun w hw => (z1X hso h1 u v w).1 (hv w hw), x, hx, .inl ⟨hxk, u, fun w hw => (z1X hsx h3 v u w).2 (hg w hw), by rw [<- sw]; exact hr'⟩⟩
  · have ih := fun g => RW.det hs ho hk hw1 l2 l1 (hr g) hap';obtain ⟨v, hv, _⟩ := ih 0;have hv0 := fun w hw => (z1X hso h1 (mk 0) v w).1 (hv w hw);refine ⟨v, hv0, x, hx, .inr (.inl ⟨hxk, hxk2, mk, t, cs, z7W hsx h3 v hn, fun g => ?_⟩)⟩;obtain ⟨v', hv', hr'⟩ := ih g;obtain rfl := z43.uniq (hv0 w1 hw1) ((z1X hso h1 (mk g) v' w1).1 (hv' w1 hw1));rw [<- sw]; exact hr'
  · have ih := fun p => RW.det hs ho hk hw1 l2 l1 (hr p) hap';obtain ⟨p0⟩ := hne;obtain ⟨v, hv, _⟩ := ih p0;have hv0 := fun w hw => (z1X hso h1 (mk p0) v w).1 (hv w hw);refine ⟨v, hv0, x, hx, .inr (.inr ⟨hxk, hxk2, α, mk, G1, E1, K, ⟨p0⟩, (z4l hsx h3 v).2 hc, hK, hE, fun p => ?_⟩)⟩;obtain ⟨v', hv', hr'⟩ := ih p;obtain rfl := z43.uniq (hv0 w1 hw1) ((z1X hso h1 (mk p) v' w1).1 (hv' w1 hw1));rw [<- sw]; exact hr'
theorem RW.new {C : RC} (hs : Region.noSelect C.ops = true) {j : Nat} {o : Oper} (ho : C.ops[j]? = some o) (hk : z1G o.op = false) (hk2 : z2C o.op = true) (l2 : List Nat) :
 ∀ (l1 : List Nat) {G E : List En} {a : Act}, RW C (l1 ++ j :: l2) G E a -> (∀ i ∈ l1, ∀ x, C.ops[i]? = some x -> x.apart C.ops o = true) -> ∃ mk t cs, z4M C o a mk t cs /\ ∀ g, RW C (l1 ++ l2) (.row g t cs :: G) E (a.put o.dst (mk g))
 | [], G, E, a, h, _ => by
  obtain ⟨o', ho', h⟩ := h;rw [ho] at ho'; cases ho';rcases h with ⟨h, _⟩ | ⟨_, _, h⟩ | ⟨_, h, _⟩
  · rw [hk] at h; cases h
  · exact h
  · rw [hk2] at h; cases h
 | i :: l1, G, E, a, h, hap => by
  obtain ⟨x, hx, h⟩ := h;obtain ⟨h1, h2, h3⟩ := zaz (hap i (List.mem_cons_self ..) x hx);have hso := Region.noSelect_spec hs j o (ho := ho);have hsx := Region.noSelect_spec hs i x (ho := hx);have hap' := fun k hk => hap k (List.mem_cons_of_mem _ hk);have sw : ∀ (u v : Value), (a.put x.dst u).put o.dst v = (a.put o.dst v).put x.dst u := fun u v => Act.put_comm a u v h2;have un : ∀ {mk mk' : Nat -> Value} {t t' : TypeId} {cs cs' : List Value}, z4M C o a mk t cs -> z4M C o a mk' t' cs' -> t = t' /\ cs = cs' /\ ∀ g, (∃ w : World, w.heap.size = g) -> mk g = mk' g := by
   intro mk mk' t t' cs cs' h h';have key : ∀ w : World, t = t' /\ cs = cs' /\ mk w.heap.size = mk' w.heap.size := by
    intro w;have e := (h.2.2.2 w).symm.trans (h'.2.2.2 w);simp only [Result.ok.injEq, Next.value.injEq] at e;have e2 : (w.heap.push (.cells cs.toArray t (0, 0))).back? = (w.heap.push (.cells cs'.toArray t' (0, 0))).back? := congrArg (fun u : World => u.heap.back?) e.2;simp only [Array.back?_push, Option.some.injEq, Obj.cells.injEq] at e2;exact ⟨e2.2.1, by simpa using e2.1, e.1⟩
   exact ⟨(key C.w0).1, (key C.w0).2.1, fun g ⟨w, hw⟩ => hw ▸ (key w).2.2⟩
  have hex : ∀ g, ∃ w : World, w.heap.size = g := fun g => ⟨{ C.w0 with heap := Array.replicate g default }, by simp⟩;rcases h with ⟨hxk, u, hg, hr⟩ | ⟨hxk, hxk2, mk, t, cs, hn, hr⟩ | ⟨hxk, hxk2, α, mk, G1, E1, K, hne, hc, hK, hE, hr⟩
  · obtain ⟨mk, t, cs, hn, hr'⟩ := RW.new hs ho hk hk2 l2 l1 hr hap';have hn' := z2O hso h1 u hn;exact ⟨mk, t, cs, hn', fun g => ⟨x, hx, .inl ⟨hxk, u, fun w hw => (z1X hsx h3 _ u w).2 (hg w hw), by rw [<- sw]; exact hr' g⟩⟩⟩
  · have ih := fun g => RW.new hs ho hk hk2 l2 l1 (hr g) hap';obtain ⟨mk0, t0, cs0, hn0, _⟩ := ih 0;have hn0' := z2O hso h1 _ hn0;refine ⟨mk0, t0, cs0, hn0', fun g => ⟨x, hx, .inr (.inl ⟨hxk, hxk2, mk, t, cs, z7W hsx h3 _ hn, fun g' => ?_⟩)⟩⟩;obtain ⟨mk1, t1, cs1, hn1, hr1⟩ := ih g';obtain ⟨rfl, rfl, hm⟩ := un hn0' (z2O hso h1 _ hn1);rw [<- sw, hm g (hex g)];exact RW.perm _ (.swap ..) (hr1 g)
  · have ih := fun p => RW.new hs ho hk hk2 l2 l1 (hr p) hap';obtain ⟨p0⟩ := hne;obtain ⟨mk0, t0, cs0, hn0, _⟩ := ih p0;have hn0' := z2O hso h1 _ hn0;refine ⟨mk0, t0, cs0, hn0', fun g => ⟨x, hx, .inr (.inr ⟨hxk, hxk2, α, mk, fun p => .row g t0 cs0 :: G1 p, E1, K, ⟨p0⟩, ?_, hK, hE, fun p => ?_⟩)⟩⟩
    · intro X w hw;have hp : ∀ G2 E2 : List En, (X ++ ((.row g t0 cs0 :: G2) ++ E2)).Perm ((.row g t0 cs0 :: X) ++ (G2 ++ E2)) := fun G2 E2 => List.perm_middle;have := (z4l hsx h3 (mk0 g)).2 hc _ w (hw.perm (hp G E));split
      · rename_i hwt;rw [if_pos hwt] at this;exact this.mono fun v w' ⟨p, e, hf⟩ => ⟨p, e, hf.perm (hp _ _).symm⟩
      · rename_i hwt;rw [if_neg hwt] at this;obtain ⟨p, e, hf⟩ := this;exact ⟨p, e, hf.perm (hp _ _).symm⟩
    · obtain ⟨mk1, t1, cs1, hn1, hr1⟩ := ih p;obtain ⟨rfl, rfl, hm⟩ := un hn0' (z2O hso h1 _ hn1);rw [<- sw, hm g (hex g)];exact hr1 g
theorem RW.chain {C : RC} (hs : Region.noSelect C.ops = true) {j : Nat} {o : Oper} (ho : C.ops[j]? = some o) (hk : z1G o.op = false) (hk2 : z2C o.op = false) (l2 : List Nat) :
 ∀ (l1 : List Nat) {G E : List En} {a : Act}, RW C (l1 ++ j :: l2) G E a -> (∀ i ∈ l1, ∀ x, C.ops[i]? = some x -> x.apart C.ops o = true /\ z1G x.op = true) ->
  ∃ (α : Type) (mk : α -> Value) (G' E' : α -> List En) (K : List Nat), Nonempty α /\ z5q C o a G E mk G' E' /\ z67 C.ops C.hd j K = true /\ (∀ p r, r ∉ K -> (E' p)[r]? = E[r]?) /\ ∀ p, RW C (l1 ++ l2) (G' p) (E' p) (a.put o.dst (mk p))
 | [], G, E, a, h, _ => by
  obtain ⟨o', ho', h⟩ := h;rw [ho] at ho'; cases ho';rcases h with ⟨h, _⟩ | ⟨_, h, _⟩ | ⟨_, _, h⟩
  · rw [hk] at h; cases h
  · rw [hk2] at h; cases h
  · exact h
 | i :: l1, G, E, a, h, hap => by
  obtain ⟨x, hx, h⟩ := h;obtain ⟨hap0, hxd⟩ := hap i (List.mem_cons_self ..) x hx;obtain ⟨h1, h2, h3⟩ := zaz hap0;have hso := Region.noSelect_spec hs j o (ho := ho);have hsx := Region.noSelect_spec hs i x (ho := hx);rcases h with ⟨hxk, u, hg, hr⟩ | ⟨h, _⟩ | ⟨h, _⟩
  · obtain ⟨α, mk, G1, E1, K, hne, hc, hK, hE, hr'⟩ := RW.chain hs ho hk hk2 l2 l1 hr (fun k hk => hap k (List.mem_cons_of_mem _ hk));exact ⟨α, mk, G1, E1, K, hne, (z4l hso h1 u).1 hc, hK, hE, fun p => ⟨x, hx, .inl ⟨hxk, u, fun w hw => (z1X hsx h3 _ u w).2 (hg w hw), by rw [<- Act.put_comm a u _ h2]; exact hr' p⟩⟩⟩
  · rw [hxd] at h; cases h
  · rw [hxd] at h; cases h
theorem z4x : ∀ (k j i : Nat), i ∈ upF k j ↔ j <= i /\ i < j + k
 | 0, j, i => by simp [upF]
 | k + 1, j, i => by
  unfold upF;rw [List.mem_cons, z4x k (j + 1) i];omega
theorem z50 : ∀ (k j : Nat), (upF k j).Pairwise (· < ·)
 | 0, _ => .nil
 | k + 1, j => List.pairwise_cons.2 ⟨fun i hi => by have := (z4x k (j + 1) i).1 hi; omega, z50 k (j + 1)⟩
theorem z9k (W i : Nat) : ∀ l : List Nat, (z9A W l).testBit i = true -> ∃ k ∈ l, k = i ∨ (zal W k).testBit i = true
 | [], h => by simp [z9A] at h
 | k :: l, h => by
  unfold z9A at h;simp only [List.foldr_cons, Nat.testBit_or, Bool.or_eq_true] at h;rcases h with h | h | h
  · obtain ⟨q, hq, h⟩ := z9k W i l h;exact ⟨q, List.mem_cons_of_mem _ hq, h⟩
  · refine ⟨k, List.mem_cons_self .., .inl ?_⟩;rw [Nat.one_shiftLeft, Nat.testBit_two_pow] at h;simpa using h
  · exact ⟨k, List.mem_cons_self .., .inr h⟩
theorem z9q {ops : Array Oper} {n : Nat} (hc : ∀ j < n, zal (z7L ops.toList 0 0) j = z9A (z7L ops.toList 0 0) (z1t ops j)) (hlt : ∀ j < n, ∀ k ∈ z1t ops j, k < j) {L : Nat -> Bool} (hg : ∀ k < n, L k = true -> ∀ j ∈ z1t ops k, L j = true) :
 ∀ (j : Nat), j < n -> (∀ k ∈ z1t ops j, L k = true) -> ∀ i, pre ops i j = true -> L i = true := by
 intro j;induction j using Nat.strongRecOn with
 | _ j ih =>
  intro hj hp i hij;unfold pre at hij;rw [hc j hj] at hij;obtain ⟨k, hk, rfl | hik⟩ := z9k _ i _ hij
  · exact hp _ hk
  · exact ih k (hlt j hj k hk) (Nat.lt_trans (hlt j hj k hk) hj) (hg k (Nat.lt_trans (hlt j hj k hk) hj) (hp k hk)) i hik
theorem pre_lt {ops : Array Oper} {n : Nat} (hc : ∀ j < n, zal (z7L ops.toList 0 0) j = z9A (z7L ops.toList 0 0) (z1t ops j)) (hlt : ∀ j < n, ∀ k ∈ z1t ops j, k < j) {i j : Nat} (hj : j < n) (h : pre ops i j = true) : i < j := by
 have := z9q hc hlt (L := fun i => decide (i < j)) (fun k hk hLk q hq => by
  simp only [decide_eq_true_eq] at hLk ⊢;exact Nat.lt_trans (hlt k hk q hq) hLk) j hj (fun k hk => by simpa using hlt j hj k hk) i h
 simpa using this
def za9 (df : List Deferred) (x : Nat -> Value) : Act := ⟨match x 0 with | .tuple t => t | _ => #[], df⟩
theorem zaZ (a : Act) : za9 a.defers (fun _ => .tuple a.tmps) = a := rfl
theorem z9j (a : Act) (d : Option Tmp) (v : Value) : (a.put d v).defers = a.defers := by cases d <;> rfl
theorem z6N (df : List Deferred) (x : Nat -> Value) (d : Option Tmp) (v : Value) : ∃ x', (za9 df x).put d v = za9 df x' :=
 ⟨fun _ => .tuple ((za9 df x).put d v).tmps, by
  have h := zaZ ((za9 df x).put d v);rw [z9j] at h;exact h.symm⟩
structure RSt (C : RC) (n : Nat) (L : Nat -> Bool) (a : Act) (w : World) (l : List Nat) (G E : List En) (Kt : List Nat) : Prop where
 sub : l.Sublist (upF n 0)
 mem : ∀ i, i < n -> (i ∈ l ↔ L i = false)
 rw_ : RW C l G E a
 fr : Fr C.S0 C.w0 w (G ++ E)
 z2g : ∀ r, r ∉ Kt -> E[r]? = C.E0[r]?
 hid : ∀ i ∈ l, opL C.ops i = true -> ∀ r ∈ Kt, r ∈ C.hd.getD i []
theorem z7f {ops : Array Oper} {n : Nat} (hok : z7S ops n = true) : Region.noSelect ops = true /\ ((List.range n).all fun i => ((ops[i]?).map (·.after.all fun e => !Region.binds .any e || decide (e.on < i))).getD false) = true /\
 (∀ j < n, zal (z7L ops.toList 0 0) j = z9A (z7L ops.toList 0 0) (z1t ops j)) /\ (∀ j < n, ∀ i < j, pre ops i j = true ∨ (apt ops i j = true /\ (opD ops j = true ∨ opD ops i = true ∨ ((ops[j]?).map fun o => z2C o.op).getD false = true))) /\ ∀ j < n, ∀ k ∈ z1t ops j, k < j := by
 unfold z7S at hok;simp only [Bool.and_eq_true] at hok;obtain ⟨⟨hs, hb⟩, hok⟩ := hok;have hok0 : ∀ j < n, _ := fun j hj => List.all_eq_true.1 hok j (List.mem_range.2 hj);simp only [Bool.and_eq_true, beq_iff_eq] at hok0;refine ⟨hs, hb, fun j hj => (hok0 j hj).1, fun j hj i hi => ?_, fun j hj k hk => ?_⟩
 · have := List.all_eq_true.1 (hok0 j hj).2 i (List.mem_range.2 hi);simp only [Bool.or_eq_true, Bool.and_eq_true, or_assoc] at this;exact this
 · have := List.all_eq_true.1 hb j (List.mem_range.2 hj);unfold z1t at hk;cases ho : ops[j]? with
   | none => rw [ho] at hk; simp at hk
   | some o =>
    rw [ho] at this hk;simp only [Option.map_some, Option.getD_some, List.mem_map, List.mem_filter] at hk this;obtain ⟨e, ⟨he, hbd⟩, rfl⟩ := hk;rw [Array.all_eq_true] at this;obtain ⟨q, hq, rfl⟩ := Array.mem_iff_getElem.1 (Array.mem_def.2 he);have := this q hq;rw [hbd] at this;simpa using this
theorem rgA (C : RC) {id n : Nat} {a : Act} {w : World} (hm : C.P.follows .mixedOrders = true) (hn : C.ops.size = n) (hok : z7S C.ops n = true) (H : Fr C.S0 C.w0 w C.E0) (h : RW C (upF n 0) [] C.E0 a) : (Code.region id C.ops true).wp C.P C.Q a w := by
 obtain ⟨hs, hb, hc, hok1, hlt⟩ := z7f hok;refine z2s hm hn hb (za9 a.defers) (fun L x w' => ∃ l G E Kt, RSt C n L (za9 a.defers x) w' l G E Kt) (fun _ => .tuple a.tmps) (zaZ a).symm ?_ ?_ ?_
 · exact ⟨upF n 0, [], C.E0, [], .refl _, fun i hi => by simp [z4x, hi], h, H.drew, fun _ _ => rfl, fun _ _ _ _ hr => by cases hr⟩
 · rintro j hj L x w' ⟨l, G, E, Kt, S⟩ hG hL hp;have hp := z1e L j hp;have hG' : ∀ k < n, L k = true -> ∀ i ∈ z1t C.ops k, L i = true := fun k hk hLk => z1e L k (hG k hk hLk);have hpd := z9q hc hlt hG' j hj hp;have hjl := (S.mem j hj).2 hL;obtain ⟨l1, l2, rfl⟩ := List.append_of_mem hjl;have hsort := (z50 n 0).sublist S.sub;have hin : ∀ i ∈ l1 ++ j :: l2, i < n := fun i hi => by have := (z4x n 0 i).1 (S.sub.subset hi); omega
   have h1 : ∀ i ∈ l1, i < j := fun i hi => (List.pairwise_append.1 hsort).2.2 i hi j (List.mem_cons_self ..);have h2 : ∀ i ∈ l2, j < i := fun i hi => (List.pairwise_cons.1 (List.pairwise_append.1 hsort).2.1).1 i hi;have hnp : ∀ i ∈ l1 ++ j :: l2, pre C.ops i j = false := fun i hi => by
    cases hq : pre C.ops i j with
    | false => rfl
    | true =>
     have e1 := hpd i hq;rw [(S.mem i (hin i hi)).1 hi] at e1; cases e1
   obtain ⟨o, ho⟩ : ∃ o, C.ops[j]? = some o := ⟨_, Array.getElem?_eq_getElem (by omega)⟩;have hap : ∀ i ∈ l1, ∀ x, C.ops[i]? = some x -> x.apart C.ops o = true /\ (z1G o.op = true ∨ z1G x.op = true ∨ z2C o.op = true) := by
    intro i hi x hx;rcases hok1 j hj i (h1 i hi) with h | h
    · rw [hnp i (List.mem_append_left _ hi)] at h; cases h
    · simpa [apt, opD, ho, hx] using h
   have hsub : (l1 ++ l2).Sublist (l1 ++ j :: l2) := List.Sublist.append_left (List.sublist_cons_self ..) l1;have hmem : ∀ i, i < n -> (i ∈ l1 ++ l2 ↔ (if i = j then true else L i) = false) := by
    intro i hi;by_cases hij : i = j
    · subst hij;simp only [if_true, List.mem_append];constructor
      · rintro (h | h)
        · exact absurd (h1 _ h) (Nat.lt_irrefl _)
        · exact absurd (h2 _ h) (Nat.lt_irrefl _)
      · intro h; cases h
    · rw [if_neg hij, <- S.mem i hi];simp [hij]
   cases hk : z1G o.op with
   | true =>
    have hw1 : C.V j o w' := by
     intro hl;refine S.fr.sub ((z5X _ C.E0 E 0 fun r hr => S.z2g r fun hk' => hr ?_).trans (List.sublist_append_right ..));rw [Nat.zero_add];exact S.hid j hjl (by simp [opL, ho, hl]) r hk'
    obtain ⟨v, hv, hr⟩ := RW.det hs ho hk hw1 l2 l1 S.rw_ (fun i hi x hx => (hap i hi x hx).1);refine wpR.wp (K := fun u w2 => u = v /\ w2 = w') ho ?_ ?_
    · rcases hv w' hw1 with ⟨e1, e2⟩ | ⟨e1, e2⟩
      · rw [if_pos e1];rcases e2 with e2 | ⟨e2, e3⟩
        · rw [e2]; exact ⟨rfl, rfl⟩
        · rw [e2, e3]; exact ⟨rfl, rfl⟩
      · rw [if_neg (by rw [e1]; decide), e2]; exact ⟨rfl, rfl⟩
    · rintro u w2 ⟨rfl, rfl⟩;obtain ⟨x', hx'⟩ := z6N a.defers x o.dst u;exact ⟨x', hx', l1 ++ l2, G, E, Kt, hsub.trans S.sub, hmem, by rw [<- hx']; exact hr, S.fr, S.z2g, fun i hi => S.hid i (hsub.subset hi)⟩
   | false =>
    cases hk2 : z2C o.op with
    | true =>
     obtain ⟨mk, t, cs, hnw, hr⟩ := RW.new hs ho hk hk2 l2 l1 S.rw_ (fun i hi x hx => (hap i hi x hx).1);refine wpR.wp (K := fun u w2 => u = mk w'.heap.size /\ w2 = w'.alloc (.cells cs.toArray t (0, 0))) ho ?_ ?_
     · rw [if_pos hnw.1, hnw.2.2.2 w']; exact ⟨rfl, rfl⟩
     · rintro u w2 ⟨rfl, rfl⟩;obtain ⟨x', hx'⟩ := z6N a.defers x o.dst (mk w'.heap.size);refine ⟨x', hx', l1 ++ l2, _, E, Kt, hsub.trans S.sub, hmem, by rw [<- hx']; exact hr _, ?_, S.z2g, fun i hi => S.hid i (hsub.subset hi)⟩;exact S.fr.new (e := .row w'.heap.size t cs) ((Below.refl _ _).alloc (Nat.le_refl _) _) ⟨by have := z00.new w' cs.toArray t; simpa using this, hnw.2.1, hnw.2.2.1⟩ (by rintro b rfl; exact Nat.le_refl _)
    | false =>
     obtain ⟨α, mk, G1, E1, K, hne, hc, hK, hE, hr⟩ := RW.chain hs ho hk hk2 l2 l1 S.rw_ (fun i hi x hx => by
      obtain ⟨q1, q2⟩ := hap i hi x hx;rw [hk, hk2] at q2;exact ⟨q1, by simpa using q2⟩)
     refine wpR.wp (K := fun u w2 => ∃ p, u = mk p /\ Fr C.S0 C.w0 w2 (G1 p ++ E1 p)) ho (hc [] w' S.fr) ?_;rintro u w2 ⟨p, rfl, hf⟩;obtain ⟨x', hx'⟩ := z6N a.defers x o.dst (mk p);refine ⟨x', hx', l1 ++ l2, G1 p, E1 p, K ++ Kt, hsub.trans S.sub, hmem, by rw [<- hx']; exact hr p, hf, fun r hr' => ?_, fun i hi hid r hr' => ?_⟩
     · rw [hE p r (fun h => hr' (List.mem_append_left _ h))];exact S.z2g r (fun h => hr' (List.mem_append_right _ h))
     · rcases List.mem_append.1 hr' with hr' | hr'
       · unfold z67 at hK;have := List.all_eq_true.1 hK i (List.mem_range.2 (by rw [hn]; exact hin i (hsub.subset hi)));simp only [Bool.or_eq_true, beq_iff_eq, Bool.not_eq_true', List.all_eq_true, List.contains_iff_mem] at this;have hij : i ≠ j := fun e => by
          subst e;rcases List.mem_append.1 hi with h | h
          · exact absurd (h1 _ h) (Nat.lt_irrefl _)
          · exact absurd (h2 _ h) (Nat.lt_irrefl _)
         rcases this with ((h | h) | h) | h
         · exact absurd h hij
         · rw [hnp i (hsub.subset hi)] at h; cases h
         · rw [hid] at h; cases h
         · exact h r hr'
       · exact S.hid i (hsub.subset hi) hid r hr'
 · rintro L x w' hL ⟨l, G, E, Kt, S⟩;have : l = [] := by
    cases l with
    | nil => rfl
    | cons i l =>
     have hi := (z4x n 0 i).1 (S.sub.subset (List.mem_cons_self ..));have := (S.mem i (by omega)).1 (List.mem_cons_self ..);rw [hL i (by omega)] at this; cases this
   subst this;exact S.rw_ w' S.fr
theorem rgB (C : RC) {n : Nat} (hn : C.ops.size = n) (hok : z7S C.ops n = true) : ∀ (l : List Nat) {G E : List En} {Kt : List Nat} {a : Act} {w : World}, l.Pairwise (· < ·) -> (∀ i ∈ l, i < n) -> RW C l G E a -> Fr C.S0 C.w0 w (G ++ E) -> (∀ r, r ∉ Kt -> E[r]? = C.E0[r]?) -> (∀ i ∈ l, opL C.ops i = true -> ∀ r ∈ Kt, r ∈ C.hd.getD i []) -> wpOps C.P C.ops C.Q l a w
 | [], G, E, Kt, a, w, _, _, h, hf, _, _ => h w hf
 | j :: l, G, E, Kt, a, w, hsrt, hin, h, hf, hkp, hid => by
  obtain ⟨hs, hb, hc, hok1, hlt⟩ := z7f hok;rw [wpOps_cons];obtain ⟨o, ho, h⟩ := h;have hjn := hin j (List.mem_cons_self ..);have hs2 := List.pairwise_cons.1 hsrt;have hin' := fun i hi => hin i (List.mem_cons_of_mem _ hi);have hid' := fun i hi => hid i (List.mem_cons_of_mem _ hi);rcases h with ⟨hk, v, hv, hr⟩ | ⟨hk, hk2, mk, t, cs, hnw, hr⟩ | ⟨hk, hk2, α, mk, G1, E1, K, hne, hcn, hK, hE, hr⟩
  · have hw1 : C.V j o w := by
     intro hl;refine hf.sub ((z5X _ C.E0 E 0 fun r hr => hkp r fun hk' => hr ?_).trans (List.sublist_append_right ..));rw [Nat.zero_add];exact hid j (List.mem_cons_self ..) (by simp [opL, ho, hl]) r hk'
    refine wpR.wp (K := fun u w2 => u = v /\ w2 = w) ho ?_ ?_
    · rcases hv w hw1 with ⟨e1, e2⟩ | ⟨e1, e2⟩
      · rw [if_pos e1];rcases e2 with e2 | ⟨e2, e3⟩
        · rw [e2]; exact ⟨rfl, rfl⟩
        · rw [e2, e3]; exact ⟨rfl, rfl⟩
      · rw [if_neg (by rw [e1]; decide), e2]; exact ⟨rfl, rfl⟩
    · rintro u w2 ⟨rfl, rfl⟩;exact rgB C hn hok l hs2.2 hin' hr hf hkp hid'
  · refine wpR.wp (K := fun u w2 => u = mk w.heap.size /\ w2 = w.alloc (.cells cs.toArray t (0, 0))) ho ?_ ?_
    · rw [if_pos hnw.1, hnw.2.2.2 w]; exact ⟨rfl, rfl⟩
    · rintro u w2 ⟨rfl, rfl⟩;exact rgB C hn hok l hs2.2 hin' (hr _) (hf.new (e := .row w.heap.size t cs) ((Below.refl _ _).alloc (Nat.le_refl _) _) ⟨by have := z00.new w cs.toArray t; simpa using this, hnw.2.1, hnw.2.2.1⟩ (by rintro b rfl; exact Nat.le_refl _)) hkp hid'
  · refine wpR.wp (K := fun u w2 => ∃ p, u = mk p /\ Fr C.S0 C.w0 w2 (G1 p ++ E1 p)) ho (hcn [] w hf) ?_;rintro u w2 ⟨p, rfl, hf'⟩;refine rgB C hn hok l (Kt := K ++ Kt) hs2.2 hin' (hr p) hf' (fun r hr' => ?_) (fun i hi hdi r hr' => ?_)
    · rw [hE p r (fun h => hr' (List.mem_append_left _ h))];exact hkp r (fun h => hr' (List.mem_append_right _ h))
    · rcases List.mem_append.1 hr' with hr' | hr'
      · unfold z67 at hK;have := List.all_eq_true.1 hK i (List.mem_range.2 (by rw [hn]; exact hin' i hi));simp only [Bool.or_eq_true, beq_iff_eq, Bool.not_eq_true', List.all_eq_true, List.contains_iff_mem] at this;have hij := hs2.1 i hi;rcases this with ((h | h) | h) | h
        · omega
        · have := pre_lt hc hlt hjn h; omega
        · rw [hdi] at h; cases h
        · exact h r hr'
      · exact hid' i hi hdi r hr'
theorem rgC (C : RC) {id n : Nat} {d : Bool} {a : Act} {w : World} (hm : C.P.follows .mixedOrders = true) (hn : C.ops.size = n) (hok : z7S C.ops n = true) (H : Fr C.S0 C.w0 w C.E0) (h : RW C (upF n 0) [] C.E0 a) : (Code.region id C.ops d).wp C.P C.Q a w := by
 cases d with
 | true => exact rgA C hm hn hok H h
 | false =>
  have e : ∀ k j, upF k j = List.range' j k := by
   intro k;induction k with
   | zero => intro j; rfl
   | succ k ih => intro j; rw [upF, ih, List.range'_succ]
  refine wp_region ?_;rw [hn, List.range_eq_range', <- e];exact rgB C hn hok _ (z50 n 0) (fun i hi => by have := (z4x n 0 i).1 hi; omega) h H (Kt := []) (fun _ _ => rfl) (fun _ _ _ _ hr => by cases hr)
def evl : List (Nat × Value) -> Operand -> Value
 | _, .const v => v
 | _, .global g => .pointer (some ⟨g, 0, none⟩)
 | _, .func f => .func (.func f) #[] #[]
 | [], .tmp _ => undef
 | (s, v) :: l, .tmp t => if t = s then v else evl l (.tmp t)
theorem z3k : (∀ ls v, evl ls (.const v) = v) /\ (∀ ls g, evl ls (.global g) = .pointer (some ⟨g, 0, none⟩)) /\ (∀ ls f, evl ls (.func f) = .func (.func f) #[] #[]) /\ (∀ s v l t, evl ((s, v) :: l) (.tmp t) = if t = s then v else evl l (.tmp t)) :=
 ⟨fun ls _ => by cases ls <;> rfl, fun ls _ => by cases ls <;> rfl, fun ls _ => by cases ls <;> rfl, fun _ _ _ _ => rfl⟩
attribute [go_sem] z3k
def cl (p : P4) : List Value := [.bool p.1, .slice p.2.1 p.2.2.1 p.2.2.2]
def z3P (ls : List (Nat × Value)) : Operand -> Bool
 | .tmp t => ls.any fun p => p.1 == t
 | _ => true
def z5b (ls : List (Nat × Value)) (op : Op) : Bool := op.operands.toList.all (z3P ls) && match op with | .select .. => false | _ => true
structure Sl (n : Nat) (ls : List (Nat × Value)) (a : Act) : Prop where
 df : a.defers = []
 sz : a.tmps.size = n
 vs : ∀ p ∈ ls, a.tmps[p.1]? = some (evl ls (.tmp p.1))
theorem Sl.tmp {n : Nat} {ls : List (Nat × Value)} {a : Act} (h : Sl n ls a) {t : Nat} (ht : z3P ls (.tmp t) = true) : a.tmps[t]? = some (evl ls (.tmp t)) := by
 unfold z3P at ht;obtain ⟨p, hp, hpt⟩ := List.any_eq_true.1 ht;simp only [beq_iff_eq] at hpt;subst hpt;exact h.vs p hp
theorem Sl.ev {n : Nat} {ls : List (Nat × Value)} {a : Act} (h : Sl n ls a) {x : Operand} (hx : z3P ls x = true) : a.eval x = evl ls x := by
 cases x with
 | const v => rw [z3k.1]; rfl
 | global g => rw [z3k.2.1]; rfl
 | func f => rw [z3k.2.2.1]; rfl
 | tmp t => simp [Act.eval, h.tmp hx]
theorem Sl.exec {n : Nat} {ls : List (Nat × Value)} {a : Act} (h : Sl n ls a) {o : Oper} (hc : z5b ls o.op = true) : execOp a.eval o = execOp (evl ls) o := by
 unfold z5b at hc;rw [Bool.and_eq_true] at hc;refine execOp_congr o (fun cs b e => ?_) fun x hx => h.ev (List.all_eq_true.1 hc.1 x (Array.mem_toList_iff.2 hx));have := hc.2;rw [e] at this;cases this
theorem Sl.put {n : Nat} {ls : List (Nat × Value)} {a : Act} (h : Sl n ls a) {s : Nat} (hs : s < n) (v : Value) : Sl n ((s, v) :: ls) (a.put (some s) v) := by
 refine ⟨h.df, by simp [Act.put, h.sz], fun p hp => ?_⟩;have hsz : s < a.tmps.size := by rw [h.sz]; exact hs
 by_cases he : p.1 = s
 · rw [he];simp [Act.put, evl, hsz]
 · rw [z3k.2.2.2, if_neg he];rcases List.mem_cons.1 hp with rfl | hp
   · exact absurd rfl he
   · simp only [Act.put, Array.getElem?_setIfInBounds_ne (fun e => he e.symm)];exact h.vs p hp
theorem Sl.put0 {n : Nat} {ls : List (Nat × Value)} {a : Act} (h : Sl n ls a) (v : Value) : Sl n ls (a.put none v) := h
theorem Sl.sub {n : Nat} {ls ls' : List (Nat × Value)} {a : Act} (h : Sl n ls a) (hk : ∀ p ∈ ls', z3P ls (.tmp p.1) = true /\ evl ls (.tmp p.1) = evl ls' (.tmp p.1)) : Sl n ls' a :=
 ⟨h.df, h.sz, fun p hp => by rw [h.tmp (hk p hp).1, (hk p hp).2]⟩
theorem z05.chg {T : Nat -> Prop} {w w' : World} {B : Nat} {v : Value} {x : Int} (hx : z05 w B v x) (h : Chg T w w') (hS : Wl T w) : z05 w' B v x := by
 obtain ⟨ao, cap, rfl, h1, h2, h3, h4⟩ := hx;refine ⟨ao, cap, rfl, h1, h2, h3, ?_⟩;rcases h4 with h0 | ⟨g, c, cur, hv, hbb, hg, r⟩
 · exact .inl h0
 · refine .inr ⟨g, c, cur, hv, hbb, ?_, r⟩;rw [h.block g (Array.getElem?_eq_some_iff.1 hg).1 (fun hs => by
    obtain ⟨t, cs, hr, _, ht⟩ := hS g hs;unfold z00 at hr;rw [hg] at hr;simp only [Option.some.injEq, Obj.cells.injEq] at hr;exact ht hr.2.1.symm)]
   exact hg
def En.own (B : Nat) (v : Value) (x : Int) : En := .fact (fun _ => False) (fun w => z05 w B v x) (fun _ _ h => h.elim) (fun h hc hT _ => z05.chg h hc hT)
def En.at (L : Nat) (v : Value) (x : Int) : En := .fact (fun _ => False) (fun w => z03 w L v x) (fun _ _ h => h.elim) (fun h hc hT _ => hc.int hT.z1d h)
def En.num (v : Value) (x : Int) : En := .fact (fun _ => False) (fun w => z0n w v x) (fun _ _ h => h.elim) (fun h hc hT _ => hc.num hT.z1d h)
def En.ow (B : Nat) (ao : Option Addr) (m cap : Nat) : En := .fact (fun _ => False) (fun w => z16 w B ao (z04 m) cap (dig m)) (fun _ _ h => h.elim) (fun {w w' T} h hc hT _ => by
 have := z05.chg (z05.mk false h) hc hT;obtain ⟨ao', cap', e, ho⟩ := this;rw [z2A] at e ho;cases e;exact ho)
def Cel (w : World) : List En -> Prop
 | [] => True
 | .row b _ cs :: l => (∀ i, w.cell? ⟨b, i, none⟩ = cs[i]?) /\ Cel w l
 | .cell a v :: l => w.cell? a = some v /\ Cel w l
 | .fact .. :: l => Cel w l
theorem celN (w : World) : (∀ b t cs l, Cel w (.row b t cs :: l) = ((∀ i, w.cell? ⟨b, i, none⟩ = cs[i]?) /\ Cel w l)) /\ (∀ a v l, Cel w (.cell a v :: l) = (w.cell? a = some v /\ Cel w l)) /\ (∀ B v x l, Cel w (.own B v x :: l) = Cel w l) /\ (∀ B v x l, Cel w (.at B v x :: l) = Cel w l) /\ (∀ v x l, Cel w (.num v x :: l) = Cel w l) /\ (∀ B a m k l, Cel w (.ow B a m k :: l) = Cel w l) /\ Cel w [] = True /\ (∀ l, Cel w ([] ++ l) = Cel w l) /\ (∀ e l l', Cel w ((e :: l) ++ l') = Cel w (e :: (l ++ l'))) /\ (∀ S F k k' l, Cel w (.fact S F k k' :: l) = Cel w l) :=
 ⟨fun _ _ _ _ => rfl, fun _ _ _ => rfl, fun _ _ _ _ => rfl, fun _ _ _ _ => rfl, fun _ _ _ => rfl, fun _ _ _ _ _ => rfl, rfl, fun _ => rfl, fun _ _ _ => rfl, fun _ _ _ _ _ => rfl⟩
theorem Cel.of (w : World) : ∀ es : List En, (∀ e ∈ es, e.F w) -> Cel w es
 | [], _ => trivial
 | .row b t cs :: l, h => ⟨(h _ (List.mem_cons_self ..)).1.cell, Cel.of w l fun e he => h e (List.mem_cons_of_mem _ he)⟩
 | .cell a v :: l, h => ⟨h _ (List.mem_cons_self ..), Cel.of w l fun e he => h e (List.mem_cons_of_mem _ he)⟩
 | .fact .. :: l, h => Cel.of w l fun e he => h e (List.mem_cons_of_mem _ he)
section
variable {S0 : Nat -> Prop} {w0 w : World} {es : List En}
theorem Fr.c (h : Fr S0 w0 w es) : Cel w es := Cel.of w es h.all
variable {e0 e1 e2 e3 e4 e5 e6 e7 e8 e9 e10 e11 e12 e13 e14 e15 e16 : En}
theorem Fr.m0 (h : Fr S0 w0 w (e0 :: es)) : e0.F w := h.all _ (List.mem_cons_self ..)
theorem Fr.tl (h : Fr S0 w0 w (e0 :: es)) : Fr S0 w0 w es := h.sub (List.sublist_cons_self ..)
theorem Fr.m1 (h : Fr S0 w0 w (e0 :: e1 :: es)) : e1.F w := h.tl.m0
theorem Fr.m2 (h : Fr S0 w0 w (e0 :: e1 :: e2 :: es)) : e2.F w := h.tl.m1
theorem Fr.m3 (h : Fr S0 w0 w (e0 :: e1 :: e2 :: e3 :: es)) : e3.F w := h.tl.m2
theorem Fr.m4 (h : Fr S0 w0 w (e0 :: e1 :: e2 :: e3 :: e4 :: es)) : e4.F w := h.tl.m3
theorem Fr.m5 (h : Fr S0 w0 w (e0 :: e1 :: e2 :: e3 :: e4 :: e5 :: es)) : e5.F w := h.tl.m4
theorem Fr.m6 (h : Fr S0 w0 w (e0 :: e1 :: e2 :: e3 :: e4 :: e5 :: e6 :: es)) : e6.F w := h.tl.m5
theorem Fr.m7 (h : Fr S0 w0 w (e0 :: e1 :: e2 :: e3 :: e4 :: e5 :: e6 :: e7 :: es)) : e7.F w := h.tl.m6
theorem Fr.m8 (h : Fr S0 w0 w (e0 :: e1 :: e2 :: e3 :: e4 :: e5 :: e6 :: e7 :: e8 :: es)) : e8.F w := h.tl.m7
theorem Fr.m9 (h : Fr S0 w0 w (e0 :: e1 :: e2 :: e3 :: e4 :: e5 :: e6 :: e7 :: e8 :: e9 :: es)) : e9.F w := h.tl.m8
theorem Fr.m10 (h : Fr S0 w0 w (e0 :: e1 :: e2 :: e3 :: e4 :: e5 :: e6 :: e7 :: e8 :: e9 :: e10 :: es)) : e10.F w := h.tl.m9
theorem Fr.m11 (h : Fr S0 w0 w (e0 :: e1 :: e2 :: e3 :: e4 :: e5 :: e6 :: e7 :: e8 :: e9 :: e10 :: e11 :: es)) : e11.F w := h.tl.m10
theorem Fr.m12 (h : Fr S0 w0 w (e0 :: e1 :: e2 :: e3 :: e4 :: e5 :: e6 :: e7 :: e8 :: e9 :: e10 :: e11 :: e12 :: es)) : e12.F w := h.tl.m11
end
def RWs (C : RC) (n : Nat) (l : List Nat) (G E : List En) (ls : List (Nat × Value)) : Prop := ∀ a, Sl n ls a -> RW C l G E a
def CW (P : Program) (n : Nat) (S0 : Nat -> Prop) (w0 : World) (c : Code) (Q : Exit -> Act -> World -> Prop) (ls : List (Nat × Value)) (es : List En) : Prop := ∀ a w, Sl n ls a -> Fr S0 w0 w es -> c.wp P Q a w
def QW (n : Nat) (S0 : Nat -> Prop) (w0 : World) (Q : Exit -> Act -> World -> Prop) (e : Exit) (ls : List (Nat × Value)) (es : List En) : Prop := ∀ a w, Sl n ls a -> Fr S0 w0 w es -> Q e a w
inductive Rm (e : En) : List En -> List En -> Prop where
 | z {l : List En} : Rm e (e :: l) l
 | s {x : En} {l l' : List En} (h : Rm e l l') : Rm e (x :: l) (x :: l')
inductive Pk : List En -> List En -> Prop where
 | n {l : List En} : Pk l []
 | c {e : En} {l l1 r : List En} (h : Rm e l l1) (k : Pk l1 r) : Pk l (e :: r)
theorem Rm.perm {e : En} {l l' : List En} (h : Rm e l l') : l.Perm (e :: l') := by
 induction h with
 | z => exact .refl _
 | @s x l l' h ih => exact (ih.cons x).trans (.swap ..)
theorem Pk.perm {l r : List En} (h : Pk l r) : ∃ m, l.Perm (r ++ m) := by
 induction h with
 | n => exact ⟨_, .refl _⟩
 | c h _ ih =>
  obtain ⟨m, hm⟩ := ih;exact ⟨m, h.perm.trans (hm.cons _)⟩
theorem Fr.pick {S0 : Nat -> Prop} {w0 w : World} {es es' : List En} (h : Fr S0 w0 w es) (k : Pk es es') : Fr S0 w0 w es' := by
 obtain ⟨m, hm⟩ := k.perm;exact (h.perm hm).sub (List.sublist_append_left ..)
section
variable {P : Program} {ops : Array Oper} {Q : Exit -> Act -> World -> Prop} {S0 : Nat -> Prop} {w0 : World} {E0 : List En} {hd : List (List Nat)} {n j s : Nat} {l : List Nat} {G E : List En} {ls : List (Nat × Value)} {op : Op} {ty : TypeId} {pos : String} {af : Array Edge} {v : Value}
theorem ifw {o : Oper} {y : Nat -> Option Bool} {A B : Prop} (hg : o.guard = none) (h : A) : if Region.wanted o y = true then A else B := by
 rw [if_pos (by simp [Region.wanted, hg])]; exact h
theorem dW (k : RWs ⟨P, ops, Q, S0, w0, E0, []⟩ n l G E ((s, v) :: ls))
 (ho : ops[j]? = some ⟨some s, op, ty, pos, af, none⟩ := by rfl) (hk : (z1G op && z5b ls op && Nat.blt s n) = true := by kernel_rfl)
 (hr : ∀ w, (isLd op = true -> Fr S0 w0 w E0) -> (execOp (evl ls) ⟨some s, op, ty, pos, af, none⟩).run P w = .ok (.value v) w := by intro w H; (first | (have c := (H rfl).c; try simp only [celN, cl, List.cons_append, List.nil_append] at c) | skip); clear H; go_simp <;> with_reducible rfl) : RWs ⟨P, ops, Q, S0, w0, E0, []⟩ n (j :: l) G E ls := fun a ha => by
 simp only [Bool.and_eq_true] at hk;refine ⟨_, ho, .inl ⟨hk.1.1, v, fun w hw => .inl ⟨rfl, .inl ?_⟩, k _ (ha.put (Nat.le_of_ble_eq_true hk.2) v)⟩⟩;rw [ha.exec hk.1.2];exact hr w fun hl => by simpa [z5S] using hw hl
theorem dH (k : RWs ⟨P, ops, Q, S0, w0, E0, hd⟩ n l G E ((s, v) :: ls))
 (ho : ops[j]? = some ⟨some s, op, ty, pos, af, none⟩ := by rfl) (hk : (z1G op && z5b ls op && Nat.blt s n) = true := by kernel_rfl)
 (hr : ∀ w, (isLd op = true -> Fr S0 w0 w (z5i 0 E0 (hd.getD j []))) -> (execOp (evl ls) ⟨some s, op, ty, pos, af, none⟩).run P w = .ok (.value v) w := by intro w H; (first | (have c := (H rfl).c; try simp only [z5i, List.getD_cons_zero, List.getD_cons_succ, List.getD_nil, List.contains_cons, List.contains_nil, Nat.reduceBEq, Nat.reduceAdd, Bool.or_false, Bool.false_or, Bool.or_true, Bool.true_or, Bool.false_eq_true, ↓reduceIte, celN, cl, List.cons_append, List.nil_append] at c) | skip); clear H; go_simp <;> with_reducible rfl) : RWs ⟨P, ops, Q, S0, w0, E0, hd⟩ n (j :: l) G E ls := fun a ha => by
 simp only [Bool.and_eq_true] at hk;refine ⟨_, ho, .inl ⟨hk.1.1, v, fun w hw => .inl ⟨rfl, .inl ?_⟩, k _ (ha.put (Nat.le_of_ble_eq_true hk.2) v)⟩⟩;rw [ha.exec hk.1.2];exact hr w hw
theorem aW {t : TypeId} {cs : List Value} (k : ∀ g, RWs ⟨P, ops, Q, S0, w0, E0, hd⟩ n l (.row g t cs :: G) E ((s, .pointer (some ⟨g, 0, none⟩)) :: ls))
 (ho : ops[j]? = some ⟨some s, op, ty, pos, af, none⟩ := by rfl) (hk : (!z1G op && z2C op && z5b ls op && Nat.blt s n) = true := by kernel_rfl)
 (hr : ∀ w, (execOp (evl ls) ⟨some s, op, ty, pos, af, none⟩).run P w = .ok (.value (.pointer (some ⟨w.heap.size, 0, none⟩))) (w.alloc (.cells cs.toArray t (0, 0))) := by intro w; (try simp only [av]); go_simp <;> with_reducible rfl)
 (hn : NoW cs := by repeat (first | exact NoW.nil | apply NoW.bool | apply NoW.slice | apply NoW.i64 | apply NoW.ptr)) (ht : t ≠ 49 := by decide) : RWs ⟨P, ops, Q, S0, w0, E0, hd⟩ n (j :: l) G E ls := fun a ha => by
 simp only [Bool.and_eq_true, Bool.not_eq_true'] at hk;refine ⟨_, ho, .inr (.inl ⟨hk.1.1.1, hk.1.1.2, fun g => .pointer (some ⟨g, 0, none⟩), t, cs, ⟨rfl, hn, ht, fun w => ?_⟩, fun g => k g _ (ha.put (Nat.le_of_ble_eq_true hk.2) _)⟩)⟩;rw [ha.exec hk.1.2];exact hr w
def Nw (w w' : World) (es : List En) : Prop := Below w.heap.size w w' /\ (∀ e ∈ es, e.F w' /\ ∀ b, e.S b -> w.heap.size <= b) /\ es.Pairwise Ap
theorem Nw.fr {w w' : World} {es E : List En} (h : Nw w w' es) (hf : Fr S0 w0 w E) : Fr S0 w0 w' (es ++ E) := by
 obtain ⟨hb, he, hp⟩ := h;induction es with
 | nil => exact hf.grow hb
 | cons e es ih =>
  have hp' := List.pairwise_cons.1 hp;have h1 := ih (fun x hx => he x (List.mem_cons_of_mem _ hx)) hp'.2;obtain ⟨h2, h3⟩ := he e (List.mem_cons_self ..);refine h1.cons h2 (fun e' he' => ?_) (fun b t cs hr => .inr (by subst hr; exact Nat.le_trans hf.size (h3 b rfl)));rcases List.mem_append.1 he' with he' | he'
  · exact hp'.1 e' he'
  · refine ⟨fun b t cs hr hs => ?_, fun b t cs hr hs => ?_⟩
    · subst hr;have := h3 b rfl; have := En.lt (hf.all e' he') b hs; omega
    · subst hr;have := h3 b hs; have := (hf.all _ he').1.lt; omega
theorem cG {α : Type} {mk : α -> Value} {ens : α -> List En} {f : FuncId} {args : Array Value} (c : ∀ w, Fr S0 w0 w (G ++ E) -> Calls P f args w fun e w' => ∃ p, e = .returned (mk p) /\ Nw w w' (ens p))
 (k : ∀ p, RWs ⟨P, ops, Q, S0, w0, E0, hd⟩ n l (ens p ++ G) E ((s, mk p) :: ls))
 (ho : ops[j]? = some ⟨some s, op, ty, pos, af, none⟩ := by rfl) (hk : (!z1G op && !z2C op && z5b ls op && Nat.blt s n) = true := by kernel_rfl)
 (hr : ∀ w, (execOp (evl ls) ⟨some s, op, ty, pos, af, none⟩).run P w = .ok (.enter f args) w := by intro w; (try simp only [av]); go_simp <;> with_reducible rfl) (hne : Nonempty α := by infer_instance)
 (hst : z67 ops hd j [] = true := by kernel_rfl) : RWs ⟨P, ops, Q, S0, w0, E0, hd⟩ n (j :: l) G E ls := fun a ha => by
 simp only [Bool.and_eq_true, Bool.not_eq_true'] at hk;refine ⟨_, ho, .inr (.inr ⟨hk.1.1.1, hk.1.1.2, α, mk, fun p => ens p ++ G, fun _ => E, [], hne, fun X w hw => ?_, hst, fun _ _ _ => rfl, fun p => k p _ (ha.put (Nat.le_of_ble_eq_true hk.2) _)⟩)⟩;refine ifw rfl ?_;show wpR P _ ((execOp a.eval _).run P w);rw [ha.exec hk.1.2, hr w];refine (c w (hw.sub (List.sublist_append_right ..))).mono ?_;rintro e w' ⟨p, rfl, hn⟩;refine ⟨_, rfl, p, rfl, (hn.fr hw).perm ?_⟩;rw [List.append_assoc];exact (List.perm_append_comm_assoc (ens p) X (G ++ E))
theorem cN {f : FuncId} {args : Array Value} {x : Int} (c : ∀ w, Fr S0 w0 w (G ++ E) -> Calls P f args w fun e w' => (∃ v, e = .returned v /\ z05 w' w.heap.size v x) /\ Below w.heap.size w w')
 (k : ∀ p : P4, RWs ⟨P, ops, Q, S0, w0, E0, hd⟩ n l (.own w0.heap.size (av p) x :: G) E ((s, .agg #[.bool p.1, .slice p.2.1 p.2.2.1 p.2.2.2]) :: ls))
 (ho : ops[j]? = some ⟨some s, op, ty, pos, af, none⟩ := by rfl) (hk : (!z1G op && !z2C op && z5b ls op && Nat.blt s n) = true := by kernel_rfl)
 (hr : ∀ w, (execOp (evl ls) ⟨some s, op, ty, pos, af, none⟩).run P w = .ok (.enter f args) w := by intro w; (try simp only [av]); go_simp <;> with_reducible rfl)
 (hst : z67 ops hd j [] = true := by kernel_rfl) : RWs ⟨P, ops, Q, S0, w0, E0, hd⟩ n (j :: l) G E ls := by
 refine cG (mk := av) (ens := fun p => [.own w0.heap.size (av p) x]) (fun w hw => (c w hw).mono ?_) k ho hk hr ⟨p0⟩ hst;rintro e w' ⟨⟨v, rfl, hv⟩, hb⟩;obtain ⟨b, ao, l', k', rfl⟩ := z05.parts hv;exact ⟨(b, ao, l', k'), rfl, hb, fun e he => by
  rcases List.mem_singleton.1 he with rfl;exact ⟨z05.mono hv hw.size, fun _ h => h.elim⟩, List.pairwise_singleton ..⟩
theorem cV {f : FuncId} {args : Array Value} (c : ∀ w, Fr S0 w0 w (G ++ E) -> Calls P f args w fun e w' => e = .returned v /\ Below w.heap.size w w')
 (k : RWs ⟨P, ops, Q, S0, w0, E0, hd⟩ n l G E ((s, v) :: ls))
 (ho : ops[j]? = some ⟨some s, op, ty, pos, af, none⟩ := by rfl) (hk : (!z1G op && !z2C op && z5b ls op && Nat.blt s n) = true := by kernel_rfl)
 (hr : ∀ w, (execOp (evl ls) ⟨some s, op, ty, pos, af, none⟩).run P w = .ok (.enter f args) w := by intro w; (try simp only [av]); go_simp <;> with_reducible rfl)
 (hst : z67 ops hd j [] = true := by kernel_rfl) : RWs ⟨P, ops, Q, S0, w0, E0, hd⟩ n (j :: l) G E ls := by
 refine cG (α := Unit) (mk := fun _ => v) (ens := fun _ => []) (fun w hw => (c w hw).mono ?_) (fun _ => k) ho hk hr ⟨()⟩ hst;rintro e w' ⟨rfl, hb⟩;exact ⟨(), rfl, hb, fun e he => (List.not_mem_nil he).elim, .nil⟩
theorem Up.left' {e e' : En} {i : Nat} {g g' : List En} (h : Up e e' i g g') (X l : List En) : ∃ m, (X ++ (g ++ l)).Perm (e :: m) /\ (X ++ (g' ++ l)).Perm (e' :: m) := by
 obtain ⟨m, h1, h2⟩ := h.left l;exact ⟨X ++ m, (h1.append_left X).trans List.perm_middle, (h2.append_left X).trans List.perm_middle⟩
theorem Up.right' {e e' : En} {i : Nat} {l l' : List En} (h : Up e e' i l l') (X g : List En) : ∃ m, (X ++ (g ++ l)).Perm (e :: m) /\ (X ++ (g ++ l')).Perm (e' :: m) := by
 obtain ⟨m, h1, h2⟩ := h.right g;exact ⟨X ++ m, (h1.append_left X).trans List.perm_middle, (h2.append_left X).trans List.perm_middle⟩
theorem sW {b k i : Nat} {t : TypeId} {cs us cs' : List Value} {ad x : Operand} {sty : TypeId} {E' : List En}
 (k' : RWs ⟨P, ops, Q, S0, w0, E0, hd⟩ n l G E' ls)
 (ho : ops[j]? = some ⟨none, .store sty ad x, ty, pos, af, none⟩ := by rfl) (hk : z5b ls (.store sty ad x) = true := by kernel_rfl)
 (ha : evl ls ad = .pointer (some ⟨b, k, none⟩) := by (simp only [z3k, Nat.reduceEqDiff, ↓reduceIte]) <;> rfl)
 (hv : (evl ls x).cells = us.toArray := by (simp only [z3k, Nat.reduceEqDiff, ↓reduceIte, av, Value.cells]) <;> rfl)
 (hE : Up (.row b t cs) (.row b t cs') i E E' := by repeat first | exact .z | apply Up.s)
 (hU : z5I cs k us = cs' := by first | ((simp only [cl, List.cons_append, List.nil_append, z5I, List.set_cons_zero, List.set_cons_succ, Nat.reduceAdd]) <;> rfl) | rfl)
 (hu : NoW us := by repeat (first | exact NoW.nil | apply NoW.bool | apply NoW.slice | apply NoW.i64 | apply NoW.ptr))
 (hr : ∀ w, z00 w b t cs -> (execOp (evl ls) ⟨none, .store sty ad x, ty, pos, af, none⟩).run P w = .ok .skip (stA w b k us) := by intro w h; have c := h.cell; have f := h.free; (try simp only [cl, List.cons_append, List.nil_append] at c); go_simp <;> rfl)
 (hst : z67 ops hd j [i] = true := by kernel_rfl) : RWs ⟨P, ops, Q, S0, w0, E0, hd⟩ n (j :: l) G E ls := fun a hA => by
 refine ⟨_, ho, .inr (.inr ⟨rfl, rfl, Unit, fun _ => undef, fun _ => G, fun _ => E', [i], ⟨()⟩, fun X w hw => ?_, hst, fun _ r hr => hE.other (by simpa using hr), fun _ => k' _ (hA.put0 _)⟩)⟩;subst hU;obtain ⟨m, h1, h2⟩ := hE.right' X G;have hrow := ((hw.perm h1).all _ (List.mem_cons_self ..)).1;refine ifw rfl ?_;show wpR P _ ((execOp a.eval _).run P w);rw [hA.exec (o := ⟨none, .store sty ad x, ty, pos, af, none⟩) hk, hr w hrow];exact ⟨(), rfl, hw.st us k hu h1 h2⟩
theorem sG {b k i : Nat} {t : TypeId} {cs us cs' : List Value} {ad x : Operand} {sty : TypeId} {G' : List En}
 (k' : RWs ⟨P, ops, Q, S0, w0, E0, hd⟩ n l G' E ls)
 (ho : ops[j]? = some ⟨none, .store sty ad x, ty, pos, af, none⟩ := by rfl) (hk : z5b ls (.store sty ad x) = true := by kernel_rfl)
 (ha : evl ls ad = .pointer (some ⟨b, k, none⟩) := by (simp only [z3k, Nat.reduceEqDiff, ↓reduceIte]) <;> rfl)
 (hv : (evl ls x).cells = us.toArray := by (simp only [z3k, Nat.reduceEqDiff, ↓reduceIte, av, Value.cells]) <;> rfl)
 (hE : Up (.row b t cs) (.row b t cs') i G G' := by repeat first | exact .z | apply Up.s)
 (hU : z5I cs k us = cs' := by first | ((simp only [cl, List.cons_append, List.nil_append, z5I, List.set_cons_zero, List.set_cons_succ, Nat.reduceAdd]) <;> rfl) | rfl)
 (hu : NoW us := by repeat (first | exact NoW.nil | apply NoW.bool | apply NoW.slice | apply NoW.i64 | apply NoW.ptr))
 (hr : ∀ w, z00 w b t cs -> (execOp (evl ls) ⟨none, .store sty ad x, ty, pos, af, none⟩).run P w = .ok .skip (stA w b k us) := by intro w h; have c := h.cell; have f := h.free; (try simp only [cl, List.cons_append, List.nil_append] at c); go_simp <;> rfl)
 (hst : z67 ops hd j [] = true := by kernel_rfl) : RWs ⟨P, ops, Q, S0, w0, E0, hd⟩ n (j :: l) G E ls := fun a hA => by
 refine ⟨_, ho, .inr (.inr ⟨rfl, rfl, Unit, fun _ => undef, fun _ => G', fun _ => E, [], ⟨()⟩, fun X w hw => ?_, hst, fun _ _ _ => rfl, fun _ => k' _ (hA.put0 _)⟩)⟩;subst hU;obtain ⟨m, h1, h2⟩ := hE.left' X E;have hrow := ((hw.perm h1).all _ (List.mem_cons_self ..)).1;refine ifw rfl ?_;show wpR P _ ((execOp a.eval _).run P w);rw [hA.exec (o := ⟨none, .store sty ad x, ty, pos, af, none⟩) hk, hr w hrow];exact ⟨(), rfl, hw.st us k hu h1 h2⟩
theorem eW {D : List En} (k : QW n S0 w0 Q .normal ls D) (hD : G ++ E = D := by (try simp only [List.cons_append, List.nil_append, z5I, List.set_cons_zero, List.set_cons_succ]); rfl) : RWs ⟨P, ops, Q, S0, w0, E0, hd⟩ n [] G E ls := fun a ha w hw => k a w ha (hD ▸ hw)
variable {es : List En} {Qx : Exit -> Act -> World -> Prop}
theorem rW {id m : Nat} {d : Bool} (hd : List (List Nat)) (k : RWs ⟨P, ops, Q, S0, w0, es, hd⟩ n (upF m 0) [] es ls) (hm : P.follows .mixedOrders = true := by kernel_rfl) (hn : ops.size = m := by rfl) (hok : z7S ops m = true := by kernel_rfl) : CW P n S0 w0 (.region id ops d) Q ls es :=
 fun a w ha hw => rgC ⟨P, ops, Q, S0, w0, es, hd⟩ hm hn hok hw (k a ha)
theorem seqW {x y : Code} (k : CW P n S0 w0 x (Exit.then (y.wp P Q) Q) ls es) : CW P n S0 w0 (.seq x y) Q ls es := fun a w ha hw => wp_seq (k a w ha hw)
theorem skipW (k : QW n S0 w0 Q .normal ls es) : CW P n S0 w0 .skip Q ls es := fun a w ha hw => wp_skip (k a w ha hw)
theorem retW (k : QW n S0 w0 Q .ret ls es) : CW P n S0 w0 .ret Q ls es := fun a w ha hw => wp_ret (k a w ha hw)
theorem exitW {id : Nat} (k : QW n S0 w0 Q (.exit id) ls es) : CW P n S0 w0 (.exit id) Q ls es := fun a w ha hw => wp_exit (k a w ha hw)
theorem blockW {id : Nat} {c : Code} (k : CW P n S0 w0 c (Exit.inBlock id Q) ls es) : CW P n S0 w0 (.block id c) Q ls es := fun a w ha hw => wp_block (k a w ha hw)
theorem nextW {y : Code} (k : CW P n S0 w0 y Q ls es) : QW n S0 w0 (Exit.then (y.wp P Q) Qx) .normal ls es := k
theorem thenR {K : Act -> World -> Prop} (k : QW n S0 w0 Q .ret ls es) : QW n S0 w0 (Exit.then K Q) .ret ls es := k
theorem inbN {id : Nat} (k : QW n S0 w0 Q .normal ls es) : QW n S0 w0 (Exit.inBlock id Q) .normal ls es := k
theorem goW {Z R : Prop} (k : R) (h : R -> Z := by
 intro k;repeat (first | refine seqW ?_ | refine skipW ?_ | refine nextW ?_ | refine blockW ?_ | refine exitW ?_ | refine retW ?_ | refine thenE ?_ | refine thenR ?_ | refine inbN ?_ | refine inbR ?_ | refine inbE ?_ | refine inbX (by decide) ?_)
 exact k) : Z := h k
theorem z7A {b : Bool} {c : Operand} {x y : Code} (h1 : b = true -> CW P n S0 w0 x Q ls es) (h2 : b = false -> CW P n S0 w0 y Q ls es) (hc : z3P ls c = true := by kernel_rfl) (hb : evl ls c = .bool b := by (simp only [z3k, Nat.reduceEqDiff, ↓reduceIte]) <;> rfl) : CW P n S0 w0 (.cond c x y) Q ls es :=
 fun a w ha hw => wp_cond_split (t := b) ((ha.ev hc).trans hb) (fun h => h1 h a w ha hw) (fun h => h2 h a w ha hw)
theorem ctW {c : Operand} {x y : Code} (k : CW P n S0 w0 x Q ls es) (hc : z3P ls c = true := by kernel_rfl) (hb : evl ls c = .bool true := by (simp only [z3k, Nat.reduceEqDiff, ↓reduceIte]) <;> first | rfl | simp [*]) : CW P n S0 w0 (.cond c x y) Q ls es :=
 z7A (b := true) (fun _ => k) (fun h => by cases h) hc hb
theorem cfW {c : Operand} {x y : Code} (k : CW P n S0 w0 y Q ls es) (hc : z3P ls c = true := by kernel_rfl) (hb : evl ls c = .bool false := by (simp only [z3k, Nat.reduceEqDiff, ↓reduceIte]) <;> first | rfl | simp [*]) : CW P n S0 w0 (.cond c x y) Q ls es :=
 z7A (b := false) (fun h => by cases h) (fun _ => k) hc hb
theorem loopW {X : Type} {c : Code} (I : X -> Prop) (m : X -> Nat) (lx : X -> List (Nat × Value)) (ex : X -> List En) (x0 : X) (h0 : I x0) 
 (round : ∀ x, I x -> CW P n S0 w0 c (Exit.then (fun a w => ∃ y, (I y /\ m y < m x) /\ Sl n (lx y) a /\ Fr S0 w0 w (ex y)) Q) (lx x) (ex x)) (hs : ∀ a, Sl n ls a -> Sl n (lx x0) a := by intro a h; refine h.sub ?_; simp [z3P, z3k]) (he : ∀ w, Fr S0 w0 w es -> Fr S0 w0 w (ex x0) := by intro w h; first | exact h | exact h.pick (by repeat (first | exact Pk.n | refine Pk.c (by repeat (first | exact Rm.z | apply Rm.s)) ?_))) : CW P n S0 w0 (.loop c) Q ls es := fun a w ha hw => by
 obtain ⟨μ, hμ⟩ := zbd (α := Act × World) (fun k p => ∃ x, I x /\ m x = k /\ Sl n (lx x) p.1 /\ Fr S0 w0 p.2 (ex x));refine wp_loop (fun a w => ∃ x, I x /\ Sl n (lx x) a /\ Fr S0 w0 w (ex x)) (fun a w => μ (a, w)) ⟨x0, h0, hs a ha, he w hw⟩ ?_;rintro a w ⟨x, hx, h1, h2⟩;obtain ⟨⟨x', hx', hm, h1', h2'⟩, hle⟩ := hμ (a, w) (m x) ⟨x, hx, rfl, h1, h2⟩;refine Code.wp_mono ?_ (round x' hx' a w h1' h2');intro e a2 w2 hq;cases e with
 | normal =>
  obtain ⟨y, ⟨hy, hlt⟩, h3, h4⟩ := hq;refine ⟨⟨y, hy, h3, h4⟩, Nat.lt_of_le_of_lt (hμ (a2, w2) (m y) ⟨y, hy, rfl, h3, h4⟩).2 ?_⟩;show m y < μ (a, w);rw [<- hm]; exact hlt
 | _ => exact hq
theorem backW {X : Type} {I : X -> Prop} {k : Nat} {m : X -> Nat} {lx : X -> List (Nat × Value)} {ex : X -> List En} (y : X) (h : I y /\ m y < k) (hs : ∀ a, Sl n ls a -> Sl n (lx y) a := by intro a h; refine h.sub ?_; simp [z3P, z3k]) (he : ∀ w, Fr S0 w0 w es -> Fr S0 w0 w (ex y) := by intro w h; first | exact h | exact h.pick (by repeat (first | exact Pk.n | refine Pk.c (by repeat (first | exact Rm.z | apply Rm.s)) ?_))) : QW n S0 w0 (Exit.then (fun a w => ∃ y, (I y /\ m y < k) /\ Sl n (lx y) a /\ Fr S0 w0 w (ex y)) Q) .normal ls es :=
 fun a w ha hw => ⟨y, h, hs a ha, he w hw⟩
theorem joinW {X : Type} {x y : Code} (I : X -> Prop) (lx : X -> List (Nat × Value)) (ex : X -> List En) (h1 : CW P n S0 w0 x (Exit.then (fun a w => ∃ z, I z /\ Sl n (lx z) a /\ Fr S0 w0 w (ex z)) Q) ls es) (h2 : ∀ z, I z -> CW P n S0 w0 y Q (lx z) (ex z)) : CW P n S0 w0 x (Exit.then (y.wp P Q) Q) ls es := fun a w ha hw => by
 refine Code.wp_mono ?_ (h1 a w ha hw);intro e a2 w2 hq;cases e with
 | normal =>
  obtain ⟨z, hz, h3, h4⟩ := hq;exact h2 z hz a2 w2 h3 h4
 | _ => exact hq
theorem z9f {X : Type} {I : X -> Prop} {lx : X -> List (Nat × Value)} {ex : X -> List En} (z : X) (h : I z) (hs : ∀ a, Sl n ls a -> Sl n (lx z) a := by intro a h; refine h.sub ?_; simp [z3P, z3k]) (he : ∀ w, Fr S0 w0 w es -> Fr S0 w0 w (ex z) := by intro w h; first | exact h | exact h.pick (by repeat (first | exact Pk.n | refine Pk.c (by repeat (first | exact Rm.z | apply Rm.s)) ?_))) : QW n S0 w0 (Exit.then (fun a w => ∃ z, I z /\ Sl n (lx z) a /\ Fr S0 w0 w (ex z)) Q) .normal ls es :=
 fun a w ha hw => ⟨z, h, hs a ha, he w hw⟩
def argL : Nat -> List Value -> List (Nat × Value)
 | _, [] => []
 | k, v :: l => (k, v) :: argL (k + 1) l
theorem z9w : ∀ (vs : List Value) (k : Nat) (p : Nat × Value), p ∈ argL k vs -> k <= p.1 /\ vs[p.1 - k]? = some p.2 /\ evl (argL k vs) (.tmp p.1) = p.2
 | [], _, _, h => by cases h
 | v :: vs, k, p, h => by
  unfold argL at h ⊢;rcases List.mem_cons.1 h with rfl | h
  · exact ⟨Nat.le_refl _, by simp, by rw [z3k.2.2.2, if_pos rfl]⟩
  · obtain ⟨h1, h2, h3⟩ := z9w vs (k + 1) p h;have hne : p.1 ≠ k := by omega
    refine ⟨by omega, ?_, by rw [z3k.2.2.2, if_neg hne]; exact h3⟩;rw [show p.1 - k = (p.1 - (k + 1)) + 1 by omega];simpa using h2
theorem funW {f : FuncId} {fn : Func} {c : Code} {vs : List Value} {w : World} {R : Ending -> World -> Prop} (hf : P.funcs[f]? = some fn) (H : Fr S0 w w es) (k : CW P fn.ntmps S0 w c (bodyPost P fn R) ls es) (hb : fn.body = some c := by rfl) (hl : argL 0 vs = ls := by (try simp only [argL, Nat.reduceAdd, av]); rfl) (hn : Nat.ble vs.length fn.ntmps = true := by kernel_rfl) : Calls P f vs.toArray w R := by
 have hn := Nat.le_of_ble_eq_true hn;subst hl;refine calls_of_wp hf hb (k _ w ⟨rfl, by simp; omega, fun p hp => ?_⟩ H);obtain ⟨_, h1, h2⟩ := z9w vs 0 p hp;rw [h2];have hlt := (List.getElem?_eq_some_iff.1 h1).1;rw [Nat.sub_zero] at h1 hlt;simp only [Array.getElem?_append, List.size_toArray, hlt, if_true, List.getElem?_toArray];exact h1
end
theorem Fr.below {w0 w : World} {es : List En} (h : Fr (fun _ => False) w0 w es) : Below w0.heap.size w0 w := h.bs.z2S (fun _ h => h.elim) (Nat.le_refl _)
theorem Fr.nil (S0 : Nat -> Prop) (w : World) : Fr S0 w w [] := ⟨Chg.refl _ _, fun _ h => (List.not_mem_nil h).elim, List.Pairwise.nil, fun _ _ _ h => (List.not_mem_nil h).elim⟩
theorem Fr.i {S0 : Nat -> Prop} {w0 w : World} {es : List En} (h : Fr S0 w0 w es) {L : Nat} {v : Value} {x : Int} (hx : z03 w L v x) : Fr S0 w0 w (.at L v x :: es) := h.pure hx (fun _ h => h)
def z8Y (P : Program) (ls : List (Nat × Value)) (w : World) (r : ResultVar) (v : Value) : Prop := match r with
 | .tmp t => z3P ls (.tmp t) = true /\ evl ls (.tmp t) = v
 | .cell t ty => z3P ls (.tmp t) = true /\ ∃ ad, evl ls (.tmp t) = .pointer (some ad) /\ (loadVar ty ad).run P w = .ok v w
section
variable {P : Program} {S0 : Nat -> Prop} {w0 : World} {n : Nat} {ls : List (Nat × Value)} {es : List En} {fn : Func} {R : Ending -> World -> Prop}
theorem z8Y.run {a : Act} {w : World} {r : ResultVar} {v : Value} (h : Sl n ls a) (hr : z8Y P ls w r v) : (∃ t, r = .tmp t /\ a.tmps[t]? = some v) ∨ ∃ t ty ad, r = .cell t ty /\ a.tmps[t]? = some (.pointer (some ad)) /\ (loadVar ty ad).run P w = .ok v w := by
 cases r with
 | tmp t => exact .inl ⟨t, rfl, (h.tmp hr.1).trans (by rw [hr.2])⟩
 | cell t ty =>
  obtain ⟨h1, ad, h2, h3⟩ := hr;exact .inr ⟨t, ty, ad, rfl, (h.tmp h1).trans (by rw [h2]), h3⟩
theorem fin2 {r r' : ResultVar} (k : ∀ w, Fr S0 w0 w es -> ∃ v v', z8Y P ls w r v /\ z8Y P ls w r' v' /\ R (.returned (.tuple #[v, v'])) w) (h : fn.results = #[r, r'] := by rfl) : QW n S0 w0 (bodyPost P fn R) .ret ls es := fun a w ha hw => by
 obtain ⟨v, v', h1, h2, hR⟩ := k w hw;refine bodyPost_ret (v := .tuple #[v, v']) ?_ ha.df hR;rcases h1.run ha with ⟨t, rfl, e⟩ | ⟨t, ty, ad, rfl, e, e'⟩ <;> rcases h2.run ha with ⟨t2, rfl, f⟩ | ⟨t2, ty2, ad2, rfl, f, f'⟩ <;> simp [results, h, asAddr, *]
theorem zaE {r r' r2 : ResultVar} (k : ∀ w, Fr S0 w0 w es -> ∃ v v' v2, z8Y P ls w r v /\ z8Y P ls w r' v' /\ z8Y P ls w r2 v2 /\ R (.returned (.tuple #[v, v', v2])) w) (h : fn.results = #[r, r', r2] := by rfl) : QW n S0 w0 (bodyPost P fn R) .ret ls es := fun a w ha hw => by
 obtain ⟨v, v', v2, h1, h2, h3, hR⟩ := k w hw;refine bodyPost_ret (v := .tuple #[v, v', v2]) ?_ ha.df hR;rcases h1.run ha with ⟨t, rfl, e⟩ | ⟨t, ty, ad, rfl, e, e'⟩ <;> rcases h2.run ha with ⟨t2, rfl, f⟩ | ⟨t2, ty2, ad2, rfl, f, f'⟩ <;> rcases h3.run ha with ⟨t3, rfl, g⟩ | ⟨t3, ty3, ad3, rfl, g, g'⟩ <;> simp [results, h, asAddr, *]
end
theorem rvI {ls : List (Nat × Value)} {w : World} {t b : Nat} {x y : Value} (h : z00 w b 45 [x, y] /\ NoW [x, y] /\ 45 ≠ 49) (h1 : z3P ls (.tmp t) = true := by kernel_rfl) (h2 : evl ls (.tmp t) = .pointer (some ⟨b, 0, none⟩) := by (simp only [z3k, Nat.reduceEqDiff, ↓reduceIte]) <;> rfl) : z8Y Tryz.prog ls w (.cell t 45) (.agg #[x, y]) :=
 ⟨h1, _, h2, run_loadVar_row w b 45 45 #[x, y] (0, 0) _ h.1 Tryz.underlying45 rfl (by kernel_rfl)⟩
theorem rvT {P : Program} {ls : List (Nat × Value)} {w : World} {t : Nat} {v : Value} (h1 : z3P ls (.tmp t) = true := by kernel_rfl) (h2 : evl ls (.tmp t) = v := by (simp only [z3k, Nat.reduceEqDiff, ↓reduceIte]) <;> rfl) : z8Y P ls w (.tmp t) v := ⟨h1, h2⟩
section
variable {P : Program} {ops : Array Oper} {Q : Exit -> Act -> World -> Prop} {S0 : Nat -> Prop} {w0 : World} {E0 : List En} {hd : List (List Nat)} {n j s : Nat} {l : List Nat} {G E : List En} {ls : List (Nat × Value)} {op : Op} {ty : TypeId} {pos : String} {af : Array Edge} {v : Value} {f : FuncId} {args : Array Value}
theorem cN1 {x : Int} {z : Value} (c : ∀ w, Fr S0 w0 w (G ++ E) -> Calls P f args w fun e w' => (∃ v, e = .returned (.tuple #[v, z]) /\ z05 w' w.heap.size v x) /\ Below w.heap.size w w')
 (k : ∀ p : P4, RWs ⟨P, ops, Q, S0, w0, E0, hd⟩ n l (.own w0.heap.size (av p) x :: G) E ((s, .tuple #[.agg #[.bool p.1, .slice p.2.1 p.2.2.1 p.2.2.2], z]) :: ls))
 (ho : ops[j]? = some ⟨some s, op, ty, pos, af, none⟩ := by rfl) (hk : (!z1G op && !z2C op && z5b ls op && Nat.blt s n) = true := by kernel_rfl)
 (hr : ∀ w, (execOp (evl ls) ⟨some s, op, ty, pos, af, none⟩).run P w = .ok (.enter f args) w := by intro w; (try simp only [av]); go_simp <;> with_reducible rfl)
 (hst : z67 ops hd j [] = true := by kernel_rfl) : RWs ⟨P, ops, Q, S0, w0, E0, hd⟩ n (j :: l) G E ls := by
 refine cG (mk := fun p => .tuple #[av p, z]) (ens := fun p => [.own w0.heap.size (av p) x]) (fun w hw => (c w hw).mono ?_) k ho hk hr ⟨p0⟩ hst;rintro e w' ⟨⟨v, rfl, hv⟩, hb⟩;obtain ⟨b, ao, l', k', rfl⟩ := z05.parts hv;exact ⟨(b, ao, l', k'), rfl, hb, fun e he => by
  rcases List.mem_singleton.1 he with rfl;exact ⟨z05.mono hv hw.size, fun _ h => h.elim⟩, List.pairwise_singleton ..⟩
theorem cN2 {x y : Int} {z : Value} (c : ∀ w, Fr S0 w0 w (G ++ E) -> Calls P f args w fun e w' => (∃ v v', e = .returned (.tuple #[v, v', z]) /\ z05 w' w.heap.size v x /\ z05 w' w.heap.size v' y) /\ Below w.heap.size w w')
 (k : ∀ p q : P4, RWs ⟨P, ops, Q, S0, w0, E0, hd⟩ n l (.own w0.heap.size (av p) x :: .own w0.heap.size (av q) y :: G) E ((s, .tuple #[.agg #[.bool p.1, .slice p.2.1 p.2.2.1 p.2.2.2], .agg #[.bool q.1, .slice q.2.1 q.2.2.1 q.2.2.2], z]) :: ls))
 (ho : ops[j]? = some ⟨some s, op, ty, pos, af, none⟩ := by rfl) (hk : (!z1G op && !z2C op && z5b ls op && Nat.blt s n) = true := by kernel_rfl)
 (hr : ∀ w, (execOp (evl ls) ⟨some s, op, ty, pos, af, none⟩).run P w = .ok (.enter f args) w := by intro w; (try simp only [av]); go_simp <;> with_reducible rfl)
 (hst : z67 ops hd j [] = true := by kernel_rfl) : RWs ⟨P, ops, Q, S0, w0, E0, hd⟩ n (j :: l) G E ls := by
 refine cG (α := P4 × P4) (mk := fun p => .tuple #[av p.1, av p.2, z]) (ens := fun p => [.own w0.heap.size (av p.1) x, .own w0.heap.size (av p.2) y]) (fun w hw => (c w hw).mono ?_) (fun p => k p.1 p.2) ho hk hr ⟨(p0, p0)⟩ hst;rintro e w' ⟨⟨v, v', rfl, hv, hv'⟩, hb⟩;obtain ⟨b, ao, l', k', rfl⟩ := z05.parts hv;obtain ⟨b2, ao2, l2, k2, rfl⟩ := z05.parts hv';exact ⟨((b, ao, l', k'), (b2, ao2, l2, k2)), rfl, hb, fun e he => by
  rcases List.mem_cons.1 he with rfl | he
  · exact ⟨z05.mono hv hw.size, fun _ h => h.elim⟩
  · rcases List.mem_singleton.1 he with rfl;exact ⟨z05.mono hv' hw.size, fun _ h => h.elim⟩, List.pairwise_cons.2 ⟨fun e he => by
    rcases List.mem_singleton.1 he with rfl;exact ⟨(fun _ _ _ h => nomatch h), (fun _ _ _ h => nomatch h)⟩, List.pairwise_singleton ..⟩⟩
end
section
variable {P : Program} {ops : Array Oper} {Q : Exit -> Act -> World -> Prop} {S0 : Nat -> Prop} {w0 : World} {E0 : List En} {hd : List (List Nat)} {n j s sg g : Nat} {l : List Nat} {G E : List En} {ls : List (Nat × Value)} {op : Op} {ty : TypeId} {pos : String} {af : Array Edge} {v : Value} {f : FuncId} {args : Array Value} {want : Bool}
theorem cNo {x : Int} (c : ∀ w, Fr S0 w0 w (G ++ E) -> Calls P f args w fun e w' => (∃ v, e = .returned v /\ z05 w' w0.heap.size v x) /\ Below w.heap.size w w')
 (k : ∀ p : P4, RWs ⟨P, ops, Q, S0, w0, E0, hd⟩ n l (.own w0.heap.size (av p) x :: G) E ((s, .agg #[.bool p.1, .slice p.2.1 p.2.2.1 p.2.2.2]) :: ls))
 (ho : ops[j]? = some ⟨some s, op, ty, pos, af, none⟩ := by rfl) (hk : (!z1G op && !z2C op && z5b ls op && Nat.blt s n) = true := by kernel_rfl)
 (hr : ∀ w, (execOp (evl ls) ⟨some s, op, ty, pos, af, none⟩).run P w = .ok (.enter f args) w := by intro w; (try simp only [av]); go_simp <;> with_reducible rfl)
 (hst : z67 ops hd j [] = true := by kernel_rfl) : RWs ⟨P, ops, Q, S0, w0, E0, hd⟩ n (j :: l) G E ls := by
 refine cG (mk := av) (ens := fun p => [.own w0.heap.size (av p) x]) (fun w hw => (c w hw).mono ?_) k ho hk hr ⟨p0⟩ hst;rintro e w' ⟨⟨v, rfl, hv⟩, hb⟩;obtain ⟨b, ao, l', k', rfl⟩ := z05.parts hv;exact ⟨(b, ao, l', k'), rfl, hb, fun e he => by
  rcases List.mem_singleton.1 he with rfl;exact ⟨hv, fun _ h => h.elim⟩, List.pairwise_singleton ..⟩
theorem z8l {a : Act} (ha : Sl n ls a) (hg : (ops[g]?).bind (·.dst) = some sg) (hi : z3P ls (.tmp sg) = true) {b : Bool} (hb : evl ls (.tmp sg) = .bool b) (d : Option Tmp) : Region.wanted ⟨d, op, ty, pos, af, some (g, want)⟩ (yielded ops a.tmps) = (b == want) := by
 unfold Region.wanted yielded;simp [hg, ha.tmp hi, hb]
theorem dG (k : RWs ⟨P, ops, Q, S0, w0, E0, []⟩ n l G E ((s, v) :: ls))
 (ho : ops[j]? = some ⟨some s, op, ty, pos, af, some (g, want)⟩ := by rfl) (hk : (z1G op && z5b ls op && Nat.blt s n) = true := by kernel_rfl)
 (hg : (ops[g]?).bind (·.dst) = some sg := by rfl) (hi : z3P ls (.tmp sg) = true := by kernel_rfl) (hb : evl ls (.tmp sg) = .bool want := by (simp only [z3k, Nat.reduceEqDiff, ↓reduceIte]) <;> first | rfl | simp [*])
 (hr : ∀ w, (isLd op = true -> Fr S0 w0 w E0) -> (execOp (evl ls) ⟨some s, op, ty, pos, af, some (g, want)⟩).run P w = .ok (.value v) w := by intro w H; (first | (have c := (H rfl).c; try simp only [celN, cl, List.cons_append, List.nil_append] at c) | skip); clear H; go_simp <;> with_reducible rfl) : RWs ⟨P, ops, Q, S0, w0, E0, []⟩ n (j :: l) G E ls := fun a ha => by
 simp only [Bool.and_eq_true] at hk;refine ⟨_, ho, .inl ⟨hk.1.1, v, fun w hw => .inl ⟨by rw [z8l ha hg hi hb]; simp, .inl ?_⟩, k _ (ha.put (Nat.le_of_ble_eq_true hk.2) v)⟩⟩;rw [ha.exec hk.1.2];exact hr w fun hl => by simpa [z5S] using hw hl
theorem uG (k : RWs ⟨P, ops, Q, S0, w0, E0, hd⟩ n l G E ((s, undef) :: ls))
 (ho : ops[j]? = some ⟨some s, op, ty, pos, af, some (g, want)⟩ := by rfl) (hk : (z1G op && Nat.blt s n) = true := by kernel_rfl)
 (hg : (ops[g]?).bind (·.dst) = some sg := by rfl) (hi : z3P ls (.tmp sg) = true := by kernel_rfl) (hb : evl ls (.tmp sg) = .bool (!want) := by (simp only [z3k, Nat.reduceEqDiff, ↓reduceIte]) <;> first | rfl | simp [*]) : RWs ⟨P, ops, Q, S0, w0, E0, hd⟩ n (j :: l) G E ls := fun a ha => by
 simp only [Bool.and_eq_true] at hk;exact ⟨_, ho, .inl ⟨hk.1, undef, fun w hw => .inr ⟨by rw [z8l ha hg hi hb]; simp, rfl⟩, k _ (ha.put (Nat.le_of_ble_eq_true hk.2) undef)⟩⟩
end
theorem zdc {a b : Bool} {m n : Nat} : zi (a != b) (m / n) = (zi a m).tdiv (zi b n) := by
 cases a <;> cases b <;> simp [zi, Int.ofNat_tdiv]
theorem zd0 {a b : Bool} {m n : Nat} : zi a (m % n) = (zi a m).tmod (zi b n) := by
 have h : ((m % n : Nat) : Int) = (m : Int).tmod (n : Int) := rfl;cases a <;> cases b <;> simp only [zi, h, Int.neg_tmod, Int.tmod_neg, if_true, Bool.false_eq_true, if_false]
theorem ofI_c {B m cap : Nat} {ao : Option Addr} (n : Bool) {w : World} (h : z16 w B ao (z04 m) cap (dig m)) : Calls Tryz.prog 115 #[.bool n, .slice ao (z04 m) cap] w fun e w' => (∃ v, e = .returned v /\ z05 w' B v (zi n m)) /\ Below w.heap.size w w' :=
 (z7F n _ _ _ w).mono fun e w' ⟨he, hb⟩ => ⟨⟨_, he, z05.mk n (h.below hb)⟩, hb⟩
set_option maxRecDepth 100000 in
set_option maxHeartbeats 1000000 in
theorem z7E (v u : Value) (x y : Int) (w : World) (hA : z03 w 17592186044415 v x) (hB : z03 w 17592186044415 u y) (hy : y ≠ 0) :
 Calls Tryz.prog 117 #[v, u] w fun e w' => (∃ v' u', e = .returned (.tuple #[v', u', .int .i64 0]) /\ z05 w' w.heap.size v' (x.tdiv y) /\ z05 w' w.heap.size u' (x.tmod y)) /\ Below w.heap.size w w' := by
 obtain ⟨n, ao, len, cap, ws, rfl, hW, hl, hL1, hc, hx⟩ := hA;obtain ⟨n2, ao2, len2, cap2, ws2, rfl, hW2, hl2, hL2, hc2, hx2⟩ := hB;have h2 : z01 ws2 ≠ 0 := fun h => hy (by rw [hx2, h]; cases n2 <;> rfl);rw [hx, hx2, <- zdc, <- zd0 (b := n2)];refine funW (S0 := fun _ => False) Tryz.func117 (Fr.nil _ w) ?_;refine goW ?_;refine rW [] ?_;refine aW fun g2 => ?_;refine aW fun g3 => ?_;refine aW fun g4 => ?_;refine aW fun g5 => ?_;refine dW ?_;refine eW ?_;refine goW ?_;refine rW [] ?_;refine dW ?_;refine dW ?_;refine dW ?_;refine dW ?_;refine cG (α := (Option Addr × Nat) × Option Addr × Nat) (mk := fun p => .tuple #[.slice p.1.1 (z04 (z01 ws / z01 ws2)) p.1.2, .slice p.2.1 (z04 (z01 ws % z01 ws2)) p.2.2, .int .i64 0]) (ens := fun p => [.ow w.heap.size p.1.1 (z01 ws / z01 ws2) p.1.2, .ow w.heap.size p.2.1 (z01 ws % z01 ws2) p.2.2])
  (fun w' H => (z9z ao ao2 len len2 cap cap2 ws ws2 w' (hW.below H.below) (hW2.below H.below) hl hl2 (by omega) (by omega) h2).mono ?_) ?_
 · rintro e w3 ⟨⟨aq, cq, ar, cr, rfl, h1, h3⟩, hb⟩;exact ⟨⟨(aq, cq), (ar, cr)⟩, rfl, hb, fun e he => by
    rcases List.mem_cons.1 he with rfl | he
    · exact ⟨h1.mono H.size, fun _ h => h.elim⟩
    · rcases List.mem_singleton.1 he with rfl;exact ⟨h3.mono H.size, fun _ h => h.elim⟩, List.pairwise_pair.2 ⟨(fun _ _ _ h => nomatch h), (fun _ _ _ h => nomatch h)⟩⟩
 rintro ⟨⟨aq, cq⟩, ar, cr⟩;refine dW ?_;refine dW ?_;refine dW ?_;refine dW ?_;refine dW ?_;refine dW ?_;refine dW ?_;refine eW ?_;refine goW ?_;refine rW [] ?_;refine dW ?_;refine dW ?_;refine eW ?_;refine goW ?_;refine cfW ?_;refine goW ?_;refine rW [] ?_;refine dW ?_;refine dW ?_;refine dW ?_;refine dW ?_;refine dW ?_;refine dW ?_;refine cNo (fun w' H => ofI_c (!(n == n2)) H.m0) fun p1 => ?_;refine dW ?_;refine dW ?_;refine dW ?_;refine cNo (fun w' H => ofI_c n H.m2) fun p2 => ?_;refine sW ?_;refine sW ?_;refine dW ?_;refine eW ?_;refine goW ?_;refine zaE fun w' H => ?_;exact ⟨_, _, _, rvI H.m5, rvI H.m4, rvT, ⟨_, _, rfl, H.m1, H.m0⟩, H.below⟩
theorem z5e {n : Bool} {m : Nat} (h : zi n m ≠ 0) : n = decide (zi n m < 0) := by
 unfold zi at *; cases n <;> simp at * <;> omega
theorem z5a {x y : Int} (hy : y ≠ 0) (h : x.tmod y = 0 ∨ (decide (x.tmod y < 0)) = decide (y < 0)) : x.fdiv y = x.tdiv y /\ x.fmod y = x.tmod y := by
 have hx := Int.emod_nonneg x hy;have hl := Int.emod_lt x hy;rw [Int.fdiv_eq_ediv, Int.tdiv_eq_ediv, Int.fmod_eq_emod, Int.tmod_eq_emod];rw [Int.tmod_eq_emod] at h;by_cases hd : y ∣ x
 · simp [hd]
 · have h0 : x % y ≠ 0 := fun e => hd (Int.dvd_of_emod_eq_zero e);simp only [hd, or_false] at h ⊢;rcases Int.lt_or_gt_of_ne hy with hy' | hy'
   · have hs : y.sign = -1 := Int.sign_eq_neg_one_of_neg hy';by_cases h0x : 0 <= x
     · simp [h0x, hy', Int.not_le.2 hy'] at h ⊢; omega
     · simp [h0x, hy', Int.not_le.2 hy', hs] at h ⊢; omega
   · have hs : y.sign = 1 := Int.sign_eq_one_of_pos hy';by_cases h0x : 0 <= x
     · simp [h0x, Int.le_of_lt hy'] at h ⊢
     · simp [h0x, hs, Int.le_of_lt hy'] at h ⊢; omega
theorem z6n {x y : Int} (hy : y ≠ 0) (h : x.tmod y ≠ 0) (h2 : ¬ (decide (x.tmod y < 0)) = decide (y < 0)) : x.fdiv y = x.tdiv y - 1 /\ x.fmod y = x.tmod y + y := by
 have hx := Int.emod_nonneg x hy;have hl := Int.emod_lt x hy;rw [Int.fdiv_eq_ediv, Int.tdiv_eq_ediv, Int.fmod_eq_emod, Int.tmod_eq_emod];rw [Int.tmod_eq_emod] at h h2;by_cases hd : y ∣ x
 · have : x % y = 0 := Int.emod_eq_zero_of_dvd hd;simp [hd, this] at h
 · have h0 : x % y ≠ 0 := fun e => hd (Int.dvd_of_emod_eq_zero e);simp only [hd, or_false] at h h2 ⊢;rcases Int.lt_or_gt_of_ne hy with hy' | hy'
   · have hs : y.sign = -1 := Int.sign_eq_neg_one_of_neg hy';by_cases h0x : 0 <= x
     · simp [h0x, hy', Int.not_le.2 hy'] at h h2 ⊢
     · simp [h0x, hy', Int.not_le.2 hy', hs] at h h2 ⊢; omega
   · have hs : y.sign = 1 := Int.sign_eq_one_of_pos hy';by_cases h0x : 0 <= x
     · simp [h0x, Int.le_of_lt hy'] at h h2 ⊢; omega
     · simp [h0x, hs, Int.le_of_lt hy'] at h h2 ⊢; omega
theorem zc1 : z04 (1 : Int).natAbs <= 17592186044415 := Nat.le_trans (z0a (k := 1) (by decide)) (by omega)
def z8R (p : P4) (x : Int) : Prop := p.1 = decide (x < 0) /\ p.2.2.1 = z04 x.natAbs
theorem z05.zcZ {w : World} {B : Nat} {v : Value} {x : Int} (h : z05 w B v x) : ∃ p : P4, v = av p /\ z8R p x := by
 obtain ⟨ao, cap, rfl, _⟩ := h; exact ⟨(_, _, _, _), rfl, rfl, rfl⟩
theorem z8R.ex (x : Int) : ∃ p : P4, z8R p x := ⟨(_, none, _, 0), rfl, rfl⟩
section
variable {P : Program} {ops : Array Oper} {Q : Exit -> Act -> World -> Prop} {S0 : Nat -> Prop} {w0 : World} {E0 : List En} {hd : List (List Nat)} {n j s : Nat} {l : List Nat} {G E : List En} {ls : List (Nat × Value)} {op : Op} {ty : TypeId} {pos : String} {af : Array Edge} {f : FuncId} {args : Array Value}
theorem cN2h {x y : Int} {z : Value} (c : ∀ w, Fr S0 w0 w (G ++ E) -> Calls P f args w fun e w' => (∃ v v', e = .returned (.tuple #[v, v', z]) /\ z05 w' w.heap.size v x /\ z05 w' w.heap.size v' y) /\ Below w.heap.size w w')
 (k : ∀ p q : P4, z8R p x -> z8R q y -> RWs ⟨P, ops, Q, S0, w0, E0, hd⟩ n l (.own w0.heap.size (av p) x :: .own w0.heap.size (av q) y :: G) E ((s, .tuple #[.agg #[.bool p.1, .slice p.2.1 p.2.2.1 p.2.2.2], .agg #[.bool q.1, .slice q.2.1 q.2.2.1 q.2.2.2], z]) :: ls))
 (ho : ops[j]? = some ⟨some s, op, ty, pos, af, none⟩ := by rfl) (hk : (!z1G op && !z2C op && z5b ls op && Nat.blt s n) = true := by kernel_rfl)
 (hr : ∀ w, (execOp (evl ls) ⟨some s, op, ty, pos, af, none⟩).run P w = .ok (.enter f args) w := by intro w; (try simp only [av]); go_simp <;> with_reducible rfl)
 (hst : z67 ops hd j [] = true := by kernel_rfl) : RWs ⟨P, ops, Q, S0, w0, E0, hd⟩ n (j :: l) G E ls := by
 refine cG (α := {p : P4 × P4 // z8R p.1 x /\ z8R p.2 y}) (mk := fun p => .tuple #[av p.1.1, av p.1.2, z]) (ens := fun p => [.own w0.heap.size (av p.1.1) x, .own w0.heap.size (av p.1.2) y]) (fun w hw => (c w hw).mono ?_) (fun p => k p.1.1 p.1.2 p.2.1 p.2.2) ho hk hr (by obtain ⟨a, ha⟩ := z8R.ex x; obtain ⟨b, hb⟩ := z8R.ex y; exact ⟨⟨(a, b), ha, hb⟩⟩) hst;rintro e w' ⟨⟨v, v', rfl, hv, hv'⟩, hb⟩;obtain ⟨p, rfl, hp⟩ := hv.zcZ;obtain ⟨q, rfl, hq⟩ := hv'.zcZ;exact ⟨⟨(p, q), hp, hq⟩, rfl, hb, fun e he => by
  rcases List.mem_cons.1 he with rfl | he
  · exact ⟨z05.mono hv hw.size, fun _ h => h.elim⟩
  · rcases List.mem_singleton.1 he with rfl;exact ⟨z05.mono hv' hw.size, fun _ h => h.elim⟩, List.pairwise_pair.2 ⟨(fun _ _ _ h => nomatch h), (fun _ _ _ h => nomatch h)⟩⟩
end
theorem z8K {w : World} {B : Nat} {v : Value} (h : z05 w B v 1) : z03 w 17592186044415 v 1 := z05.int h zc1
set_option maxRecDepth 100000 in
set_option maxHeartbeats 8000000 in
theorem z9v (v u : Value) (x y : Int) (w : World) (hA : z03 w 17592186044415 v x) (hB : z03 w 17592186044415 u y) (hy : y ≠ 0) :
 Calls Tryz.prog 70 #[v, u] w fun e w' => (∃ v' u', e = .returned (.tuple #[v', u', .int .i64 0]) /\ z05 w' w.heap.size v' (x.fdiv y) /\ z05 w' w.heap.size u' (x.fmod y)) /\ Below w.heap.size w w' := by
 have hlx := hA.z04;obtain ⟨p, rfl⟩ := hA.parts;obtain ⟨q, rfl⟩ := hB.parts;have hq : q.1 = decide (y < 0) := by
  obtain ⟨n, ao, len, cap, ws, e, _, _, _, _, hx⟩ := hB;cases e;rw [hx]; exact z5e (by rw [<- hx]; exact hy)
 have bt : z04 (x.tdiv y).natAbs <= 17592186044415 := Nat.le_trans (z0p (by rw [Int.natAbs_tdiv]; exact Nat.div_le_self ..)) hlx;have br : z04 (x.tmod y).natAbs <= 17592186044415 := Nat.le_trans (z0p (by rw [Int.natAbs_tmod]; exact Nat.mod_le ..)) hlx;refine funW (S0 := fun _ => False) Tryz.func70 (((Fr.nil _ w).i hB).i hA) ?_;refine goW ?_;refine rW [] ?_;refine aW fun g2 => ?_;refine aW fun g3 => ?_;refine aW fun g4 => ?_;refine aW fun g5 => ?_;refine dW ?_;refine eW ?_;refine goW ?_;refine rW [] ?_;refine dW ?_;refine dW ?_;refine cN2h (fun w H => z7E _ _ x y w H.m4 H.m5 hy) fun s r hs hr => ?_;refine dW ?_;refine dW ?_;refine dW ?_;refine dW ?_;refine aW fun g7 => ?_;refine aW fun g8 => ?_;refine sG ?_;refine sG ?_;refine dW ?_;refine eW ?_;refine nextW (seqW (joinW (X := (P4 × P4) × Int × Int) (fun z => x.fdiv y = z.2.1 /\ x.fmod y = z.2.2) (fun _ => [(9, .int .i64 0), (7, .pointer (some ⟨g7, 0, none⟩)), (8, .pointer (some ⟨g8, 0, none⟩)), (4, .pointer (some ⟨g4, 0, none⟩)), (5, .pointer (some ⟨g5, 0, none⟩))]) (fun z => [.row g8 45 (cl z.1.2), .row g7 45 (cl z.1.1), .own w.heap.size (av z.1.1) z.2.1, .own w.heap.size (av z.1.2) z.2.2, .row g5 45 (cl p0), .row g4 45 (cl p0)]) ?_ fun z hz => ?_))
 · by_cases h0 : x.tmod y = 0
   · have e : r.2.2.1 = 0 := by rw [hr.2, h0]; exact z1g
     refine goW ?_;refine rW [] ?_;refine dW ?_;refine dW ?_;refine dW ?_;refine dG ?_;refine dG ?_;refine dG ?_;refine dG ?_;refine dW ?_;refine dW ?_;refine uG ?_;refine uG ?_;refine uG ?_;refine uG ?_;refine uG ?_;refine dW ?_;refine eW ?_;refine goW ?_;refine cfW ?_;refine goW ?_;exact z9f ((s, r), x.tdiv y, x.tmod y) (z5a hy (.inl h0))
   · have e : 0 < r.2.2.1 := by
      rw [hr.2];exact Nat.pos_of_ne_zero fun e => h0 (by have := z1b.1 e; omega)
     refine goW ?_;refine rW [] ?_;refine dW ?_;refine dW ?_;refine dW ?_;refine dG ?_;refine dG ?_;refine dG ?_;refine dG ?_;refine dW ?_;refine dW ?_;refine dG ?_;refine dG ?_;refine dG ?_;refine dG ?_;refine dG ?_;refine dW ?_;refine eW ?_;refine goW ?_;refine z7A (fun h => ?_) (fun h => ?_)
     · have hf := z6n hy h0 (by rw [<- hr.1]; simpa using h);refine goW ?_;refine rW [] ?_;refine dW ?_;refine cN (fun w H => z6W 1 w (by omega) (by omega)) fun p1 => ?_;refine cN (fun w H => z7q _ _ _ _ w (z05.int H.m3 bt) (z8K H.m0)) fun p2 => ?_;refine sW ?_;refine eW ?_;refine goW ?_;refine rW [] ?_;refine dW ?_;refine dW ?_;refine cN (fun w H => z7t _ _ _ _ w (z05.int H.m5 br) H.m11) fun p3 => ?_;refine sW ?_;refine eW ?_;refine goW ?_;exact z9f ((p2, p3), x.tdiv y - 1, x.tmod y + y) hf
     · refine goW ?_;exact z9f ((s, r), x.tdiv y, x.tmod y) (z5a hy (.inr (by rw [<- hr.1]; simpa using h)))
 · rw [hz.1, hz.2];refine goW ?_;refine rW [[], [5], [4, 5]] ?_;refine dH ?_;refine dH ?_;refine dH ?_;refine sW ?_;refine sW ?_;refine dH ?_;refine eW ?_;refine goW ?_;refine zaE fun w' H => ?_;exact ⟨_, _, _, rvI H.m5, rvI H.m4, rvT, ⟨_, _, rfl, H.m2, H.m3⟩, H.below⟩
theorem z9M {x y : Int} (hy : y ≠ 0) (h : ¬ x.tmod y < 0) : x / y = x.tdiv y /\ x % y = x.tmod y := by
 have hx := Int.emod_nonneg x hy;have hl := Int.emod_lt x hy;rw [Int.tdiv_eq_ediv, Int.tmod_eq_emod];rw [Int.tmod_eq_emod] at h;by_cases hd : y ∣ x
 · simp [hd]
 · by_cases h0x : 0 <= x
   · simp [h0x]
   · simp only [hd, h0x, or_self, if_false] at h;omega
theorem zam {x y : Int} (hy : y ≠ 0) (h : x.tmod y < 0) : (y < 0 -> x / y = x.tdiv y + 1 /\ x % y = x.tmod y - y) /\ (¬ y < 0 -> x / y = x.tdiv y - 1 /\ x % y = x.tmod y + y) := by
 have hx := Int.emod_nonneg x hy;rw [Int.tdiv_eq_ediv, Int.tmod_eq_emod];rw [Int.tmod_eq_emod] at h;by_cases hd : y ∣ x
 · simp [hd] at h; omega
 · by_cases h0x : 0 <= x
   · simp [h0x] at h; omega
   · simp only [hd, h0x, or_self, if_false];refine ⟨fun h0 => ?_, fun h0 => ?_⟩
     · rw [Int.sign_eq_neg_one_of_neg h0]; omega
     · rw [Int.sign_eq_one_of_pos (by omega)]; omega
set_option maxRecDepth 100000 in
set_option maxHeartbeats 8000000 in
theorem zbq (v u : Value) (x y : Int) (w : World) (hA : z03 w 17592186044415 v x) (hB : z03 w 17592186044415 u y) (hy : y ≠ 0) :
 Calls Tryz.prog 209 #[v, u] w fun e w' => (∃ v' u', e = .returned (.tuple #[v', u', .int .i64 0]) /\ z05 w' w.heap.size v' (x / y) /\ z05 w' w.heap.size u' (x % y)) /\ Below w.heap.size w w' := by
 have hlx := hA.z04;obtain ⟨p, rfl⟩ := hA.parts;obtain ⟨q, rfl⟩ := hB.parts;have hq : q.1 = decide (y < 0) := by
  obtain ⟨n, ao, len, cap, ws, e, _, _, _, _, hx⟩ := hB;cases e;rw [hx]; exact z5e (by rw [<- hx]; exact hy)
 have bt : z04 (x.tdiv y).natAbs <= 17592186044415 := Nat.le_trans (z0p (by rw [Int.natAbs_tdiv]; exact Nat.div_le_self ..)) hlx;have br : z04 (x.tmod y).natAbs <= 17592186044415 := Nat.le_trans (z0p (by rw [Int.natAbs_tmod]; exact Nat.mod_le ..)) hlx;refine funW (S0 := fun _ => False) Tryz.func209 (((Fr.nil _ w).i hB).i hA) ?_;refine goW ?_;refine rW [] ?_;refine aW fun g2 => ?_;refine aW fun g3 => ?_;refine aW fun g4 => ?_;refine aW fun g5 => ?_;refine dW ?_;refine eW ?_;refine goW ?_;refine rW [] ?_;refine dW ?_;refine dW ?_;refine cN2h (fun w H => z7E _ _ x y w H.m4 H.m5 hy) fun s r hs hr => ?_;refine dW ?_;refine dW ?_;refine dW ?_;refine dW ?_;refine aW fun g7 => ?_;refine aW fun g8 => ?_;refine sG ?_;refine sG ?_;refine dW ?_;refine eW ?_;have he := zam (x := x) hy;by_cases h0 : x.tmod y < 0
 · have e : r.1 = true := by rw [hr.1]; simpa using h0
   refine goW ?_;refine rW [] ?_;refine dW ?_;refine dW ?_;refine dW ?_;refine dG ?_;refine dG ?_;refine dG ?_;refine dW ?_;refine eW ?_;refine goW ?_;refine cfW ?_;refine goW ?_;refine rW [] ?_;refine dW ?_;refine dW ?_;refine eW ?_;refine goW ?_;refine z7A (fun h => ?_) (fun h => ?_)
   · have hf := (he h0).1 (by simpa [hq] using h);rw [hf.1, hf.2];refine goW ?_;refine rW [[], [], [], [5], [5]] ?_;refine dH ?_;refine cN (fun w H => z6W 1 w (by omega) (by omega)) fun p1 => ?_;refine cN (fun w H => z7t _ _ _ _ w (z05.int H.m3 bt) (z8K H.m0)) fun p2 => ?_;refine dH ?_;refine dH ?_;refine cN (fun w H => z7q _ _ _ _ w (z05.int H.m5 br) H.m11) fun p3 => ?_;refine sW ?_;refine sW ?_;refine dH ?_;refine eW ?_;refine goW ?_;refine zaE fun w' H => ?_;exact ⟨_, _, _, rvI H.m8, rvI H.m7, rvT, ⟨_, _, rfl, H.m1, H.m0⟩, H.below⟩
   · have hf := (he h0).2 (by simpa [hq] using h);rw [hf.1, hf.2];refine goW ?_;refine rW [[], [], [], [5], [5]] ?_;refine dH ?_;refine cN (fun w H => z6W 1 w (by omega) (by omega)) fun p1 => ?_;refine cN (fun w H => z7q _ _ _ _ w (z05.int H.m3 bt) (z8K H.m0)) fun p2 => ?_;refine dH ?_;refine dH ?_;refine cN (fun w H => z7t _ _ _ _ w (z05.int H.m5 br) H.m11) fun p3 => ?_;refine sW ?_;refine sW ?_;refine dH ?_;refine eW ?_;refine goW ?_;refine zaE fun w' H => ?_;exact ⟨_, _, _, rvI H.m8, rvI H.m7, rvT, ⟨_, _, rfl, H.m1, H.m0⟩, H.below⟩
 · obtain ⟨r1, r2⟩ := r;obtain rfl : r1 = false := hr.1.trans (by simpa using h0);have hf := z9M hy h0;rw [hf.1, hf.2];refine goW ?_;refine rW [] ?_;refine dW ?_;refine dW ?_;refine dW ?_;refine dG ?_;refine dG ?_;refine dG ?_;refine dW ?_;refine eW ?_;refine goW ?_;refine ctW ?_;refine goW ?_;refine rW [[], [5], [4, 5]] ?_;refine dH ?_;refine dH ?_;refine dH ?_;refine sW ?_;refine sW ?_;refine dH ?_;refine eW ?_;refine goW ?_;refine zaE fun w' H => ?_;exact ⟨_, _, _, rvI H.m5, rvI H.m4, rvT, ⟨_, _, rfl, H.m2, H.m3⟩, H.below⟩
set_option maxRecDepth 100000 in
set_option maxHeartbeats 8000000 in
theorem IMod_c (v u : Value) (x y : Int) (w : World) (hA : z03 w 17592186044415 v x) (hB : z03 w 17592186044415 u y) (hy : y ≠ 0) :
 Calls Tryz.prog 194 #[v, u] w fun e w' => (∃ u', e = .returned (.tuple #[u', .int .i64 0]) /\ z05 w' w.heap.size u' (x % y)) /\ Below w.heap.size w w' := by
 obtain ⟨p, rfl⟩ := hA.parts;obtain ⟨q, rfl⟩ := hB.parts;refine funW (S0 := fun _ => False) Tryz.func194 (((Fr.nil _ w).i hB).i hA) ?_;refine goW ?_;refine rW [] ?_;refine aW fun g2 => ?_;refine aW fun g3 => ?_;refine aW fun g4 => ?_;refine dW ?_;refine eW ?_;refine goW ?_;refine rW [] ?_;refine dW ?_;refine dW ?_;refine cN2 (fun w H => zbq _ _ x y w H.m3 H.m4 hy) fun s r => ?_;refine dW ?_;refine dW ?_;refine dW ?_;refine dW ?_;refine aW fun g6 => ?_;refine aW fun g7 => ?_;refine sG ?_;refine sG ?_;refine dW ?_;refine eW ?_;refine goW ?_;refine rW [] ?_;refine dW ?_;refine dW ?_;refine sW ?_;refine dW ?_;refine eW ?_;refine goW ?_;refine fin2 fun w' H => ?_;exact ⟨_, _, rvI H.m4, rvT, ⟨_, rfl, H.m3⟩, H.below⟩
def z5R (x y : Int) : Int := if x < y then -1 else if x = y then 0 else 1
theorem z4p (x : Int) : z0o x = -1 ∨ z0o x = 0 ∨ z0o x = 1 := by
 unfold z0o; split
 · exact .inl rfl
 · split
   · exact .inr (.inl rfl)
   · exact .inr (.inr rfl)
theorem zdx {x y : Int} (h : z0o x = z0o y) : z5R x y = z0o x * z1k x.natAbs y.natAbs := by
 unfold z0o at *; unfold z5R z1k; (repeat' split at h) <;> (repeat' split) <;> omega
theorem wrap_small {a : Int} (h1 : -9223372036854775808 <= a) (h2 : a <= 9223372036854775807) : IntKind.i64.wrap a = a := IntWalk.i64_in _ (by omega)
end Go.Proofs.YtknkkceioockjaaGreat
namespace Go.Proofs.YtknkkceioockjaaGreat
structure z6A (A : Nat) (b : Int) (r0 r1 : Nat) (m0 m1 : Int) : Prop where
 c0 : b ∣ (r0 : Int) - m0 * A
 c1 : b ∣ (r1 : Int) - m1 * A
 g : Nat.gcd r0 r1 = Nat.gcd A b.natAbs
 s : (0 <= m0 /\ m1 <= 0) ∨ (m0 <= 0 /\ 0 <= m1)
 d : r0 * m1.natAbs + r1 * m0.natAbs = b.natAbs
 k0 : m0.natAbs <= b.natAbs
 k1 : m1.natAbs <= b.natAbs
theorem z6A.start (A : Nat) {b : Int} (hb : b ≠ 0) : z6A A b A b.natAbs 1 0 := by
 refine ⟨by simp, ?_, rfl, .inl ⟨by omega, by omega⟩, by simp, by omega, by simp⟩;rw [Int.zero_mul, Int.sub_zero];exact Int.dvd_natAbs.2 (Int.dvd_refl b)
theorem z74 {m0 m1 : Int} (q : Nat) (s : (0 <= m0 /\ m1 <= 0) ∨ (m0 <= 0 /\ 0 <= m1)) : (m0 - (q : Int) * m1).natAbs = m0.natAbs + q * m1.natAbs := by
 rcases s with ⟨h0, h1⟩ | ⟨h0, h1⟩
 · obtain ⟨a, rfl⟩ := Int.eq_ofNat_of_zero_le h0;obtain ⟨c, hc⟩ := Int.eq_ofNat_of_zero_le (Int.neg_nonneg_of_nonpos h1);obtain rfl : m1 = -(c : Int) := by omega
   rw [Int.mul_neg, Int.sub_neg, <- Int.natCast_mul];simp only [Int.natAbs_neg, Int.natAbs_natCast];omega
 · obtain ⟨c, rfl⟩ := Int.eq_ofNat_of_zero_le h1;obtain ⟨a, ha⟩ := Int.eq_ofNat_of_zero_le (Int.neg_nonneg_of_nonpos h0);obtain rfl : m0 = -(a : Int) := by omega
   rw [<- Int.natCast_mul];simp only [Int.natAbs_neg, Int.natAbs_natCast];omega
theorem z6A.step {A : Nat} {b : Int} {r0 r1 : Nat} {m0 m1 : Int} (h : z6A A b r0 r1 m0 m1) (hr : r1 ≠ 0) : z6A A b r1 (r0 % r1) m1 (m0 - ((r0 / r1 : Nat) : Int) * m1) := by
 have hd := Nat.div_add_mod r0 r1;have hn := z74 (r0 / r1) h.s;have hD : r1 * (m0 - ((r0 / r1 : Nat) : Int) * m1).natAbs + (r0 % r1) * m1.natAbs = b.natAbs := by
  rw [hn, <- h.d];have : r0 * m1.natAbs = r1 * (r0 / r1) * m1.natAbs + r0 % r1 * m1.natAbs := by rw [<- Nat.add_mul, hd]
  rw [this, Nat.mul_add, Nat.mul_assoc];omega
 refine ⟨h.c1, ?_, ?_, ?_, hD, h.k1, ?_⟩
 · have e : ((r0 % r1 : Nat) : Int) = (r0 : Int) - (r1 : Int) * ((r0 / r1 : Nat) : Int) := by
    have : (r0 : Int) = ((r1 * (r0 / r1) + r0 % r1 : Nat) : Int) := by rw [hd]
    rw [this]; push_cast; omega
   rw [e];have := Int.dvd_sub h.c0 (Int.dvd_mul_of_dvd_left (c := ((r0 / r1 : Nat) : Int)) h.c1);have e2 : (r0 : Int) - (r1 : Int) * ((r0 / r1 : Nat) : Int) - (m0 - ((r0 / r1 : Nat) : Int) * m1) * A = (r0 : Int) - m0 * A - ((r1 : Int) - m1 * A) * ((r0 / r1 : Nat) : Int) := by
    generalize ((r0 / r1 : Nat) : Int) = q;rw [Int.sub_mul, Int.sub_mul, Int.mul_comm q m1, Int.mul_assoc m1 q, Int.mul_comm q, <- Int.mul_assoc];omega
   rw [e2]; exact this
 · rw [<- h.g, Nat.gcd_comm, Nat.gcd_comm r0 r1, Nat.gcd_rec r1 r0]
 · rcases h.s with ⟨h0, h1⟩ | ⟨h0, h1⟩
   · refine .inr ⟨h1, ?_⟩;have := Int.mul_nonpos_of_nonneg_of_nonpos (Int.natCast_nonneg (r0 / r1)) h1;omega
   · refine .inl ⟨h1, ?_⟩;have := Int.mul_nonneg (Int.natCast_nonneg (r0 / r1)) h1;omega
 · have : 1 * (m0 - ((r0 / r1 : Nat) : Int) * m1).natAbs <= r1 * (m0 - ((r0 / r1 : Nat) : Int) * m1).natAbs := Nat.mul_le_mul_right _ (by omega);omega
def z2B (a b g x y : Int) : Prop :=
 if b = 0 then g = a.natAbs /\ x = a.sign /\ y = 0
 else g = Int.gcd a b /\ 0 <= x /\ x * g < b.natAbs /\ a * x + b * y = g
theorem z6A.done {a b : Int} {r0 : Nat} {m0 m1 : Int} (hb : b ≠ 0) (h : z6A a.natAbs b r0 0 m0 m1) : (r0 : Int) = Int.gcd a b /\ b ∣ (r0 : Int) - (if a < 0 then -m0 else m0) * a := by
 refine ⟨?_, ?_⟩
 · have := h.g; rw [Nat.gcd_zero_right] at this; rw [this]; rfl
 · have := h.c0;have e : (if a < 0 then -m0 else m0) * a = m0 * (a.natAbs : Int) := by
    split
    · have : (a.natAbs : Int) = -a := by omega
      rw [this, Int.neg_mul, Int.mul_neg]
    · have : (a.natAbs : Int) = a := by omega
      rw [this]
   rw [e]; exact this
theorem z9b {a b g m : Int} (hb : b ≠ 0) (hg : g = Int.gcd a b) (hm : b ∣ g - m * a) : g ∣ b /\ b / g ≠ 0 /\ b ∣ g - a * (m % (b / g)) /\ z2B a b g (m % (b / g)) ((g - a * (m % (b / g))) / b) := by
 have hgb : g ∣ b := hg ▸ Int.gcd_dvd_right ..;have hga : g ∣ a := hg ▸ Int.gcd_dvd_left ..;obtain ⟨c, hc⟩ := hgb;obtain ⟨e, he⟩ := hga;have hg0 : g ≠ 0 := fun h => hb (by rw [hc, h, Int.zero_mul]);have hgp : 0 < g := by rw [hg] at hg0 ⊢; omega
 have hq : b / g = c := by rw [hc]; exact Int.mul_ediv_cancel_left _ hg0
 have hc0 : c ≠ 0 := fun h => hb (by rw [hc, h, Int.mul_zero]);rw [hq];have hdv : b ∣ g - a * (m % c) := by
  have h1 : g - a * (m % c) = (g - m * a) + b * (e * (m / c)) := by
   have hm' := Int.emod_add_mul_ediv m c;have : m % c = m - c * (m / c) := by omega
   rw [this, he, hc];simp only [Int.mul_sub, Int.mul_assoc, Int.mul_comm, Int.mul_left_comm];omega
  rw [h1];exact Int.dvd_add hm (Int.dvd_mul_right ..)
 refine ⟨⟨c, hc⟩, hc0, hdv, ?_⟩;unfold z2B;rw [if_neg hb];refine ⟨hg, Int.emod_nonneg _ hc0, ?_, ?_⟩
 · have h2 : (b.natAbs : Int) = c.natAbs * g := by
    rw [hc, Int.natAbs_mul, Int.natCast_mul, Int.natAbs_of_nonneg (Int.le_of_lt hgp), Int.mul_comm]
   rw [h2];have h3 : m % c < (c.natAbs : Int) := Int.emod_lt m hc0;exact Int.mul_lt_mul_of_pos_right h3 hgp
 · obtain ⟨d, hd⟩ := hdv;rw [hd, Int.mul_ediv_cancel_left _ hb];omega
end Go.Proofs.YtknkkceioockjaaGreat
namespace Go.Proofs.YtknkkceioockjaaGreat
open Go.RowKit
def AV.int2 (B : Nat) (x y : Int) : AV := AV.free (fun w v => ∃ b ao l k b' ao' l' k', v = .agg #[.bool b, .slice ao l k, .bool b', .slice ao' l' k'] /\ z05 w B (.agg #[.bool b, .slice ao l k]) x /\ z05 w B (.agg #[.bool b', .slice ao' l' k']) y) (fun ⟨b, ao, l, k, b', ao', l', k', e, h, h'⟩ hb => ⟨b, ao, l, k, b', ao', l', k', e, z05.below h hb, z05.below h' hb⟩) (fun ⟨b, ao, l, k, b', ao', l', k', e, h, h'⟩ hr _ ht j u _ => ⟨b, ao, l, k, b', ao', l', k', e, z05.setRow h hr ht j u, z05.setRow h' hr ht j u⟩)
theorem zav (x : Int) : z0o x = x.sign := by
 unfold z0o;rcases Int.lt_trichotomy x 0 with h | h | h
 · rw [if_pos h, Int.sign_eq_neg_one_of_neg h]
 · subst h; rfl
 · rw [if_neg (by omega), if_neg (by omega), Int.sign_eq_one_of_pos h]
theorem za4 (a : Int) : z2B a 0 ((a.natAbs : Nat) : Int) (z0o a) 0 := by
 unfold z2B;rw [if_pos rfl];exact ⟨rfl, zav a, rfl⟩
theorem z13 {x : Int} : (z0o x = 0) ↔ x = 0 := by
 unfold z0o; split
 · constructor <;> intro h <;> omega
 · split <;> constructor <;> intro h <;> omega
theorem z2V {ps : List P4} {tl : List Value} (n : NoW tl) : NoW (flat ps ++ tl) := NoW.append (z9L ps) n
theorem z8W (ps : List P4) {tl : List Value} (n : NoW tl) (i : Nat) (p : P4) : ∃ tl', NoW tl' /\ ((flat ps ++ tl).set (i * 2) (.bool p.1)).set (i * 2 + 1) (.slice p.2.1 p.2.2.1 p.2.2.2) = flat (ps.set i p) ++ tl' := by
 by_cases h : i < ps.length
 · refine ⟨tl, n, ?_⟩;have hl := z1E ps;rw [List.set_append_left _ _ (by omega), List.set_append_left _ _ (by rw [List.length_set]; omega), z9Q]
 · refine ⟨(tl.set (i * 2 - (flat ps).length) (.bool p.1)).set (i * 2 + 1 - (flat ps).length) (.slice p.2.1 p.2.2.1 p.2.2.2), (n.setB _ _).setS _ _ _ _, ?_⟩;have hl := z1E ps;have e : ps.set i p = ps := List.set_eq_of_length_le (by omega);rw [List.set_append_right _ _ (by omega), List.set_append_right _ _ (by omega), e]
def z0c (w : World) (b : Nat) (xs : List Int) : Prop := ∃ (ps : List P4) (tl : List Value), NoW tl /\ z00 w b 45 (flat ps ++ tl) /\ ps.length = xs.length /\ ∀ i (h : i < ps.length) (h' : i < xs.length), z0n w (av ps[i]) xs[i]
theorem z0c.of {w : World} {b : Nat} {xs : List Int} {ps : List P4} (h : z00 w b 45 (flat ps)) (hl : ps.length = xs.length) (hn : ∀ i (h : i < ps.length) (h' : i < xs.length), z0n w (av ps[i]) xs[i]) : z0c w b xs := ⟨ps, [], NoW.nil, by rw [List.append_nil]; exact h, hl, hn⟩
theorem z0c.lt {w : World} {b : Nat} {xs : List Int} (h : z0c w b xs) : b < w.heap.size := by
 obtain ⟨ps, tl, nt, hr, _⟩ := h; exact hr.lt
theorem z0c.below {w w' : World} {b : Nat} {xs : List Int} (h : z0c w b xs) (hb : Below w.heap.size w w') : z0c w' b xs := by
 obtain ⟨ps, tl, nt, hr, hl, hn⟩ := h;exact ⟨ps, tl, nt, hr.below hb hr.lt, hl, fun i h1 h2 => (hn i h1 h2).below hb⟩
theorem z0c.other {w : World} {b g : Nat} {xs : List Int} (h : z0c w b xs) (hne : b ≠ g) {t : TypeId} {cs : List Value} (hr : z00 w g t cs) (hn : NoW cs) (i : Nat) (u : Value) : z0c (w.setCell ⟨g, i, none⟩ u) b xs := by
 obtain ⟨ps, tl, nt, hr', hl, hn'⟩ := h;exact ⟨ps, tl, nt, hr'.other hne u, hl, fun j h1 h2 => (hn' j h1 h2).setRow hr hn i u⟩
theorem z0c.get {w : World} {b : Nat} {xs : List Int} (h : z0c w b xs) {i : Nat} (hi : i < xs.length) : ∃ p : P4, w.cell? ⟨b, i * 2, none⟩ = some (.bool p.1) /\ w.cell? ⟨b, i * 2 + 1, none⟩ = some (.slice p.2.1 p.2.2.1 p.2.2.2) /\ z0n w (av p) xs[i] := by
 obtain ⟨ps, tl, nt, hr, hl, hn⟩ := h;have hi' : i < ps.length := by omega
 have hf := z1E ps;exact ⟨ps[i], by rw [hr.cell, List.getElem?_append_left (by omega)]; exact z60 ps i hi', by rw [hr.cell, List.getElem?_append_left (by omega)]; exact z61 ps i hi', hn i hi' hi⟩
theorem z0c.free {w : World} {b : Nat} {xs : List Int} (h : z0c w b xs) (i : Nat) : w.frozen? ⟨b, i, none⟩ = false := by
 obtain ⟨ps, tl, nt, hr, _⟩ := h; exact hr.free i
theorem z0c.set {w : World} {b : Nat} {xs : List Int} (h : z0c w b xs) (i : Nat) {p : P4} {x : Int} (hx : z0n w (av p) x) : z0c ((w.setCell ⟨b, i * 2, none⟩ (.bool p.1)).setCell ⟨b, i * 2 + 1, none⟩ (.slice p.2.1 p.2.2.1 p.2.2.2)) b (xs.set i x) := by
 obtain ⟨ps, tl, nt, hr, hl, hn⟩ := h;have h1 := hr.set (i * 2) (.bool p.1);have hn0 : NoW (flat ps ++ tl) := z2V nt;have hn1 := hn0.setB (i * 2) p.1;have h2 := h1.set (i * 2 + 1) (.slice p.2.1 p.2.2.1 p.2.2.2);obtain ⟨tl', nt', e⟩ := z8W ps nt i p;rw [e] at h2;refine ⟨ps.set i p, tl', nt', h2, by simp [hl], fun j hj hj' => ?_⟩;rw [List.getElem_set, List.getElem_set];split
 · exact (hx.setRow hr hn0 _ _).setRow h1 hn1 _ _
 · exact ((hn j (by simpa using hj) (by simpa using hj')).setRow hr hn0 _ _).setRow h1 hn1 _ _
theorem z0c.z1J {w : World} {b : Nat} {xs : List Int} (h : z0c w b xs) {L : Nat} {v : Value} {x : Int} (hx : z03 w L v x) (i : Nat) (p : P4) : z03 ((w.setCell ⟨b, i * 2, none⟩ (.bool p.1)).setCell ⟨b, i * 2 + 1, none⟩ (.slice p.2.1 p.2.2.1 p.2.2.2)) L v x := by
 obtain ⟨ps, tl, nt, hr, hl, hn⟩ := h;exact (hx.setRow hr (z2V nt) _ _).setRow (hr.set _ _) ((z2V nt).setB _ _) _ _
theorem z0c.z8A {w : World} {b : Nat} {xs : List Int} (h : z0c w b xs) {b' : Nat} {ys : List Int} (hy : z0c w b' ys) (hne : b' ≠ b) (i : Nat) (p : P4) : z0c ((w.setCell ⟨b, i * 2, none⟩ (.bool p.1)).setCell ⟨b, i * 2 + 1, none⟩ (.slice p.2.1 p.2.2.1 p.2.2.2)) b' ys := by
 obtain ⟨ps, tl, nt, hr, hl, hn⟩ := h;exact (hy.other hne hr (z2V nt) _ _).other hne (hr.set _ _) ((z2V nt).setB _ _) _ _
def lead : List Int -> Nat
 | [] => 0
 | x :: xs => if x = 0 then lead xs + 1 else 0
theorem z8M : ∀ xs : List Int, lead xs <= xs.length
 | [] => Nat.le_refl _
 | x :: xs => by
  unfold lead; split
  · have := z8M xs; simp; omega
  · simp
theorem zb2 : ∀ (xs : List Int) (k : Nat) (h : k < xs.length), (∀ i (h' : i < k), xs[i]'(by omega) = 0) -> xs[k] ≠ 0 -> lead xs = k
 | x :: xs, 0, _, _, hn => by unfold lead; rw [if_neg]; simpa using hn
 | x :: xs, k + 1, h, hz, hn => by
  have h0 : x = 0 := hz 0 (by omega);unfold lead; rw [if_pos h0, zb2 xs k (by simpa using h) (fun i hi => by have := hz (i + 1) (by omega); simpa using this) (by simpa using hn)]
theorem z9K : ∀ (xs : List Int), (∀ i (h : i < xs.length), xs[i] = 0) -> lead xs = xs.length
 | [], _ => rfl
 | x :: xs, hz => by
  have h0 : x = 0 := hz 0 (by simp);unfold lead; rw [if_pos h0, z9K xs (fun i hi => by have := hz (i + 1) (by simpa using hi); simpa using this)]; rfl
set_option maxRecDepth 100000 in
set_option maxHeartbeats 4000000 in
theorem z5T (b cap : Nat) (xs : List Int) (w : World) (hR : z0c w b xs) (hL : ∀ x ∈ xs, z04 x.natAbs <= 17592186044415) (hlen : xs.length <= 9223372036854775807) :
 Calls Tryz.prog 46 #[.slice (some ⟨b, 0, none⟩) xs.length cap] w fun e w' => e = .returned (.int .i64 (lead xs : Nat)) /\ Below w.heap.size w w' := by
 have HL := Lib.hid hL; clear hL;have HR := Lib.hid hR; clear hR;go_enter Tryz.func46, Tryz.ntmps46;go_wp2;go_loopw [7] (fun i wr => ∃ k : Nat, k <= xs.length /\ i = .int .i64 (k : Int) /\ Hid (∀ j (h : j < k) (h' : j < xs.length), xs[j] = 0) /\ Below w.heap.size w wr) (fun i _ => xs.length - (intOf i).toNat)
 case atStart => exact ⟨0, Nat.zero_le _, rfl, fun j h => by omega, Below.refl _ _⟩
 case round =>
  obtain ⟨k, hk, rfl, hz, hb⟩ := hrel;by_cases hkl : k < xs.length
  · have hR2 := HR.out.below hb;obtain ⟨p, hc0, hc1, hn⟩ := hR2.get hkl;have hkl' : (k : Int) < (xs.length : Int) := by omega
    have HN := Lib.hid hn;clear hn;go_wp2_with fail
    have hb1 : Below wr.heap.size wr (wr.alloc (.cells #[.bool p.fst, .slice p.snd.fst p.snd.snd.fst p.snd.snd.snd] 45)) := (Below.refl _ _).alloc (Nat.le_refl _) _;refine (z2H (av p) xs[k] _ ((HN.out.int (HL.out _ (List.getElem_mem hkl))).below hb1)).mono ?_;rintro e w2 ⟨rfl, hb2⟩;have hb3 : Below w.heap.size w w2 := hb.trans ((hb1.trans (hb2.mono hb1.size)).mono hb.size);have HB3 := Lib.hid hb3;clear hb1 hb2 hb3 hc0 hc1;by_cases h0 : xs[k] = 0
    · have hz0 : z0o xs[k] = 0 := z13.2 h0;rw [hz0];have H0 := Lib.hid h0;clear h0 hz0;go_wp2;go_roundw
      case rel => exact ⟨k + 1, by omega, by go_num, Lib.hid (fun j hj hj' => (Nat.lt_succ_iff_lt_or_eq.1 hj).elim (fun h => hz.out j h hj') (fun h => by subst h; exact H0.out)), HB3.out⟩
      case measure => simp [intOf]; omega
    · have hn0 : ¬ z0o xs[k] = 0 := fun h => h0 (z13.1 h);have hle := zb2 xs k hkl (fun i h' => hz.out i h' (by omega)) h0;have HLE := Lib.hid hle;obtain ⟨s, hs⟩ : ∃ s, z0o xs[k] = s := ⟨_, rfl⟩;rw [hs] at hn0 ⊢;have hb0 : (s != 0) = true := by simpa using hn0
      clear h0 hle hs;go_wp2;go_ret;rw [HLE.out];exact ⟨rfl, HB3.out⟩
  · obtain rfl : k = xs.length := by omega
    have hle := z9K xs (fun i h => hz.out i h h);have HLE := Lib.hid hle;clear hle;go_wp2;go_ret;rw [HLE.out];exact ⟨rfl, hb⟩
theorem Chg.z9N {S : Nat -> Prop} {w w' : World} (h : Chg S w w') (hS : z15 S w) {b : Nat} {xs : List Int} (hx : z0c w b xs) (hb : ¬ S b) : z0c w' b xs := by
 obtain ⟨ps, tl, nt, hr, hl, hn⟩ := hx;exact ⟨ps, tl, nt, h.row hr hb, hl, fun i h1 h2 => h.num hS (hn i h1 h2)⟩
theorem z0c.z1d {w : World} {b : Nat} {xs : List Int} (h : z0c w b xs) : z15 (· = b) w := by
 rintro g rfl;obtain ⟨ps, tl, nt, hr, _⟩ := h;exact ⟨_, _, hr, z2V nt⟩
def z2w (k : Int) (xs ys : List Int) : List Int := List.zipWith (fun x y => k * y + x) xs ys
def z3N (k : Int) (xs ys cu : List Int) (m : Nat) : Prop := cu.length = xs.length /\ (∀ j (h : j < cu.length) (h1 : j < xs.length) (h2 : j < ys.length), j < m -> cu[j] = k * ys[j] + xs[j]) /\ (∀ j (h : j < cu.length) (h1 : j < xs.length), m <= j -> cu[j] = xs[j])
theorem z3N.start (k : Int) (xs ys : List Int) : z3N k xs ys xs 0 := ⟨rfl, fun _ _ _ _ h => by omega, fun _ _ _ _ => rfl⟩
theorem z3N.next {k : Int} {xs ys cu : List Int} {m : Nat} (h : z3N k xs ys cu m) (hm : m < xs.length) (hl : xs.length = ys.length) : z3N k xs ys (cu.set m (k * ys[m] + xs[m])) (m + 1) := by
 obtain ⟨h1, h2, h3⟩ := h;refine ⟨by simpa using h1, fun j hj hx hy hjm => ?_, fun j hj hx hjm => ?_⟩
 · rw [List.getElem_set];split
   · rename_i e; subst e; rfl
   · exact h2 j (by simpa using hj) hx hy (by omega)
 · rw [List.getElem_set, if_neg (by omega)];exact h3 j (by simpa using hj) hx (by omega)
theorem z3N.skip {k : Int} {xs ys cu : List Int} {m : Nat} (h : z3N k xs ys cu m) (hm : m < xs.length) (hl : xs.length = ys.length) (h0 : ys[m] = 0) : z3N k xs ys cu (m + 1) := by
 obtain ⟨h1, h2, h3⟩ := h;refine ⟨h1, fun j hj hx hy hjm => ?_, fun j hj hx hjm => h3 j hj hx (by omega)⟩;by_cases e : j = m
 · subst e; rw [h3 j hj hx (Nat.le_refl _), h0]; simp
 · exact h2 j hj hx hy (by omega)
theorem z3N.all {k : Int} {xs ys cu : List Int} (h : z3N k xs ys cu xs.length) (hl : xs.length = ys.length) : cu = z2w k xs ys := by
 obtain ⟨h1, h2, h3⟩ := h;refine List.ext_getElem (by simp [z2w, h1, <- hl]) fun j hj hj' => ?_;rw [h2 j hj (by omega) (by omega) (by omega)];simp [z2w]
set_option maxRecDepth 100000 in
set_option maxHeartbeats 4000000 in
theorem zcj (bx by_ cx cy LA LB : Nat) (xs ys : List Int) (kv : Value) (k : Int) (w : World) (hX : z0c w bx xs) (hY : z0c w by_ ys) (hK : z03 w LA kv k) (hne : bx ≠ by_) (hl : xs.length = ys.length)
 (hxL : ∀ x ∈ xs, z04 x.natAbs <= 17592186044415) (hyL : ∀ y ∈ ys, z04 y.natAbs <= LB) (hLab : LA + LB <= 17592186044415) (hlen : xs.length <= 4611686018427387903) :
 Calls Tryz.prog 108 #[.slice (some ⟨bx, 0, none⟩) xs.length cx, .slice (some ⟨by_, 0, none⟩) ys.length cy, kv] w fun e w' => e = .returned (.tuple #[]) /\ z0c w' bx (z2w k xs ys) /\ Chg (· = bx) w w' := by
 obtain ⟨kp, rfl⟩ := hK.parts;have HX := Lib.hid hX; clear hX;have HY := Lib.hid hY; clear hY;have HK := Lib.hid hK; clear hK;have HXL := Lib.hid hxL; clear hxL;have HYL := Lib.hid hyL; clear hyL;have Hl := Lib.hid hl; clear hl;go_enter Tryz.func108, Tryz.ntmps108;unfold av at *;go_wp2;have hb1 : Below w.heap.size w (w.alloc (.cells #[.bool kp.1, .slice kp.2.1 kp.2.2.1 kp.2.2.2] 45)) := (Below.refl _ _).alloc (Nat.le_refl _) _;have hr1 := z00.new w #[.bool kp.1, .slice kp.2.1 kp.2.2.1 kp.2.2.2] 45;generalize w.alloc (.cells #[.bool kp.1, .slice kp.2.1 kp.2.2.1 kp.2.2.2] 45) = w1 at *;have HB1 := Lib.hid (Chg.z0K (S := (· = bx)) hb1);have HX1 := Lib.hid (HX.out.below hb1);have HY1 := Lib.hid (HY.out.below hb1);have HK1 := Lib.hid (HK.out.below hb1);have HR1 := Lib.hid hr1;have hs1 : w.heap.size < w1.heap.size := hr1.lt;have hbx := HX.out.lt;have hby := HY.out.lt;clear hr1 hb1;go_loopw [9] (fun i wr => ∃ (m : Nat) (cu : List Int), m <= xs.length /\ i = .int .i64 (m : Int) /\ Hid (z3N k xs ys cu m) /\ Hid (z0c wr bx cu) /\ Hid (z0c wr by_ ys) /\ Hid (z00 wr w.heap.size 45 [.bool kp.1, .slice kp.2.1 kp.2.2.1 kp.2.2.2]) /\ Hid (z03 wr LA (av kp) k) /\ Hid (Chg (· = bx) w wr)) (fun i _ => xs.length - (intOf i).toNat)
 case atStart => exact ⟨0, xs, Nat.zero_le _, rfl, z3N.start .., HX1, HY1, HR1, HK1, HB1⟩
 case round =>
  obtain ⟨m, cu, hm, rfl, HA, hX, hY, hR, hK, hC⟩ := hrel;by_cases hml : m < xs.length
  · have hmy : m < ys.length := by have := Hl.out; omega
    have hmx : m < cu.length := by rw [HA.out.1]; exact hml
    have hm1 : (m : Int) < (ys.length : Int) := by omega
    have hm2 : (m : Int) < (xs.length : Int) := by omega
    obtain ⟨py, cy0, cy1, hny⟩ := hY.out.get hmy;have Hny := Lib.hid hny; clear hny;go_wp2_with fail
    refine (z2H (av py) ys[m] _ (Hny.out.int (by have := HYL.out _ (List.getElem_mem hmy); omega))).mono ?_;rintro e w2 ⟨rfl, hb2⟩;clear cy0 cy1;have X2 := Lib.hid (hX.out.below hb2);have Y2 := Lib.hid (hY.out.below hb2);have R2 := Lib.hid (hR.out.below hb2 hR.out.lt);have K2 := Lib.hid (hK.out.below hb2);have C2 := Lib.hid (hC.out.below hb2);have N2 := Lib.hid (Hny.out.below hb2);have hsw := hC.out.size;have hsw2 := hb2.size;have hswr := hR.out.lt;clear hX hY hR hK hC Hny hb2;by_cases h0 : ys[m] = 0
    · have hz0 : z0o ys[m] = 0 := z13.2 h0;rw [hz0];have H0 := Lib.hid h0;clear h0 hz0;go_wp2;go_roundw
      case rel => exact ⟨m + 1, cu, by omega, by go_num, HA.out.skip hml Hl.out H0.out, X2, Y2, R2, K2, C2⟩
      case measure => simp [intOf]; omega
    · have hn0 : ¬ z0o ys[m] = 0 := fun h => h0 (z13.1 h);obtain ⟨s, hs⟩ : ∃ s, z0o ys[m] = s := ⟨_, rfl⟩;rw [hs] at hn0 ⊢;have hb0 : (s != 0) = true := by simpa using hn0
      clear h0 hs;go_wp2;clear hb0 hn0;obtain ⟨px, cx0, cx1, hnx⟩ := X2.out.get hmx;obtain ⟨py, cy0, cy1, hny⟩ := Y2.out.get hmy;have ck0 : w2.cell? ⟨w.heap.size, 0, none⟩ = some (.bool kp.1) := R2.out.cell 0;have ck1 : w2.cell? ⟨w.heap.size, 1, none⟩ = some (.slice kp.2.1 kp.2.2.1 kp.2.2.2) := R2.out.cell 1;have hbx2 := X2.out.lt;have hby2 := Y2.out.lt;have hsk2 := R2.out.lt;have hxe : cu[m] = xs[m] := HA.out.2.2 m hmx hml (Nat.le_refl _);have hxw : z04 (cu[m]).natAbs <= 17592186044415 := by rw [hxe]; exact HXL.out _ (List.getElem_mem hml)
      have hyw : z04 (ys[m]).natAbs <= LB := HYL.out _ (List.getElem_mem hmy);have HXE := Lib.hid hxe; clear hxe;have Hnx := Lib.hid (hnx.int hxw); clear hnx;have Hny := Lib.hid (hny.int hyw); clear hny;clear N2;refine z0M ⟨13, fun q_ => [18, 19, 20, 21, 22, 23, 24, 25, 26, 27, 28, 29, 30].getD q_ 0,
       fun q_ => [.val (.slice (some ⟨bx, 0, none⟩) xs.length cx), .val (.int .i64 (m : Int)), .val (.agg #[.bool kp.1, .slice kp.2.1 kp.2.2.1 kp.2.2.2]), .val (.slice (some ⟨by_, 0, none⟩) ys.length cy), .val (.int .i64 (m : Int)), .val (.pointer (some ⟨by_, m * 2, none⟩)), .val (.agg #[.bool py.1, .slice py.2.1 py.2.2.1 py.2.2.2]), .val (.slice (some ⟨bx, 0, none⟩) xs.length cx), .val (.int .i64 (m : Int)), .val (.pointer (some ⟨bx, m * 2, none⟩)), .val (.agg #[.bool px.1, .slice px.2.1 px.2.2.1 px.2.2.2]), .int 0 (k * ys[m] + cu[m]), .val (.pointer (some ⟨bx, m * 2, none⟩))].getD q_ .any,
       [],
       [(.agg #[.bool kp.1, .slice kp.2.1 kp.2.2.1 kp.2.2.2], .at_ LA k), (.agg #[.bool py.1, .slice py.2.1 py.2.2.1 py.2.2.2], .at_ LB ys[m]), (.agg #[.bool px.1, .slice px.2.1 px.2.2.1 px.2.2.2], .at_ 17592186044415 cu[m])],
       [],
       [], [(⟨w.heap.size, 0, none⟩, .bool kp.1), (⟨w.heap.size, 1, none⟩, .slice kp.2.1 kp.2.2.1 kp.2.2.2), (⟨by_, m * 2, none⟩, .bool py.1), (⟨by_, m * 2 + 1, none⟩, .slice py.2.1 py.2.2.1 py.2.2.2), (⟨bx, m * 2, none⟩, .bool px.1), (⟨bx, m * 2 + 1, none⟩, .slice px.2.1 px.2.2.1 px.2.2.2)], []⟩ [18, 19, 20, 21, 22, 23, 24, 25, 26, 27, 28, 29, 30] (w2.heap.size) (by kernel_rfl) (by kernel_rfl) (by kernel_rfl) (by kernel_rfl) (by kernel_rfl) ?_ ?_ ?_ ?_ ?_ ?_
      · exact z0q (K2.out) (z0q (Hny.out) (z0q (Hnx.out) z0h))
      · exact z0h
      · exact z0q (⟨ck0, by dsimp only; omega, z0h⟩) (z0q (⟨ck1, by dsimp only; omega, z0h⟩) (z0q (⟨cy0, by dsimp only; omega, z0h⟩) (z0q (⟨cy1, by dsimp only; omega, z0h⟩) (z0q (⟨cx0, by dsimp only; omega, z0h⟩) (z0q (⟨cx1, by dsimp only; omega, z0h⟩) z0h)))))
      · exact z0h
      · refine z02 ?_ (z02 ?_ (z02 ?_ (z02 ?_ (z02 ?_ (z02 ?_ (z02 ?_ (z02 ?_ (z02 ?_ (z02 ?_ (z02 ?_ (z02 ?_ (z02 ?_ z2v))))))))))));any_goals (first | (intro L fx w' hJ hL hp hcl; have _ := hp0 hp (by decide +kernel); refine wps rfl fun K hK => ?_; go_simp; exact hJ.q hK (by kernel_rfl) rfl) | fail)
        · intro L fx w' hJ hL hp hcl;refine wps rfl fun K hK => ?_;have cl0 := (hJ.cells _ mm0).1;have cl1 := (hJ.cells _ mm1).1;try dsimp only at cl0 cl1
          go_simp;exact hJ.q hK (by kernel_rfl) rfl
        · intro L fx w' hJ hL hp hcl;have e3 := hJ.pt 3 21 (.slice (some ⟨by_, 0, none⟩) ys.length cy) rfl rfl rfl (hp 3 (by decide));rw [e3] at hJ ⊢; clear e3;have e4 := hJ.pt 4 22 (.int .i64 (m : Int)) rfl rfl rfl (hp 4 (by decide));rw [e4] at hJ ⊢; clear e4;refine wps rfl fun K hK => ?_;go_simp;exact hJ.q hK (by kernel_rfl) rfl
        · intro L fx w' hJ hL hp hcl;have e5 := hJ.pt 5 23 (.pointer (some ⟨by_, m * 2, none⟩)) rfl rfl rfl (hp 5 (by decide));rw [e5] at hJ ⊢; clear e5;refine wps rfl fun K hK => ?_;have cl0 := (hJ.cells _ mm2).1;have cl1 := (hJ.cells _ mm3).1;try dsimp only at cl0 cl1
          go_simp;exact hJ.q hK (by kernel_rfl) rfl
        · intro L fx w' hJ hL hp hcl;have e7 := hJ.pt 7 25 (.slice (some ⟨bx, 0, none⟩) xs.length cx) rfl rfl rfl (hp 7 (by decide));rw [e7] at hJ ⊢; clear e7;have e8 := hJ.pt 8 26 (.int .i64 (m : Int)) rfl rfl rfl (hp 8 (by decide));rw [e8] at hJ ⊢; clear e8;refine wps rfl fun K hK => ?_;go_simp;exact hJ.q hK (by kernel_rfl) rfl
        · intro L fx w' hJ hL hp hcl;have e9 := hJ.pt 9 27 (.pointer (some ⟨bx, m * 2, none⟩)) rfl rfl rfl (hp 9 (by decide));rw [e9] at hJ ⊢; clear e9;refine wps rfl fun K hK => ?_;have cl0 := (hJ.cells _ mm4).1;have cl1 := (hJ.cells _ mm5).1;try dsimp only at cl0 cl1
          go_simp;exact hJ.q hK (by kernel_rfl) rfl
        · intro L fx w' hJ hL hp hcl;have e2 := hJ.pt 2 20 (.agg #[.bool kp.1, .slice kp.2.1 kp.2.2.1 kp.2.2.2]) rfl rfl rfl (hp 2 (by decide));rw [e2] at hJ ⊢; clear e2;have e6 := hJ.pt 6 24 (.agg #[.bool py.1, .slice py.2.1 py.2.2.1 py.2.2.2]) rfl rfl rfl (hp 6 (by decide));rw [e6] at hJ ⊢; clear e6;have e10 := hJ.pt 10 28 (.agg #[.bool px.1, .slice px.2.1 px.2.2.1 px.2.2.2]) rfl rfl rfl (hp 10 (by decide));rw [e10] at hJ ⊢; clear e10;refine wps rfl fun K hK => ?_;go_simp;go_at_call 150;refine (z5E _ _ _ k ys[m] cu[m] LA LB _ (show z03 w' (LA) (.agg #[.bool kp.1, .slice kp.2.1 kp.2.2.1 kp.2.2.2]) (k) from hJ.base _ mm0) (show z03 w' (LB) (.agg #[.bool py.1, .slice py.2.1 py.2.2.1 py.2.2.2]) (ys[m]) from hJ.base _ mm1) (show z03 w' (17592186044415) (.agg #[.bool px.1, .slice px.2.1 px.2.2.1 px.2.2.2]) (cu[m]) from hJ.base _ mm2) hLab).mono ?_;rintro e w4 ⟨⟨v5, rfl, h5⟩, hb4⟩;try dsimp only
          exact hK _ _ ⟨_, by kernel_rfl, hJ.gC 11 rfl (by kernel_rfl) hb4 (z05.mono h5 (Nat.zero_le _)) (by omega)⟩
        · intro L fx w' hJ hL hp hcl;have e0 := hJ.pt 0 18 (.slice (some ⟨bx, 0, none⟩) xs.length cx) rfl rfl rfl (hp 0 (by decide));rw [e0] at hJ ⊢; clear e0;have e1 := hJ.pt 1 19 (.int .i64 (m : Int)) rfl rfl rfl (hp 1 (by decide));rw [e1] at hJ ⊢; clear e1;refine wps rfl fun K hK => ?_;go_simp;exact hJ.q hK (by kernel_rfl) rfl
      · intro L x' w3 hL hJ;have hfr : Below w2.drew.heap.size w2.drew w3 := hJ.fr;have e11 : z05 w3 0 (x' 29) (k * ys[m] + cu[m]) := hJ.slot 11 (by show 11 < 13; decide) (hL 11 (by show 11 < 13; decide));have e12 : x' 30 = .pointer (some ⟨bx, m * 2, none⟩) := hJ.slot 12 (by show 12 < 13; decide) (hL 12 (by show 12 < 13; decide));obtain ⟨pz, hpz⟩ := z0n.parts e11.num;rw [hpz] at e11;unfold av at hpz;rw [z07 (x := x') (d := 29) hpz];rw [z07 (x := z0k x' 29 (.agg #[.bool pz.1, .slice pz.2.1 pz.2.2.1 pz.2.2.2])) (d := 30) (v := .pointer (some ⟨bx, m * 2, none⟩)) e12];clear hJ hL;have X3 := Lib.hid (z0c.below (w := w2.drew) X2.out hfr);have Y3 := Lib.hid (z0c.below (w := w2.drew) Y2.out hfr);have R3 := Lib.hid (z00.below (w := w2.drew) R2.out hfr R2.out.lt);have K3 := Lib.hid (z03.below (w := w2.drew) K2.out hfr);have C3 := Lib.hid (C2.out.drew.below hfr);obtain ⟨pq, q0, q1, _⟩ := X3.out.get hmx;have q2 := X3.out.free (m * 2);have q3 := X3.out.free (m * 2 + 1);refine wps rfl fun K hK => ?_;go_simp;refine hK _ _ ⟨⟨z0k (z0k x' 29 (.agg #[.bool pz.1, .slice pz.2.1 pz.2.2.1 pz.2.2.2])) 30 (.pointer (some ⟨bx, m * 2, none⟩)), by kernel_rfl⟩, ?_⟩;clear hK q0 q1 q2 q3;go_wp2;go_roundw
        case rel =>
         refine ⟨m + 1, _, by omega, by go_num, ?_, Lib.hid (X3.out.set m e11.num), Lib.hid (X3.out.z8A Y3.out (fun e => hne e.symm) m pz), Lib.hid ((R3.out.other (by show w.heap.size ≠ bx; omega) _).other (by show w.heap.size ≠ bx; omega) _), Lib.hid (X3.out.z1J K3.out m pz), Lib.hid ((C3.out.set rfl _).set rfl _)⟩;rw [HXE.out];exact HA.out.next hml Hl.out
        case measure => simp [intOf]; omega
  · obtain rfl : m = xs.length := by omega
    have he := HA.out.all Hl.out;have HE := Lib.hid he;clear he;go_wp2;refine bodyPost_end (results_none (by kernel_rfl) _ _ _) rfl ?_;rw [<- HE.out];exact ⟨rfl, hX.out, hC.out⟩
end Go.Proofs.YtknkkceioockjaaGreat
