/- Part 2 of 9 of the proof that the law GroupSmith returns true for every input of bulk at most 1048576 and leaves its arguments as they were. -/
import Derived.RegionTactic
import Derived.Test.YtbgecfleamckcaaGreatRows
import Derived.WalkKit
import Derived.ProofKit
import Derived.OpenShut
import Derived.JoinedCond
import Derived.Carry
import Derived.Deep.Slices
import Derived.Lib.SmallJoins
import Derived.Test.YtbgecfleamckcaaGreatGsA
set_option linter.all false
set_option maxRecDepth 100000
set_option maxHeartbeats 8000000
namespace Go.Proofs.YtbgecfleamckcaaGreat
open Go.RowKit
theorem fD (w : World) (c1 c2 c3 : Array Value) (t1 t2 t3 : TypeId) : a6 (((w.alloc (.cells c1 t1)).alloc (.cells c2 t2)).alloc (.cells c3 t3)) w.heap.size t1 c1.toList /\ a6 (((w.alloc (.cells c1 t1)).alloc (.cells c2 t2)).alloc (.cells c3 t3)) (w.heap.size + 1) t2 c2.toList /\
 a6 (((w.alloc (.cells c1 t1)).alloc (.cells c2 t2)).alloc (.cells c3 t3)) (w.heap.size + 2) t3 c3.toList /\
 Below w.heap.size w (((w.alloc (.cells c1 t1)).alloc (.cells c2 t2)).alloc (.cells c3 t3)) := by
 obtain ⟨h1, h2, h3⟩ := gg w c1 c2 t1 t2;have e : ((w.alloc (.cells c1 t1)).alloc (.cells c2 t2)).heap.size = w.heap.size + 2 := by simp
 refine ⟨h1.alloc _, h2.alloc _, ?_, h3.alloc (by omega) _⟩;have := a6.new ((w.alloc (.cells c1 t1)).alloc (.cells c2 t2)) c3 t3
 rwa [e] at this
theorem ae.fN {w : World} {B : Nat} {v : Value} {x : Int} (h : ae w B v x) {p : Addr} (hp : p.block < B) (u : Value) : ae (w.setCell p u) B v x := by
 obtain ⟨ao, cap, rfl, hO⟩ := h;exact ⟨ao, cap, rfl, hO.fN hp u⟩
theorem ae.done {w w4 : World} {r B : Nat} {v a b : Value} {x : Int} (h : ae w4 (r + 1) v x) (hB : B <= r) (hb : Below B w w4) :
 (∃ v', Ending.returned v = .returned v' /\ ae ((w4.setCell ⟨r, 0, none⟩ a).setCell ⟨r, 1, none⟩ b) B v' x) /\ Below B w ((w4.setCell ⟨r, 0, none⟩ a).setCell ⟨r, 1, none⟩ b) :=
 ⟨⟨v, rfl, ((h.fN (p := ⟨r, 0, none⟩) (Nat.lt_succ_self _) a).fN (p := ⟨r, 1, none⟩) (Nat.lt_succ_self _) b).mono (Nat.le_succ_of_le hB)⟩, (hb.setCell (p := ⟨r, 0, none⟩) hB a).setCell (p := ⟨r, 1, none⟩) hB b⟩
theorem y5 (n : Bool) (m : Nat) : zi (!n) m = -zi n m := by cases n <;> simp [zi]
theorem CR (a b : Bool) (m n : Nat) : zi (a != b) (m * n) = zi a m * zi b n := by
 cases a <;> cases b <;> simp [zi, Int.natCast_mul, Int.neg_mul, Int.mul_neg]
theorem iW (v : Value) (x : Int) (w : World) (hA : a8 w 17592186044415 v x) :
 Calls Tryz.prog 39 #[v] w fun e w' => (∃ v', e = .returned v' /\ ae w' w.heap.size v' (-x)) /\ Below w.heap.size w w' := by
 obtain ⟨n, ao, len, cap, ws, rfl, hW, hl, hL, hc, hx⟩ := hA;have Hx := H5 hx; clear hx;have Hl := H5 hl; clear hl;go_enter Tryz.func39, Tryz.ntmps39;go_wp2;obtain ⟨r1, r2, hb⟩ := gg w #[.bool n, .slice ao len cap] #[.bool false, .slice none 0 0] 40 40;have hW2 := hW.below hb;generalize (w.alloc (.cells #[.bool n, .slice ao len cap] 40)).alloc (.cells #[.bool false, .slice none 0 0] 40) = w2 at *;have e1 : w2.cell? ⟨w.heap.size, 0, none⟩ = some (.bool n) := r1.cell 0;have e2 : w2.cell? ⟨w.heap.size, 1, none⟩ = some (.slice ao len cap) := r1.cell 1;have hb1 := r1.lt;have hb2 := r2.lt;have Hr2 := H5 r2;have HW2 := H5 hW2;clear r1 r2 hW2
 go_region_held3 (fun w' => w'.cell? ⟨w.heap.size, 0, none⟩ = some (.bool n) /\ w'.cell? ⟨w.heap.size, 1, none⟩ = some (.slice ao len cap))
  (first | exact ⟨e1, e2⟩ | exact ⟨(hb3.cell hb1).trans e1, (hb3.cell hb1).trans e2⟩ | exact ⟨(hb5.cell (Nat.lt_succ_self _)).trans e1, (hb5.cell (Nat.lt_succ_self _)).trans e2⟩ | exact ⟨(((hb5.setCell (Nat.le_refl _) _).setCell (Nat.le_refl _) _).cell (Nat.lt_succ_self _)).trans e1, (((hb5.setCell (Nat.le_refl _) _).setCell (Nat.le_refl _) _).cell (Nat.lt_succ_self _)).trans e2⟩)
  (first
   | (go_at_call 35; refine (eC _ _ _ ws _ (by exact HW2.out) Hl.out (by omega)).mono ?_; rintro e w3 ⟨⟨ao', cap', rfl, hO⟩, hb3⟩)
   | (go_at_call 34; refine (oP (!n) _ _ _ _).mono ?_; rintro e w4 ⟨rfl, hb4⟩; have hb5 : Below (w.heap.size + 1) w2.drew w4 := (hb3.trans (hb4.mono hb3.size)).mono (Nat.le_of_lt hb2); have hr4 := (a6.below (w := w2.drew) Hr2.out hb3 hb2).below hb4 (Nat.lt_of_lt_of_le hb2 hb3.size); have hf0 := hr4.free 0; have hf1 := hr4.free 1; have hc0 := hr4.cell 0; have hc1 := hr4.cell 1))
 go_wp2;have hr5 := hr4.l4 (.bool (!n && decide (0 < aa (a7 ws)))) (.slice ao' (aa (a7 ws)) cap');have hs2 : w.heap.size <= w2.heap.size := by omega
 have hbf : Below w.heap.size w w4 := (hb.drew.trans (hb3.mono hs2)).trans (hb4.mono (Nat.le_trans hs2 hb3.size));refine bodyPost_ret (cc (p := 2) (by kernel_rfl) _ _ (w.heap.size + 1) _ _ rfl hr5) rfl ?_;have hO' := (hO.mono (B' := w.heap.size + 2) (by show w.heap.size + 2 <= w2.heap.size; omega)).below hb4;have hI := ae.mk (!n) hO';rw [Hx.out];rw [y5] at hI;exact ae.done hI (Nat.le_succ _) hbf
theorem kK (v : Value) (x : Int) (w : World) (hA : a8 w 17592186044415 v x) :
 Calls Tryz.prog 17 #[v] w fun e w' => (∃ v', e = .returned v' /\ ae w' w.heap.size v' ((x.natAbs : Nat) : Int)) /\ Below w.heap.size w w' := by
 obtain ⟨n, ao, len, cap, ws, rfl, hW, hl, hL, hc, hx⟩ := hA;have Hx := H5 hx; clear hx;have Hl := H5 hl; clear hl;go_enter Tryz.func17, Tryz.ntmps17;go_wp2_with fail
 obtain ⟨r1, r2, hb⟩ := gg w #[.bool n, .slice ao len cap] #[.bool false, .slice none 0 0] 40 40;have hW2 := hW.below hb;generalize (w.alloc (.cells #[.bool n, .slice ao len cap] 40)).alloc (.cells #[.bool false, .slice none 0 0] 40) = w2 at *;have hb2 := r2.lt;refine (eC _ _ _ ws _ hW2 Hl.out (by omega)).mono ?_;rintro e w3 ⟨⟨ao', cap', rfl, hO⟩, hb3⟩;go_wp2_with fail
 refine (oP false _ _ _ _).mono ?_;rintro e w4 ⟨rfl, hb4⟩;have hr4 := (r2.below hb3 hb2).below hb4 (Nat.lt_of_lt_of_le hb2 hb3.size);have hf0 := hr4.free 0;have hf1 := hr4.free 1;have hc0 := hr4.cell 0;have hc1 := hr4.cell 1;clear r1 r2;go_wp2;have hr5 := hr4.l4 (.bool false) (.slice ao' (aa (a7 ws)) cap');have hs2 : w.heap.size <= w2.heap.size := by omega
 have hbf : Below w.heap.size w w4 := (hb.trans (hb3.mono hs2)).trans (hb4.mono (Nat.le_trans hs2 hb3.size));refine bodyPost_ret (cc (p := 2) (by kernel_rfl) _ _ (w.heap.size + 1) _ _ rfl hr5) rfl ?_;have hO' := (hO.mono (B' := w.heap.size + 2) (by show w.heap.size + 2 <= w2.heap.size; omega)).below hb4;have hI := ae.mk false hO';rw [Hx.out, fQ];exact ae.done hI (Nat.le_succ _) hbf
theorem ie (v u : Value) (x y : Int) (LA LB : Nat) (w : World) (hA : a8 w LA v x) (hB : a8 w LB u y) (hL : LA + LB <= 17592186044415) :
 Calls Tryz.prog 36 #[v, u] w fun e w' => (∃ v', e = .returned v' /\ ae w' w.heap.size v' (x * y)) /\ Below w.heap.size w w' := by
 obtain ⟨n, ao, len, cap, ws, rfl, hW, hl, hL1, hc, hx⟩ := hA;obtain ⟨n2, ao2, len2, cap2, ws2, rfl, hW2, hl2, hL2, hc2, hx2⟩ := hB;have Hx := H5 hx; clear hx;have Hl := H5 hl; clear hl;have Hx2 := H5 hx2; clear hx2;have Hl2 := H5 hl2; clear hl2;go_enter Tryz.func36, Tryz.ntmps36;go_wp2;obtain ⟨r1, r2, r3, hb⟩ := fD w #[.bool n, .slice ao len cap] #[.bool n2, .slice ao2 len2 cap2] #[.bool false, .slice none 0 0] 40 40 40;have hW' := hW.below hb;have hW2' := hW2.below hb;generalize ((w.alloc (.cells #[.bool n, .slice ao len cap] 40)).alloc (.cells #[.bool n2, .slice ao2 len2 cap2] 40)).alloc (.cells #[.bool false, .slice none 0 0] 40) = w2 at *;have e1 : w2.cell? ⟨w.heap.size, 0, none⟩ = some (.bool n) := r1.cell 0;have e2 : w2.cell? ⟨w.heap.size, 1, none⟩ = some (.slice ao len cap) := r1.cell 1;have e3 : w2.cell? ⟨w.heap.size + 1, 0, none⟩ = some (.bool n2) := r2.cell 0;have e4 : w2.cell? ⟨w.heap.size + 1, 1, none⟩ = some (.slice ao2 len2 cap2) := r2.cell 1;have hb2 := r3.lt;have k0 : w.heap.size < w.heap.size + 2 := by omega
 have k1 : w.heap.size + 1 < w.heap.size + 2 := by omega
 have Hr3 := H5 r3;have HW := H5 hW';have HW2 := H5 hW2';clear r1 r2 r3 hW' hW2'
 go_region_held3 (fun w' => w'.cell? ⟨w.heap.size, 0, none⟩ = some (.bool n) /\ w'.cell? ⟨w.heap.size, 1, none⟩ = some (.slice ao len cap) /\ w'.cell? ⟨w.heap.size + 1, 0, none⟩ = some (.bool n2) /\ w'.cell? ⟨w.heap.size + 1, 1, none⟩ = some (.slice ao2 len2 cap2))
  (first
   | exact ⟨e1, e2, e3, e4⟩
   | exact ⟨(hb3'.cell k0).trans e1, (hb3'.cell k0).trans e2, (hb3'.cell k1).trans e3, (hb3'.cell k1).trans e4⟩
   | exact ⟨(hb5.cell k0).trans e1, (hb5.cell k0).trans e2, (hb5.cell k1).trans e3, (hb5.cell k1).trans e4⟩
   | exact ⟨(((hb5.setCell (Nat.le_refl _) _).setCell (Nat.le_refl _) _).cell k0).trans e1, (((hb5.setCell (Nat.le_refl _) _).setCell (Nat.le_refl _) _).cell k0).trans e2, (((hb5.setCell (Nat.le_refl _) _).setCell (Nat.le_refl _) _).cell k1).trans e3, (((hb5.setCell (Nat.le_refl _) _).setCell (Nat.le_refl _) _).cell k1).trans e4⟩)
  (first
   | (go_at_call 66; refine (CM _ _ _ _ _ _ ws ws2 _ (by exact HW.out) (by exact HW2.out) Hl.out Hl2.out hc hc2 (by omega)).mono ?_; rintro e w3 ⟨⟨ao', cap', rfl, hO⟩, hb3⟩; have hb3' : Below (w.heap.size + 2) w2.drew w3 := hb3.mono (Nat.le_of_lt hb2))
   | (go_at_call 34; refine (oP (n != n2) _ _ _ _).mono ?_; rintro e w4 ⟨rfl, hb4⟩; have hb5 : Below (w.heap.size + 2) w2.drew w4 := (hb3.trans (hb4.mono hb3.size)).mono (Nat.le_of_lt hb2); have hr4 := (a6.below (w := w2.drew) Hr3.out hb3 hb2).below hb4 (Nat.lt_of_lt_of_le hb2 hb3.size); have hf0 := hr4.free 0; have hf1 := hr4.free 1; have hc0 := hr4.cell 0; have hc1 := hr4.cell 1))
 go_wp2;have hr5 := hr4.l4 (.bool ((n != n2) && decide (0 < aa (a7 ws * a7 ws2)))) (.slice ao' (aa (a7 ws * a7 ws2)) cap');have hs2 : w.heap.size <= w2.heap.size := by omega
 have hbf : Below w.heap.size w w4 := (hb.drew.trans (hb3.mono hs2)).trans (hb4.mono (Nat.le_trans hs2 hb3.size));refine bodyPost_ret (cc (p := 4) (by kernel_rfl) _ _ (w.heap.size + 2) _ _ rfl hr5) rfl ?_;have hO' := (hO.mono (B' := w.heap.size + 3) (by show w.heap.size + 3 <= w2.heap.size; omega)).below hb4;have hI := ae.mk (n != n2) hO';rw [CR] at hI;rw [Hx.out, Hx2.out];exact ae.done hI (by omega) hbf
theorem CJ (n : Bool) (a b : Nat) : zi n (a + b) = zi n a + zi n b := by cases n <;> simp [zi] <;> omega
theorem B8 {n n2 : Bool} (h : n ≠ n2) {a b : Nat} (hle : b <= a) : zi n (a - b) = zi n a + zi n2 b := by
 cases n <;> cases n2 <;> simp [zi] at h |- <;> omega
theorem AD {n n2 : Bool} (h : n ≠ n2) {a b : Nat} (hle : a <= b) : zi n2 (b - a) = zi n a + zi n2 b := by
 cases n <;> cases n2 <;> simp [zi] at h |- <;> omega
theorem o6 (v u : Value) (x y : Int) (w : World) (hA : a8 w 17592186044415 v x) (hB : a8 w 17592186044415 u y) :
 Calls Tryz.prog 85 #[v, u] w fun e w' => (∃ v', e = .returned v' /\ ae w' w.heap.size v' (x + y)) /\ Below w.heap.size w w' := by
 obtain ⟨n, ao, len, cap, ws, rfl, hW, hl, hL1, hc, hx⟩ := hA;obtain ⟨n2, ao2, len2, cap2, ws2, rfl, hW2, hl2, hL2, hc2, hx2⟩ := hB;have Hx := H5 hx; clear hx;have Hl := H5 hl; clear hl;have Hx2 := H5 hx2; clear hx2;have Hl2 := H5 hl2; clear hl2;go_enter Tryz.func85, Tryz.ntmps85;by_cases hne : n = n2
 . subst hne;go_wp2;obtain ⟨r1, r2, r3, hb⟩ := fD w #[.bool n, .slice ao len cap] #[.bool n, .slice ao2 len2 cap2] #[.bool false, .slice none 0 0] 40 40 40;have hW' := hW.below hb;have hW2' := hW2.below hb;generalize ((w.alloc (.cells #[.bool n, .slice ao len cap] 40)).alloc (.cells #[.bool n, .slice ao2 len2 cap2] 40)).alloc (.cells #[.bool false, .slice none 0 0] 40) = w2 at *;have e1 : w2.cell? ⟨w.heap.size, 0, none⟩ = some (.bool n) := r1.cell 0;have e2 : w2.cell? ⟨w.heap.size, 1, none⟩ = some (.slice ao len cap) := r1.cell 1;have e4 : w2.cell? ⟨w.heap.size + 1, 1, none⟩ = some (.slice ao2 len2 cap2) := r2.cell 1;have hb2 := r3.lt;have k0 : w.heap.size < w.heap.size + 2 := by omega
   have k1 : w.heap.size + 1 < w.heap.size + 2 := by omega
   have Hr3 := H5 r3;have HW := H5 hW';have HW2 := H5 hW2';clear r1 r2 r3 hW' hW2'
   go_region_held3 (fun w' => w'.cell? ⟨w.heap.size, 0, none⟩ = some (.bool n) /\ w'.cell? ⟨w.heap.size, 1, none⟩ = some (.slice ao len cap) /\ w'.cell? ⟨w.heap.size + 1, 1, none⟩ = some (.slice ao2 len2 cap2))
    (first
     | exact ⟨e1, e2, e4⟩
     | exact ⟨(hb3'.cell k0).trans e1, (hb3'.cell k0).trans e2, (hb3'.cell k1).trans e4⟩
     | exact ⟨(hb5.cell k0).trans e1, (hb5.cell k0).trans e2, (hb5.cell k1).trans e4⟩
     | exact ⟨(((hb5.setCell (Nat.le_refl _) _).setCell (Nat.le_refl _) _).cell k0).trans e1, (((hb5.setCell (Nat.le_refl _) _).setCell (Nat.le_refl _) _).cell k0).trans e2, (((hb5.setCell (Nat.le_refl _) _).setCell (Nat.le_refl _) _).cell k1).trans e4⟩)
    (first
     | (go_at_call 103; refine (Add_c _ _ _ _ _ _ ws ws2 _ (by exact HW.out) (by exact HW2.out) Hl.out Hl2.out (by omega) (by omega)).mono ?_; rintro e w3 ⟨⟨ao', cap', rfl, hO⟩, hb3⟩; have hb3' : Below (w.heap.size + 2) w2.drew w3 := hb3.mono (Nat.le_of_lt hb2))
     | (go_at_call 34; refine (oP n _ _ _ _).mono ?_; rintro e w4 ⟨rfl, hb4⟩; have hb5 : Below (w.heap.size + 2) w2.drew w4 := (hb3.trans (hb4.mono hb3.size)).mono (Nat.le_of_lt hb2); have hr4 := (a6.below (w := w2.drew) Hr3.out hb3 hb2).below hb4 (Nat.lt_of_lt_of_le hb2 hb3.size); have hf0 := hr4.free 0; have hf1 := hr4.free 1; have hc0 := hr4.cell 0; have hc1 := hr4.cell 1))
   go_wp2;have hr5 := hr4.l4 (.bool (n && decide (0 < aa (a7 ws + a7 ws2)))) (.slice ao' (aa (a7 ws + a7 ws2)) cap');have hs2 : w.heap.size <= w2.heap.size := by omega
   have hbf : Below w.heap.size w w4 := (hb.drew.trans (hb3.mono hs2)).trans (hb4.mono (Nat.le_trans hs2 hb3.size));refine bodyPost_ret (cc (p := 4) (by kernel_rfl) _ _ (w.heap.size + 2) _ _ rfl hr5) rfl ?_;have hO' := (hO.mono (B' := w.heap.size + 3) (by show w.heap.size + 3 <= w2.heap.size; omega)).below hb4;have hI := ae.mk n hO';rw [CJ] at hI;rw [Hx.out, Hx2.out];exact ae.done hI (by omega) hbf
 . have hnb : (n == n2) = false := by simpa using hne
   go_wp2_with fail
   obtain ⟨r1, r2, r3, hb⟩ := fD w #[.bool n, .slice ao len cap] #[.bool n2, .slice ao2 len2 cap2] #[.bool false, .slice none 0 0] 40 40 40;generalize ((w.alloc (.cells #[.bool n, .slice ao len cap] 40)).alloc (.cells #[.bool n2, .slice ao2 len2 cap2] 40)).alloc (.cells #[.bool false, .slice none 0 0] 40) = w2 at *;refine (vY _ _ _ _ _ _ ws ws2 _ (hW.below hb) (hW2.below hb) Hl.out Hl2.out (by omega) (by omega)).mono ?_;rintro e w3 ⟨rfl, hb3⟩;have R1 := r1.below hb3 r1.lt;have R2 := r2.below hb3 r2.lt;have R3 := r3.below hb3 r3.lt;have HB : Below w.heap.size w w3 := hb.trans (hb3.mono hb.size);clear r1 r2 r3;have e1 : w3.cell? ⟨w.heap.size, 0, none⟩ = some (.bool n) := R1.cell 0;have e2 : w3.cell? ⟨w.heap.size, 1, none⟩ = some (.slice ao len cap) := R1.cell 1;have e3 : w3.cell? ⟨w.heap.size + 1, 0, none⟩ = some (.bool n2) := R2.cell 0;have e4 : w3.cell? ⟨w.heap.size + 1, 1, none⟩ = some (.slice ao2 len2 cap2) := R2.cell 1;by_cases hlt : a7 ws < a7 ws2
   . rw [ny hlt];have HlE := H5 (Nat.le_of_lt hlt); clear hlt;have g1 := R1.free 0;have g2 := R1.free 1;have g3 := R2.free 0;have g4 := R2.free 1;go_wp2_with fail
     have S1 := ((R1.l4 (.bool n2) (.slice ao2 len2 cap2)).other (p := ⟨w.heap.size + 1, 0, none⟩) (by show w.heap.size ≠ w.heap.size + 1; omega) (.bool n)).other (p := ⟨w.heap.size + 1, 1, none⟩) (by show w.heap.size ≠ w.heap.size + 1; omega) (.slice ao len cap);have S2 := (((R2.other (p := ⟨w.heap.size, 0, none⟩) (by show w.heap.size + 1 ≠ w.heap.size; omega) (.bool n2)).other (p := ⟨w.heap.size, 1, none⟩) (by show w.heap.size + 1 ≠ w.heap.size; omega) (.slice ao2 len2 cap2))).l4 (.bool n) (.slice ao len cap);have S3 := (((R3.other (p := ⟨w.heap.size, 0, none⟩) (by show w.heap.size + 2 ≠ w.heap.size; omega) (.bool n2)).other (p := ⟨w.heap.size, 1, none⟩) (by show w.heap.size + 2 ≠ w.heap.size; omega) (.slice ao2 len2 cap2)).other (p := ⟨w.heap.size + 1, 0, none⟩) (by show w.heap.size + 2 ≠ w.heap.size + 1; omega) (.bool n)).other (p := ⟨w.heap.size + 1, 1, none⟩) (by show w.heap.size + 2 ≠ w.heap.size + 1; omega) (.slice ao len cap);have SB := (((HB.setCell (p := ⟨w.heap.size, 0, none⟩) (Nat.le_refl _) (.bool n2)).setCell (p := ⟨w.heap.size, 1, none⟩) (Nat.le_refl _) (.slice ao2 len2 cap2)).setCell (p := ⟨w.heap.size + 1, 0, none⟩) (Nat.le_succ _) (.bool n)).setCell (p := ⟨w.heap.size + 1, 1, none⟩) (Nat.le_succ _) (.slice ao len cap);clear R1 R2 R3 HB e1 e2 e3 e4 g1 g2 g3 g4 hb3;generalize (((w3.setCell ⟨w.heap.size, 0, none⟩ (.bool n2)).setCell ⟨w.heap.size, 1, none⟩ (.slice ao2 len2 cap2)).setCell ⟨w.heap.size + 1, 0, none⟩ (.bool n)).setCell ⟨w.heap.size + 1, 1, none⟩ (.slice ao len cap) = w3' at *;clear w3;obtain ⟨w3, rfl⟩ : ∃ w3 : World, w3 = w3' := ⟨_, rfl⟩;have R1 := S1;have R2 := S2;have R3 := S3;have HB := SB;clear S1 S2 S3 SB;refine (Bj _ _ _ _ _ _ ws2 ws _ (hW2.below HB) (hW.below HB) Hl2.out Hl.out (by omega) (by omega) HlE.out).mono ?_;rintro e w4 ⟨⟨ao', cap', rfl, hO⟩, hb4⟩;have R1' := R1.below hb4 R1.lt;have R3' := R3.below hb4 R3.lt;have f1 : w4.cell? ⟨w.heap.size, 0, none⟩ = some (.bool n2) := R1'.cell 0;have k4 := R3'.lt;go_wp2_with fail
     refine (oP n2 _ _ _ _).mono ?_;rintro e w5 ⟨rfl, hb5⟩;have hr5 := R3'.below hb5 R3'.lt;have hf0 := hr5.free 0;have hf1 := hr5.free 1;have hc0 := hr5.cell 0;have hc1 := hr5.cell 1;have hs3 : w.heap.size + 3 <= w3.heap.size := R3.lt;have hbf : Below w.heap.size w w5 := (HB.trans (hb4.mono (by omega))).trans (hb5.mono (by have := hb4.size; omega));clear R1 R1' R2 R3 R3';go_wp2;have hr6 := hr5.l4 (.bool (n2 && decide (0 < aa (a7 ws2 - a7 ws)))) (.slice ao' (aa (a7 ws2 - a7 ws)) cap');refine bodyPost_ret (cc (p := 4) (by kernel_rfl) _ _ (w.heap.size + 2) _ _ rfl hr6) rfl ?_;have hO' := (hO.mono (B' := w.heap.size + 3) hs3).below hb5;have hI := ae.mk n2 hO';rw [AD hne HlE.out] at hI;rw [Hx.out, Hx2.out];exact ae.done hI (by omega) hbf
   . have hc' : decide (gB (a7 ws) (a7 ws2) < 0) = false := by
      unfold gB; rw [if_neg hlt]; split <;> rfl
     have HlE := H5 (Nat.le_of_not_lt hlt); clear hlt;generalize gB (a7 ws) (a7 ws2) = cm at *;go_wp2_with fail
     refine (Bj _ _ _ _ _ _ ws ws2 _ (hW.below HB) (hW2.below HB) Hl.out Hl2.out (by omega) (by omega) HlE.out).mono ?_;rintro e w4 ⟨⟨ao', cap', rfl, hO⟩, hb4⟩;have R1' := R1.below hb4 R1.lt;have R3' := R3.below hb4 R3.lt;have f1 : w4.cell? ⟨w.heap.size, 0, none⟩ = some (.bool n) := R1'.cell 0;have k4 := R3'.lt;go_wp2_with fail
     refine (oP n _ _ _ _).mono ?_;rintro e w5 ⟨rfl, hb5⟩;have hr5 := R3'.below hb5 R3'.lt;have hf0 := hr5.free 0;have hf1 := hr5.free 1;have hc0 := hr5.cell 0;have hc1 := hr5.cell 1;have hs3 : w.heap.size + 3 <= w3.heap.size := R3.lt;have hbf : Below w.heap.size w w5 := (HB.trans (hb4.mono (by omega))).trans (hb5.mono (by have := hb4.size; omega));clear R1 R1' R2 R3 R3';go_wp2;have hr6 := hr5.l4 (.bool (n && decide (0 < aa (a7 ws - a7 ws2)))) (.slice ao' (aa (a7 ws - a7 ws2)) cap');refine bodyPost_ret (cc (p := 4) (by kernel_rfl) _ _ (w.heap.size + 2) _ _ rfl hr6) rfl ?_;have hO' := (hO.mono (B' := w.heap.size + 3) hs3).below hb5;have hI := ae.mk n hO';rw [B8 hne HlE.out] at hI;rw [Hx.out, Hx2.out];exact ae.done hI (by omega) hbf
theorem mg (v u : Value) (x y : Int) (w : World) (hA : a8 w 17592186044415 v x) (hB : a8 w 17592186044415 u y) :
 Calls Tryz.prog 68 #[v, u] w fun e w' => (∃ v', e = .returned v' /\ ae w' w.heap.size v' (x - y)) /\ Below w.heap.size w w' := by
 obtain ⟨n, ao, len, cap, ws, rfl, hW, hl, hL1, hc, hx⟩ := hA;obtain ⟨n2, ao2, len2, cap2, ws2, rfl, hW2, hl2, hL2, hc2, hx2⟩ := hB;have Hx := H5 hx; clear hx;have Hl := H5 hl; clear hl;have Hx2 := H5 hx2; clear hx2;have Hl2 := H5 hl2; clear hl2;go_enter Tryz.func68, Tryz.ntmps68;go_wp2_with fail
 obtain ⟨r1, r2, r3, hb⟩ := fD w #[.bool n, .slice ao len cap] #[.bool n2, .slice ao2 len2 cap2] #[.bool false, .slice none 0 0] 40 40 40;generalize ((w.alloc (.cells #[.bool n, .slice ao len cap] 40)).alloc (.cells #[.bool n2, .slice ao2 len2 cap2] 40)).alloc (.cells #[.bool false, .slice none 0 0] 40) = w2 at *;have hI1 : a8 w2 17592186044415 (.agg #[.bool n, .slice ao len cap]) x := ⟨n, ao, len, cap, ws, rfl, hW.below hb, Hl.out, hL1, hc, Hx.out⟩;have hI2 : a8 w2 17592186044415 (.agg #[.bool (!n2), .slice ao2 len2 cap2]) (-y) := ⟨!n2, ao2, len2, cap2, ws2, rfl, hW2.below hb, Hl2.out, hL2, hc2, by rw [y5, Hx2.out]⟩;refine (o6 _ _ x (-y) _ hI1 hI2).mono ?_;rintro e w3 ⟨⟨v', rfl, hO⟩, hb3⟩;have hs3 : w.heap.size + 3 <= w2.heap.size := r3.lt;have hr4 := r3.below hb3 r3.lt;have hf0 := hr4.free 0;have hf1 := hr4.free 1;have hc0 := hr4.cell 0;have hc1 := hr4.cell 1;have hbf : Below w.heap.size w w3 := hb.trans (hb3.mono hb.size);have HO := H5 hO;obtain ⟨ao', cap', rfl, -⟩ := hO;clear r1 r2 r3;go_wp2;have hr6 := hr4.l4 (.bool (decide (x + -y < 0))) (.slice ao' (aa (x + -y).natAbs) cap');refine bodyPost_ret (cc (p := 4) (by kernel_rfl) _ _ (w.heap.size + 2) _ _ rfl hr6) rfl ?_;have hO' := HO.out.mono (B' := w.heap.size + 3) hs3;rw [Int.sub_eq_add_neg];exact ae.done hO' (by omega) hbf
theorem y4 (w : World) (c1 c2 c3 c4 : Array Value) (t1 t2 t3 t4 : TypeId) : a6 ((((w.alloc (.cells c1 t1)).alloc (.cells c2 t2)).alloc (.cells c3 t3)).alloc (.cells c4 t4)) w.heap.size t1 c1.toList /\ a6 ((((w.alloc (.cells c1 t1)).alloc (.cells c2 t2)).alloc (.cells c3 t3)).alloc (.cells c4 t4)) (w.heap.size + 1) t2 c2.toList /\
 a6 ((((w.alloc (.cells c1 t1)).alloc (.cells c2 t2)).alloc (.cells c3 t3)).alloc (.cells c4 t4)) (w.heap.size + 2) t3 c3.toList /\ a6 ((((w.alloc (.cells c1 t1)).alloc (.cells c2 t2)).alloc (.cells c3 t3)).alloc (.cells c4 t4)) (w.heap.size + 3) t4 c4.toList /\
 Below w.heap.size w ((((w.alloc (.cells c1 t1)).alloc (.cells c2 t2)).alloc (.cells c3 t3)).alloc (.cells c4 t4)) := by
 obtain ⟨h1, h2, h3, h4⟩ := fD w c1 c2 c3 t1 t2 t3;have e : (((w.alloc (.cells c1 t1)).alloc (.cells c2 t2)).alloc (.cells c3 t3)).heap.size = w.heap.size + 3 := by simp
 refine ⟨h1.alloc _, h2.alloc _, h3.alloc _, ?_, h4.alloc (by omega) _⟩;have := a6.new (((w.alloc (.cells c1 t1)).alloc (.cells c2 t2)).alloc (.cells c3 t3)) c4 t4
 rwa [e] at this
def aP (x : Int) : Int := if x < 0 then -1 else if x = 0 then 0 else 1
theorem cw (v : Value) (x : Int) (w : World) (hA : a8 w 17592186044415 v x) :
 Calls Tryz.prog 27 #[v] w fun e w' => e = .returned (.int .i64 (aP x)) /\ Below w.heap.size w w' := by
 obtain ⟨n, ao, len, cap, ws, rfl, hW, hl, hL, hc, hx⟩ := hA;have Hx := H5 hx; clear hx;have Hl := H5 hl; clear hl;go_enter Tryz.func27, Tryz.ntmps27;go_wp2_with fail
 have hb : Below w.heap.size w (w.alloc (.cells #[.bool n, .slice ao len cap] 40)) := (Below.refl _ _).alloc (Nat.le_refl _) _;refine (yR _ _ _ ws _ (hW.below hb) Hl.out (by omega)).mono ?_;rintro e w' ⟨⟨k, rfl, hk⟩, rfl⟩;by_cases h0 : k = 0
 . have t1 : ((k : Int) == 0) = true := by rw [h0]; rfl
   have e0 := hk.1 h0;have E0 := H5 e0; clear e0 hk h0;go_wp2;go_ret;refine ⟨?_, hb⟩;rw [Hx.out, E0.out];have : aP (zi n 0) = 0 := by cases n <;> rfl
   rw [this]; rfl
 . have t1 : ((k : Int) == 0) = false := by rw [beq_eq_false_iff_ne]; omega
   have e0 : a7 ws ≠ 0 := fun h => h0 (hk.2 h);have E0 := H5 e0; clear e0 hk h0;cases n
   . go_wp2;go_ret;refine ⟨?_, hb⟩;have : aP (zi false (a7 ws)) = 1 := by
      have := E0.out;unfold aP zi; simp; omega
     rw [Hx.out, this]; rfl
   . go_wp2;go_ret;refine ⟨?_, hb⟩;have : aP (zi true (a7 ws)) = -1 := by
      have := E0.out;unfold aP zi; simp; omega
     rw [Hx.out, this]; rfl
theorem mW {fn : Func} {p q : Tmp} (h : fn.results = #[.cell p 40, .tmp q]) (tmps : Array Value) (w : World) (g : Nat) (a b : Value) (hp : tmps.getD p undef = .pointer (some ⟨g, 0, none⟩)) (hr : a6 w g 40 [a, b]) :
 (results fn tmps).run Tryz.prog w = .ok (.tuple #[.agg #[a, b], tmps.getD q undef]) w := by
 have hp' : tmps[p]?.getD undef = .pointer (some ⟨g, 0, none⟩) := by simpa using hp
 simp [results, h, hp', asAddr, run_loadVar_row w g 40 40 #[a, b] (0, 0) _ hr Tryz.underlying40 rfl (by kernel_rfl)]
theorem a8.aa {w : World} {L : Nat} {v : Value} {x : Int} (h : a8 w L v x) : aa x.natAbs <= L := by
 obtain ⟨n, ao, len, cap, ws, rfl, hW, hl, hL, hc, hx⟩ := h;rw [hx, fQ];exact Nat.le_trans (ep hW.ok) (by omega)
theorem wz {x y : Int} (h : y ∣ x) : x.natAbs % y.natAbs = 0 := by
 have := Int.natAbs_dvd_natAbs.2 h;exact Nat.mod_eq_zero_of_dvd this
theorem BQ {a b : Bool} {m n : Nat} (hn : n ≠ 0) (h : m % n = 0) : zi (a != b) (m / n) = zi a m / zi b n := by
 obtain ⟨k, rfl⟩ := Nat.dvd_of_mod_eq_zero h;rw [Nat.mul_div_cancel_left _ (by omega)];have hy : zi b n ≠ 0 := by cases b <;> simp [zi] <;> omega
 have e : zi a (n * k) = zi b n * zi (a != b) k := by
  cases a <;> cases b <;> simp [zi, Int.natCast_mul, Int.neg_mul, Int.mul_neg]
 rw [e, Int.mul_ediv_cancel_left _ hy]
theorem iN (v u : Value) (x y : Int) (w : World) (hA : a8 w 17592186044415 v x) (hB : a8 w 17592186044415 u y) (hy : y ≠ 0) (hd : y ∣ x) :
 Calls Tryz.prog 49 #[v, u] w fun e w' => (∃ v', e = .returned (.tuple #[v', .int .i64 0]) /\ ae w' w.heap.size v' (x / y)) /\ Below w.heap.size w w' := by
 obtain ⟨n, ao, len, cap, ws, rfl, hW, hl, hL1, hc, hx⟩ := hA;obtain ⟨n2, ao2, len2, cap2, ws2, rfl, hW2, hl2, hL2, hc2, hx2⟩ := hB;have h1 := wz hd;have h2 : a7 ws2 ≠ 0 := fun h => hy (by rw [hx2, h]; cases n2 <;> rfl);rw [hx, hx2, fQ, fQ] at h1;have H1 := H5 h1; clear h1;have H2 := H5 h2; clear h2;have Hx := H5 hx; clear hx;have Hl := H5 hl; clear hl;have Hx2 := H5 hx2; clear hx2;have Hl2 := H5 hl2; clear hl2;clear hd hy;go_enter Tryz.func49, Tryz.ntmps49;go_wp2_with fail
 obtain ⟨r1, r2, r3, hb⟩ := fD w #[.bool n, .slice ao len cap] #[.bool n2, .slice ao2 len2 cap2] #[.bool false, .slice none 0 0] 40 40 40;generalize ((w.alloc (.cells #[.bool n, .slice ao len cap] 40)).alloc (.cells #[.bool n2, .slice ao2 len2 cap2] 40)).alloc (.cells #[.bool false, .slice none 0 0] 40) = w2 at *;refine (zw _ _ _ _ _ _ ws ws2 _ (hW.below hb) (hW2.below hb) Hl.out Hl2.out (by omega) (by omega) H2.out H1.out).mono ?_;rintro e w3 ⟨⟨ao', cap', rfl, hO⟩, hb3⟩;have R1 := r1.below hb3 r1.lt;have R2 := r2.below hb3 r2.lt;have R3 := r3.below hb3 r3.lt;have e1 : w3.cell? ⟨w.heap.size, 0, none⟩ = some (.bool n) := R1.cell 0;have e3 : w3.cell? ⟨w.heap.size + 1, 0, none⟩ = some (.bool n2) := R2.cell 0;have hs3 : w.heap.size + 3 <= w2.heap.size := r3.lt;have hs4 := hb3.size;clear r1 r2 r3;go_wp2_with fail
 refine (oP (n != n2) _ _ _ _).mono ?_;rintro e w4 ⟨rfl, hb4⟩;have hr4 := R3.below hb4 R3.lt;have hf0 := hr4.free 0;have hf1 := hr4.free 1;have hc0 := hr4.cell 0;have hc1 := hr4.cell 1;have hbf : Below w.heap.size w w4 := (hb.trans (hb3.mono hb.size)).trans (hb4.mono (by omega));clear R1 R2 R3;go_wp2;have hr6 := hr4.l4 (.bool ((n != n2) && decide (0 < aa (a7 ws / a7 ws2)))) (.slice ao' (aa (a7 ws / a7 ws2)) cap');refine bodyPost_ret (mW (p := 4) (q := 5) (by kernel_rfl) _ _ (w.heap.size + 2) _ _ rfl hr6) rfl ?_;have hO' := (hO.mono (B' := w.heap.size + 3) hs3).below hb4;have hI := ae.mk (n != n2) hO';rw [BQ H2.out H1.out] at hI;rw [Hx.out, Hx2.out];obtain ⟨⟨v', hv, hI'⟩, hB'⟩ := ae.done (a := .bool ((n != n2) && decide (0 < aa (a7 ws / a7 ws2)))) (b := .slice ao' (aa (a7 ws / a7 ws2)) cap') hI (by omega : w.heap.size <= w.heap.size + 2) hbf;refine ⟨⟨v', ?_, hI'⟩, hB'⟩;cases hv;rfl
theorem iA (k : Int) (w : World) (h1 : -9223372036854775808 <= k) (h2 : k <= 9223372036854775807) :
 Calls Tryz.prog 13 #[.int .i64 k] w fun e w' => (∃ v', e = .returned v' /\ ae w' w.heap.size v' k) /\ Below w.heap.size w w' := by
 go_enter Tryz.func13, Tryz.ntmps13;by_cases hk : k < 0
 . go_wp2_with fail
   have ev : IntKind.u64.wrap (-IntKind.u64.wrap k) = ((k.natAbs : Nat) : Int) := by simp only [IntKind.wrap_u64]; omega
   rw [ev];obtain ⟨r1, r2, hb⟩ := gg w #[.bool false, .slice none 0 0] #[.int .u64 ((k.natAbs : Nat) : Int)] 40 47;generalize (w.alloc (.cells #[.bool false, .slice none 0 0] 40)).alloc (.cells #[.int .u64 ((k.natAbs : Nat) : Int)] 47) = w2 at *;have hkW : k.natAbs < W := by unfold W; omega
   have hw2 : cU w2 (some ⟨w.heap.size + 1, 0, none⟩) [k.natAbs] := a6.j3 (ws := [k.natAbs]) r2 (Ok.one hkW);have hv1 : a7 [k.natAbs] = k.natAbs := by simp [a7]
   have hLe := eC _ 1 1 [k.natAbs] _ hw2 rfl (by omega);rw [hv1] at hLe;refine hLe.mono ?_;rintro e w3 ⟨⟨ao', cap', rfl, hO⟩, hb3⟩;have hr3 := r1.below hb3 r1.lt;have hs2 : w.heap.size + 2 <= w2.heap.size := r2.lt;have hs3 := hb3.size;clear r1 r2 hLe;go_wp2_with fail
   refine (oP true _ _ _ _).mono ?_;rintro e w4 ⟨rfl, hb4⟩;have hr4 := hr3.below hb4 hr3.lt;have hf0 := hr4.free 0;have hf1 := hr4.free 1;have hc0 := hr4.cell 0;have hc1 := hr4.cell 1;have hbf : Below w.heap.size w w4 := (hb.trans (hb3.mono hb.size)).trans (hb4.mono (by omega));have hO' := (hO.mono (B' := w.heap.size + 1) (by omega)).below hb4;have hI := ae.mk true hO';have hz : zi true k.natAbs = k := by unfold zi; simp; omega
   rw [hz] at hI;have HI := H5 hI;clear hr3 hz hI hw2 hv1 ev;go_wp2;have hr6 := hr4.l4 (.bool (true && decide (0 < aa k.natAbs))) (.slice ao' (aa k.natAbs) cap');refine bodyPost_ret (cc (p := 2) (by kernel_rfl) _ _ w.heap.size _ _ rfl hr6) rfl ?_;exact ae.done HI.out (Nat.le_refl _) hbf
 . obtain ⟨m, rfl⟩ : ∃ m : Nat, k = (m : Int) := ⟨k.toNat, by omega⟩;go_wp2_with fail
   obtain ⟨r1, r2, hb⟩ := gg w #[.bool false, .slice none 0 0] #[.int .u64 ((m : Nat) : Int)] 40 47;generalize (w.alloc (.cells #[.bool false, .slice none 0 0] 40)).alloc (.cells #[.int .u64 ((m : Nat) : Int)] 47) = w2 at *;have hkW : m < W := by unfold W; omega
   have hw2 : cU w2 (some ⟨w.heap.size + 1, 0, none⟩) [m] := a6.j3 (ws := [m]) r2 (Ok.one hkW);have hv1 : a7 [m] = m := by simp [a7]
   have hLe := eC _ 1 1 [m] _ hw2 rfl (by omega);rw [hv1] at hLe;refine hLe.mono ?_;rintro e w3 ⟨⟨ao', cap', rfl, hO⟩, hb3⟩;have hr3 := r1.below hb3 r1.lt;have hs2 : w.heap.size + 2 <= w2.heap.size := r2.lt;have hs3 := hb3.size;clear r1 r2 hLe;go_wp2_with fail
   refine (oP false _ _ _ _).mono ?_;rintro e w4 ⟨rfl, hb4⟩;have hr4 := hr3.below hb4 hr3.lt;have hf0 := hr4.free 0;have hf1 := hr4.free 1;have hc0 := hr4.cell 0;have hc1 := hr4.cell 1;have hbf : Below w.heap.size w w4 := (hb.trans (hb3.mono hb.size)).trans (hb4.mono (by omega));have hO' := (hO.mono (B' := w.heap.size + 1) (by omega)).below hb4;have hI := ae.mk false hO';have hz : zi false m = (m : Int) := rfl;rw [hz] at hI;have HI := H5 hI;clear hr3 hz hI hw2 hv1;go_wp2;have hr6 := hr4.l4 (.bool (false && decide (0 < aa m))) (.slice ao' (aa m) cap');refine bodyPost_ret (cc (p := 2) (by kernel_rfl) _ _ w.heap.size _ _ rfl hr6) rfl ?_;exact ae.done HI.out (Nat.le_refl _) hbf
theorem ae.int {w : World} {B L : Nat} {v : Value} {x : Int} (h : ae w B v x) (hL : Go.Proofs.YtbgecfleamckcaaGreat.aa x.natAbs <= L) : a8 w L v x := h.at_.mono hL
theorem lP (v u t : Value) (x y z : Int) (LA LB : Nat) (w : World) (hA : a8 w LA v x) (hB : a8 w LB u y) (hC : a8 w 17592186044415 t z) (hL : LA + LB <= 17592186044415) :
 Calls Tryz.prog 99 #[v, u, t] w fun e w' => (∃ v', e = .returned v' /\ ae w' w.heap.size v' (x * y + z)) /\ Below w.heap.size w w' := by
 have hwx := hA.aa;have hwy := hB.aa;have hwz : aa (x * y).natAbs <= 17592186044415 := by
  rw [Int.natAbs_mul]; have := eO x.natAbs y.natAbs; omega
 have Hwz := H5 hwz; clear hwz hwx hwy;obtain ⟨n, ao, len, cap, ws, rfl, hW, hl, hL1, hc, hx⟩ := hA;obtain ⟨n2, ao2, len2, cap2, ws2, rfl, hW2, hl2, hL2, hc2, hx2⟩ := hB;obtain ⟨n3, ao3, len3, cap3, ws3, rfl, hW3, hl3, hL3, hc3, hx3⟩ := hC;have HA : Hid (∀ w', Below w.heap.size w w' -> a8 w' LA (.agg #[.bool n, .slice ao len cap]) x) := H5 (fun w' h => ⟨n, ao, len, cap, ws, rfl, hW.below h, hl, hL1, hc, hx⟩);have HB : Hid (∀ w', Below w.heap.size w w' -> a8 w' LB (.agg #[.bool n2, .slice ao2 len2 cap2]) y) := H5 (fun w' h => ⟨n2, ao2, len2, cap2, ws2, rfl, hW2.below h, hl2, hL2, hc2, hx2⟩);have HC : Hid (∀ w', Below w.heap.size w w' -> a8 w' 17592186044415 (.agg #[.bool n3, .slice ao3 len3 cap3]) z) := H5 (fun w' h => ⟨n3, ao3, len3, cap3, ws3, rfl, hW3.below h, hl3, hL3, hc3, hx3⟩);clear hW hl hL1 hc hx hW2 hl2 hL2 hc2 hx2 hW3 hl3 hL3 hc3 hx3;go_enter Tryz.func99, Tryz.ntmps99;go_wp2;obtain ⟨r1, r2, r3, r4, hb⟩ := y4 w #[.bool n, .slice ao len cap] #[.bool n2, .slice ao2 len2 cap2] #[.bool n3, .slice ao3 len3 cap3] #[.bool false, .slice none 0 0] 40 40 40 40;generalize (((w.alloc (.cells #[.bool n, .slice ao len cap] 40)).alloc (.cells #[.bool n2, .slice ao2 len2 cap2] 40)).alloc (.cells #[.bool n3, .slice ao3 len3 cap3] 40)).alloc (.cells #[.bool false, .slice none 0 0] 40) = w2 at *;have e1 : w2.cell? ⟨w.heap.size, 0, none⟩ = some (.bool n) := r1.cell 0;have e2 : w2.cell? ⟨w.heap.size, 1, none⟩ = some (.slice ao len cap) := r1.cell 1;have e3 : w2.cell? ⟨w.heap.size + 1, 0, none⟩ = some (.bool n2) := r2.cell 0;have e4 : w2.cell? ⟨w.heap.size + 1, 1, none⟩ = some (.slice ao2 len2 cap2) := r2.cell 1;have e5 : w2.cell? ⟨w.heap.size + 2, 0, none⟩ = some (.bool n3) := r3.cell 0;have e6 : w2.cell? ⟨w.heap.size + 2, 1, none⟩ = some (.slice ao3 len3 cap3) := r3.cell 1;have hb2 := r4.lt;have k0 : w.heap.size < w.heap.size + 3 := by omega
 have k1 : w.heap.size + 1 < w.heap.size + 3 := by omega
 have k2 : w.heap.size + 2 < w.heap.size + 3 := by omega
 have Hr4 := H5 r4;have hs2 : w.heap.size <= w2.heap.size := by omega
 have hbd : Below w.heap.size w w2.drew := hb.drew;clear r1 r2 r3 r4
 go_region_held3 (fun w' => w'.cell? ⟨w.heap.size, 0, none⟩ = some (.bool n) /\ w'.cell? ⟨w.heap.size, 1, none⟩ = some (.slice ao len cap) /\ w'.cell? ⟨w.heap.size + 1, 0, none⟩ = some (.bool n2) /\ w'.cell? ⟨w.heap.size + 1, 1, none⟩ = some (.slice ao2 len2 cap2) /\ w'.cell? ⟨w.heap.size + 2, 0, none⟩ = some (.bool n3) /\ w'.cell? ⟨w.heap.size + 2, 1, none⟩ = some (.slice ao3 len3 cap3))
  (first
   | exact ⟨e1, e2, e3, e4, e5, e6⟩
   | exact ⟨(hb3'.cell k0).trans e1, (hb3'.cell k0).trans e2, (hb3'.cell k1).trans e3, (hb3'.cell k1).trans e4, (hb3'.cell k2).trans e5, (hb3'.cell k2).trans e6⟩
   | exact ⟨(hb5.cell k0).trans e1, (hb5.cell k0).trans e2, (hb5.cell k1).trans e3, (hb5.cell k1).trans e4, (hb5.cell k2).trans e5, (hb5.cell k2).trans e6⟩
   | exact ⟨(((hb5.setCell (Nat.le_refl _) _).setCell (Nat.le_refl _) _).cell k0).trans e1, (((hb5.setCell (Nat.le_refl _) _).setCell (Nat.le_refl _) _).cell k0).trans e2, (((hb5.setCell (Nat.le_refl _) _).setCell (Nat.le_refl _) _).cell k1).trans e3, (((hb5.setCell (Nat.le_refl _) _).setCell (Nat.le_refl _) _).cell k1).trans e4, (((hb5.setCell (Nat.le_refl _) _).setCell (Nat.le_refl _) _).cell k2).trans e5, (((hb5.setCell (Nat.le_refl _) _).setCell (Nat.le_refl _) _).cell k2).trans e6⟩)
  (first
   | (go_at_call 36; refine (ie _ _ x y LA LB _ (by exact HA.out _ hbd) (by exact HB.out _ hbd) (by omega)).mono ?_; rintro e w3 ⟨⟨v3, rfl, hO⟩, hb3⟩; have HO := H5 (hO.int Hwz.out); have hb3' : Below (w.heap.size + 3) w2.drew w3 := hb3.mono (Nat.le_of_lt hb2); have hb3w : Below w.heap.size w w3 := hbd.trans (hb3.mono hs2))
   | (go_at_call 85; refine (o6 _ _ (x * y) z _ (by exact HO.out) (by exact HC.out _ hb3w)).mono ?_; rintro e w4 ⟨⟨v4, rfl, hO4⟩, hb4⟩; have hb5 : Below (w.heap.size + 3) w2.drew w4 := (hb3.trans (hb4.mono hb3.size)).mono (Nat.le_of_lt hb2); have hr4 := (a6.below (w := w2.drew) Hr4.out hb3 hb2).below hb4 (Nat.lt_of_lt_of_le hb2 hb3.size); have hf0 := hr4.free 0; have hf1 := hr4.free 1; have hc0 := hr4.cell 0; have hc1 := hr4.cell 1; have HO4 := H5 hO4; obtain ⟨ao', cap', rfl, -⟩ := hO4))
 go_wp2;have hr5 := hr4.l4 (.bool (decide (x * y + z < 0))) (.slice ao' (aa (x * y + z).natAbs) cap');have hbf : Below w.heap.size w w4 := hb3w.trans (hb4.mono (Nat.le_trans hs2 hb3.size));refine bodyPost_ret (cc (p := 6) (by kernel_rfl) _ _ (w.heap.size + 3) _ _ rfl hr5) rfl ?_;have hs3 : w2.heap.size <= w3.heap.size := hb3.size;have hI := HO4.out.mono (B' := w.heap.size + 4) (by omega);exact ae.done hI (by omega) hbf
def aK (cs : List Value) : Prop := ∀ c ∈ cs, ∀ n, c ≠ .int .u64 n
theorem aK.nil : aK [] := fun c h => by cases h
theorem aK.bool {b : Bool} {cs : List Value} (h : aK cs) : aK (.bool b :: cs) := fun c hc n => by
 rcases List.mem_cons.1 hc with rfl | hc
 . simp
 . exact h c hc n
theorem aK.slice {ao : Option Addr} {l k : Nat} {cs : List Value} (h : aK cs) : aK (.slice ao l k :: cs) := fun c hc n => by
 rcases List.mem_cons.1 hc with rfl | hc
 . simp
 . exact h c hc n
theorem aK.two (b : Bool) (ao : Option Addr) (l k : Nat) : aK [.bool b, .slice ao l k] := aK.bool (aK.slice aK.nil)
theorem aK.append {a b : List Value} (ha : aK a) (hb : aK b) : aK (a ++ b) := fun c hc n => (List.mem_append.1 hc).elim (fun h => ha c h n) (fun h => hb c h n)
theorem cU.setRow {w : World} {ao : Option Addr} {ws : List Nat} (h : cU w ao ws) {g : Nat} {t : TypeId} {cs : List Value} (hr : a6 w g t cs) (hn : aK cs) (i : Nat) (u : Value) : cU (w.setCell ⟨g, i, none⟩ u) ao ws := by
 refine ⟨h.1, fun hl => ?_⟩;obtain ⟨b, o, rfl, hb, hc⟩ := h.2 hl;have hne : b ≠ g := by
  rintro rfl;have h0 := hc 0 hl;rw [hr.cell] at h0;exact hn _ (List.mem_of_getElem? h0) _ rfl
 refine ⟨b, o, rfl, by simpa using hb, fun k hk => ?_⟩;rw [World.cell?_setCell_far _ _ _ _ (fun e => hne e.symm)];exact hc k hk
theorem a8.setRow {w : World} {L : Nat} {v : Value} {x : Int} (h : a8 w L v x) {g : Nat} {t : TypeId} {cs : List Value} (hr : a6 w g t cs) (hn : aK cs) (i : Nat) (u : Value) : a8 (w.setCell ⟨g, i, none⟩ u) L v x := by
 obtain ⟨n, ao, len, cap, ws, rfl, hW, hl, hL, hc, hx⟩ := h;exact ⟨n, ao, len, cap, ws, rfl, hW.setRow hr hn i u, hl, hL, hc, hx⟩
theorem ct.setRow {w : World} {B : Nat} {ao : Option Addr} {len cap : Nat} {ws : List Nat} (h : ct w B ao len cap ws) {g : Nat} {t : TypeId} {cs : List Value} (hr : a6 w g t cs) (ht : t ≠ 47) (i : Nat) (u : Value) : ct (w.setCell ⟨g, i, none⟩ u) B ao len cap ws := by
 obtain ⟨h1, h2, h3, h4⟩ := h;refine ⟨h1, h2, h3, ?_⟩;rcases h4 with h0 | ⟨g', c, cur, hv, hbb, hg, r⟩
 . exact .inl h0
 . have hne : g' ≠ g := by
    rintro rfl;unfold a6 at hr;rw [hg] at hr;simp only [Option.some.injEq, Obj.cells.injEq] at hr;exact ht hr.2.1.symm
   exact .inr ⟨g', c, cur, hv, hbb, by rw [Below.heap_setCell _ _ _ _ hne]; exact hg, r⟩
theorem ae.setRow {w : World} {B : Nat} {v : Value} {x : Int} (h : ae w B v x) {g : Nat} {t : TypeId} {cs : List Value} (hr : a6 w g t cs) (ht : t ≠ 47) (i : Nat) (u : Value) : ae (w.setCell ⟨g, i, none⟩ u) B v x := by
 obtain ⟨ao, cap, rfl, hO⟩ := h;exact ⟨ao, cap, rfl, hO.setRow hr ht i u⟩
end Go.Proofs.YtbgecfleamckcaaGreat
namespace Go.Proofs.YtbgecfleamckcaaGreat
open Go
theorem qh {α} (p q : α -> Bool) (h : ∀ x, q x = true -> p x = true) (y : α) (hp : p y = true) (hq : q y = false) : ∀ l : List α, y ∈ l -> l.countP q < l.countP p
 | [], hm => by cases hm
 | x :: l, hm => by
  have hle : ∀ l : List α, l.countP q <= l.countP p := fun l => List.countP_mono_left (fun x _ => h x);rw [List.countP_cons, List.countP_cons];rcases List.mem_cons.1 hm with rfl | hm
  . rw [hp, hq]; have := hle l; simp; omega
  . have := qh p q h y hp hq l hm;cases hqx : q x
    . simp; omega
    . rw [h x hqx]; simp; omega
def gD (ops : Array Oper) (n : Nat) (L : Nat -> Bool) : Prop := ∀ k < n, L k = true -> ((ops[k]?).map (·.after.all fun e => !Region.binds .any e || L e.on)).getD false = true
theorem gD.add {ops : Array Oper} {n i : Nat} {L L' : Nat -> Bool} (h : gD ops n L) (hi : ((ops[i]?).map (·.after.all fun e => !Region.binds .any e || L e.on)).getD false = true) (hL : ∀ j, L' j = if j = i then true else L j) : gD ops n L' := by
 have mono : ∀ k : Nat, ((ops[k]?).map (·.after.all fun e => !Region.binds .any e || L e.on)).getD false = true -> ((ops[k]?).map (·.after.all fun e => !Region.binds .any e || L' e.on)).getD false = true := by
  intro k hk;cases ho : ops[k]? with
  | none => rw [ho] at hk; simp at hk
  | some o =>
   rw [ho] at hk;simp only [Option.map_some, Option.getD_some] at hk |-;rw [Array.all_eq_true] at hk |-;intro m hm;have := hk m hm;simp only [Bool.or_eq_true] at this |-;refine this.imp id fun h => ?_;rw [hL]; split
   . rfl
   . exact h
 intro k hk hLk;rw [hL] at hLk;by_cases hki : k = i
 . subst hki; exact mono k hi
 . rw [if_neg hki] at hLk; exact mono k (h k hk hLk)
theorem wk {P : Program} {ops : Array Oper} {Q : Exit -> Act -> World -> Prop} {n : Nat} (hn : ops.size = n)
 (hb : ((List.range n).all fun i => ((ops[i]?).map (·.after.all fun e => !Region.binds .any e || decide (e.on < i))).getD false) = true)
 (F : (Nat -> Value) -> Act) (J : (Nat -> Bool) -> (Nat -> Value) -> World -> Prop)
 (hs : ∀ i < n, ∀ L x w, J L x w -> gD ops n L -> L i = false -> ((ops[i]?).map (·.after.all fun e => !Region.binds .any e || L e.on)).getD false = true -> wpOp P ops Q i (fun a' w' => ∃ x', a' = F x' /\ J (fun j => if j = i then true else L j) x' w') (F x) w)
 (hend : ∀ L x w, (∀ i < n, L i = true) -> J L x w -> Q .normal (F x) w) :
 ∀ (fuel : Nat) (listed : Array Bool) (x : Nat -> Value) (w : World), listed.size = n -> (List.range n).countP (fun i => !listed.getD i false) <= fuel -> gD ops n (fun j => listed.getD j false) -> J (fun j => listed.getD j false) x w -> wpAny P .any ops Q fuel listed (F x) w := by
 have hex : ∀ listed : Array Bool, listed.size = n -> Region.ready .any ops listed = [] -> ∀ i < n, listed.getD i false = true := by
  intro listed hsz hr i;induction i using Nat.strongRecOn with
  | _ i ih =>
   intro hi;by_cases h : listed.getD i false = true
   . exact h
   exfalso;have hm : i ∈ Region.ready .any ops listed := by
    simp only [Region.ready, List.mem_filter, List.mem_range, hn, Bool.and_eq_true];refine ⟨hi, ?_, ?_⟩
    . simp only [Array.getD_eq_getD_getElem?] at h |-;rw [Array.getElem?_eq_getElem (by omega)] at h |-;simpa using h
    . have := List.all_eq_true.1 hb i (List.mem_range.2 hi);cases ho : ops[i]? with
      | none => rw [ho] at this; simp at this
      | some o =>
       rw [ho] at this;simp only [Option.map_some, Option.getD_some] at this |-;rw [Array.all_eq_true] at this |-;intro k hk;have hlt := this k hk;simp only [Bool.or_eq_true, decide_eq_true_eq] at hlt |-;exact hlt.imp id fun hlt => ih _ hlt (by omega)
   rw [hr] at hm; cases hm
 intro fuel;induction fuel with
 | zero =>
  intro listed x w hsz hf hG hJ;have hr : Region.ready .any ops listed = [] := by
   refine List.eq_nil_iff_forall_not_mem.2 fun i hi => ?_;simp only [Region.ready, List.mem_filter, List.mem_range, hn, Bool.and_eq_true] at hi;have : 0 < (List.range n).countP (fun i => !listed.getD i false) := List.countP_pos_iff.2 ⟨i, List.mem_range.2 hi.1, by
    have h1 := hi.2.1;simp only [Array.getD_eq_getD_getElem?] at h1 |-;rw [Array.getElem?_eq_getElem (by omega)] at h1 |-;simpa using h1⟩
   omega
  exact ⟨hr, hend _ x w (hex listed hsz hr) hJ⟩
 | succ fuel ih =>
  intro listed x w hsz hf hG hJ;refine ⟨fun hr => hend _ x w (hex listed hsz hr) hJ, fun i hi => ?_⟩;simp only [Region.ready, List.mem_filter, List.mem_range, hn, Bool.and_eq_true] at hi;have hfi : listed.getD i false = false := by
   have h1 := hi.2.1;simp only [Array.getD_eq_getD_getElem?] at h1 |-;rw [Array.getElem?_eq_getElem (by omega)] at h1 |-;simpa using h1
  refine wpOp_mono ?_ (hs i hi.1 _ x w hJ hG hfi hi.2.2);rintro a' w' ⟨x', rfl, hJ'⟩;have e : (fun j => if j = i then true else listed.getD j false) = fun j => (listed.setIfInBounds i true).getD j false := by
   funext j;by_cases hj : j = i
   . subst hj; simp [Array.getD_eq_getD_getElem?, Array.getElem?_setIfInBounds, hsz, hi.1]
   . simp [Array.getD_eq_getD_getElem?, Array.getElem?_setIfInBounds, hj, Ne.symm hj]
  rw [e] at hJ';refine ih _ x' w' (by simp [hsz]) ?_ (hG.add hi.2.2 (fun j => (congrFun e j).symm)) hJ';have := qh (fun i => !listed.getD i false) (fun j => !(listed.setIfInBounds i true).getD j false) (by
   intro j hj;rw [<- congrFun e j] at hj;by_cases hji : j = i
   . simp [hji] at hj
   . simpa [hji] using hj) i (by simp [hfi]) (by rw [<- congrFun e i]; simp) (List.range n) (List.mem_range.2 hi.1)
  omega
theorem uR {P : Program} {ops : Array Oper} {Q : Exit -> Act -> World -> Prop} {n : Nat} {a : Act} {w : World} (hn : ops.size = n)
 (hb : ((List.range n).all fun i => ((ops[i]?).map (·.after.all fun e => !Region.binds .any e || decide (e.on < i))).getD false) = true)
 (F : (Nat -> Value) -> Act) (J : (Nat -> Bool) -> (Nat -> Value) -> World -> Prop) (x0 : Nat -> Value) (ha : a = F x0)
 (h0 : J (fun _ => false) x0 w.drew)
 (hs : ∀ i < n, ∀ L x w, J L x w -> gD ops n L -> L i = false -> ((ops[i]?).map (·.after.all fun e => !Region.binds .any e || L e.on)).getD false = true -> wpOp P ops Q i (fun a' w' => ∃ x', a' = F x' /\ J (fun j => if j = i then true else L j) x' w') (F x) w)
 (hend : ∀ L x w, (∀ i < n, L i = true) -> J L x w -> Q .normal (F x) w) : wpAny P .any ops Q ops.size (Array.replicate ops.size false) a w.drew := by
 subst ha;refine wk hn hb F J hs hend _ _ x0 _ (by simp [hn]) ?_ ?_ ?_
 . exact Nat.le_trans List.countP_le_length (by simp [hn])
 . intro k _ hk;simp only [Array.getD_eq_getD_getElem?, Array.getElem?_replicate] at hk;split at hk <;> simp at hk
 . have e : (fun j => (Array.replicate ops.size false).getD j false) = fun _ => false := by
    funext j; simp [Array.getD_eq_getD_getElem?, Array.getElem?_replicate]; split <;> rfl
   rw [e]; exact h0
theorem ig {P : Program} {ops : Array Oper} {Q : Exit -> Act -> World -> Prop} {id n : Nat} {a : Act} {w : World} (hm : P.follows .mixedOrders = true) (hn : ops.size = n)
 (hb : ((List.range n).all fun i => ((ops[i]?).map (·.after.all fun e => !Region.binds .any e || decide (e.on < i))).getD false) = true)
 (F : (Nat -> Value) -> Act) (J : (Nat -> Bool) -> (Nat -> Value) -> World -> Prop) (x0 : Nat -> Value) (ha : a = F x0)
 (h0 : J (fun _ => false) x0 w.drew)
 (hs : ∀ i < n, ∀ L x w, J L x w -> gD ops n L -> L i = false -> ((ops[i]?).map (·.after.all fun e => !Region.binds .any e || L e.on)).getD false = true -> wpOp P ops Q i (fun a' w' => ∃ x', a' = F x' /\ J (fun j => if j = i then true else L j) x' w') (F x) w)
 (hend : ∀ L x w, (∀ i < n, L i = true) -> J L x w -> Q .normal (F x) w) : (Code.region id ops true).wp P Q a w := wp_region_any hm (uR hn hb F J x0 ha h0 hs hend)
end Go.Proofs.YtbgecfleamckcaaGreat
namespace Go.Proofs.YtbgecfleamckcaaGreat
open Go.RowKit
theorem aK.set {cs : List Value} (h : aK cs) (i : Nat) {u : Value} (hu : ∀ n, u ≠ .int .u64 n) : aK (cs.set i u) := fun c hc n => by
 rcases List.mem_or_eq_of_mem_set hc with hc | rfl
 . exact h c hc n
 . exact hu n
structure AV where
 holds : World -> Value -> Prop
 below : ∀ {w w' : World} {v : Value}, holds w v -> Below w.heap.size w w' -> holds w' v
 ban : TypeId -> Bool
 set : ∀ {w : World} {v : Value} {g : Nat} {t : TypeId} {cs : List Value}, holds w v -> a6 w g t cs -> aK cs -> t ≠ 47 -> ban t = false -> ∀ (k : Nat) (u : Value), (∀ n, u ≠ .int .u64 n) -> holds (w.setCell ⟨g, k, none⟩ u) v
def AV.free (holds : World -> Value -> Prop) (below : ∀ {w w' : World} {v : Value}, holds w v -> Below w.heap.size w w' -> holds w' v)
 (set : ∀ {w : World} {v : Value} {g : Nat} {t : TypeId} {cs : List Value}, holds w v -> a6 w g t cs -> aK cs -> t ≠ 47 -> ∀ (k : Nat) (u : Value), (∀ n, u ≠ .int .u64 n) -> holds (w.setCell ⟨g, k, none⟩ u) v) : AV :=
 ⟨holds, below, fun _ => false, fun h hr hn ht _ k u hu => set h hr hn ht k u hu⟩
def AV.any : AV := AV.free (fun _ _ => True) (fun _ _ => trivial) (fun _ _ _ _ _ _ _ => trivial)
def AV.val (u : Value) : AV := AV.free (fun _ v => v = u) (fun h _ => h) (fun h _ _ _ _ _ _ => h)
def AV.int (B : Nat) (x : Int) : AV := AV.free (fun w v => ae w B v x) (fun h hb => ae.below h hb) (fun h hr _ ht k u _ => ae.setRow h hr ht k u)
def AV.at_ (L : Nat) (x : Int) : AV := AV.free (fun w v => a8 w L v x) (fun h hb => a8.below h hb) (fun h hr hn _ k u _ => a8.setRow h hr hn k u)
def AV.ptr (B : Nat) (t : TypeId) (n : Nat) : AV := AV.free (fun w v => ∃ g cs, v = .pointer (some ⟨g, 0, none⟩) /\ B <= g /\ a6 w g t cs /\ aK cs /\ cs.length = n) (fun ⟨g, cs, e, hB, hr, hn, hl⟩ hb => ⟨g, cs, e, hB, hr.below hb hr.lt, hn, hl⟩) (fun {_ _ g' _ _} ⟨g, cs, e, hB, hr, hn, hl⟩ hr' _ _ k u hu => by
 by_cases hg : g = g'
 . subst hg; exact ⟨g, cs.set k u, e, hB, hr.set k u, hn.set k hu, by simpa using hl⟩
 . exact ⟨g, cs, e, hB, hr.other hg u, hn, hl⟩)
structure CV where
 holds : World -> List Value -> Prop
 below : ∀ {w w' : World} {v : List Value}, holds w v -> Below w.heap.size w w' -> holds w' v
 ban : TypeId -> Bool
 set : ∀ {w : World} {v : List Value} {g : Nat} {t : TypeId} {cs : List Value}, holds w v -> a6 w g t cs -> aK cs -> t ≠ 47 -> ban t = false -> ∀ (k : Nat) (u : Value), (∀ n, u ≠ .int .u64 n) -> holds (w.setCell ⟨g, k, none⟩ u) v
def CV.free (holds : World -> List Value -> Prop) (below : ∀ {w w' : World} {v : List Value}, holds w v -> Below w.heap.size w w' -> holds w' v)
 (set : ∀ {w : World} {v : List Value} {g : Nat} {t : TypeId} {cs : List Value}, holds w v -> a6 w g t cs -> aK cs -> t ≠ 47 -> ∀ (k : Nat) (u : Value), (∀ n, u ≠ .int .u64 n) -> holds (w.setCell ⟨g, k, none⟩ u) v) : CV :=
 ⟨holds, below, fun _ => false, fun h hr hn ht _ k u hu => set h hr hn ht k u hu⟩
def CV.int (B : Nat) (x : Int) : CV := CV.free (fun w cs => ∃ b ao l k, cs = [.bool b, .slice ao l k] /\ ae w B (.agg #[.bool b, .slice ao l k]) x) (fun ⟨b, ao, l, k, e, h⟩ hb => ⟨b, ao, l, k, e, ae.below h hb⟩) (fun ⟨b, ao, l, k, e, h⟩ hr _ ht j u _ => ⟨b, ao, l, k, e, ae.setRow h hr ht j u⟩)
def eT (w : World) (g : Nat) : Nat -> List Value -> World
 | _, [] => w
 | k, u :: us => eT (w.setCell ⟨g, k, none⟩ u) g (k + 1) us
theorem aK.tail {u : Value} {us : List Value} (h : aK (u :: us)) : aK us := fun c hc => h c (List.mem_cons_of_mem _ hc)
theorem aK.head {u : Value} {us : List Value} (h : aK (u :: us)) : ∀ n, u ≠ .int .u64 n := h u (List.mem_cons_self ..)
theorem a6.eT {g : Nat} {t : TypeId} : ∀ (us : List Value) (k : Nat) {w : World} {cs : List Value}, a6 w g t cs -> k + us.length = cs.length -> a6 (eT w g k us) g t (cs.take k ++ us)
 | [], k, w, cs, h, hl => by
  rw [List.append_nil, List.take_of_length_le (by simp at hl; omega)]; exact h
 | u :: us, k, w, cs, h, hl => by
  have h1 := a6.eT us (k + 1) (h.set k u) (by simp at hl |-; omega);have e : (cs.set k u).take (k + 1) = cs.take k ++ [u] := by
   simp at hl;rw [List.take_succ_eq_append_getElem (by simp; omega), List.take_set_of_le (Nat.le_refl _)];simp
  rw [e] at h1;simpa [Go.Proofs.YtbgecfleamckcaaGreat.eT] using h1
theorem AV.kV (a : AV) {v : Value} {g : Nat} {t : TypeId} (ht : t ≠ 47) (hb : a.ban t = false) : ∀ (us : List Value) (k : Nat) {w : World} {cs : List Value}, a.holds w v -> a6 w g t cs -> aK cs -> aK us -> a.holds (eT w g k us) v
 | [], k, w, cs, h, _, _, _ => h
 | u :: us, k, w, cs, h, hr, hn, hu => AV.kV a ht hb us (k + 1) (a.set h hr hn ht hb k u hu.head) (hr.set k u) (hn.set k hu.head) hu.tail
theorem CV.kV (a : CV) {v : List Value} {g : Nat} {t : TypeId} (ht : t ≠ 47) (hb : a.ban t = false) : ∀ (us : List Value) (k : Nat) {w : World} {cs : List Value}, a.holds w v -> a6 w g t cs -> aK cs -> aK us -> a.holds (Go.Proofs.YtbgecfleamckcaaGreat.eT w g k us) v
 | [], k, w, cs, h, _, _, _ => h
 | u :: us, k, w, cs, h, hr, hn, hu => CV.kV a ht hb us (k + 1) (a.set h hr hn ht hb k u hu.head) (hr.set k u) (hn.set k hu.head) hu.tail
theorem a6.fY {b g : Nat} {t : TypeId} (hne : b ≠ g) : ∀ (us : List Value) (k : Nat) {w : World} {cs : List Value}, a6 w b t cs -> a6 (Go.Proofs.YtbgecfleamckcaaGreat.eT w g k us) b t cs
 | [], k, w, cs, h => h
 | u :: us, k, w, cs, h => a6.fY hne us (k + 1) (h.other hne u)
theorem lf {B g : Nat} (hg : B <= g) : ∀ (us : List Value) (k : Nat) {w w' : World}, Below B w w' -> Below B w (eT w' g k us)
 | [], k, w, w', h => h
 | u :: us, k, w, w', h => lf hg us (k + 1) (h.setCell (p := ⟨g, k, none⟩) hg u)
theorem mJ {g : Nat} {a : Addr} (hne : g ≠ a.block) : ∀ (us : List Value) (k : Nat) {w : World}, (eT w g k us).cell? a = w.cell? a
 | [], k, w => rfl
 | u :: us, k, w => (mJ hne us (k + 1)).trans (World.cell?_setCell_far _ _ _ _ hne)
theorem mS {g : Nat} : ∀ (us : List Value) (k : Nat) {w : World}, (eT w g k us).heap.size = w.heap.size
 | [], k, w => rfl
 | u :: us, k, w => (mS us (k + 1)).trans (by simp)
def fw (L : Nat -> Bool) (i : Nat) : Nat -> Bool := fun j => if j = i then true else L j
def aZ (x : Nat -> Value) (d : Nat) (v : Value) : Nat -> Value := fun j => if j = d then v else x j
theorem aA {x : Nat -> Value} {d : Nat} {v : Value} (h : x d = v) : x = aZ x d v := by
 funext k; unfold aZ; split
 . rename_i e; rw [e, h]
 . rfl
structure RD where
 n : Nat
 dst : Nat -> Nat
 av : Nat -> AV
 tg : List (Nat × Nat × AV)
 bs : List (Value × AV)
 rows : List (Nat × TypeId × List Value)
 nw : List (Nat × Nat × TypeId × CV)
 cells : List (Addr × Value)
 al : List (Nat × Nat)
def RD.okB (d : RD) (t : TypeId) : Bool := (List.range d.n).all (fun i => !(d.av i).ban t) && d.tg.all (fun q => !q.2.2.ban t) && d.bs.all (fun p => !p.2.ban t) && d.nw.all (fun q => !q.2.2.2.ban t)
theorem RD.okB.all {d : RD} {t : TypeId} (h : d.okB t = true) : (∀ i, i < d.n -> (d.av i).ban t = false) /\ (∀ q ∈ d.tg, q.2.2.ban t = false) /\ (∀ p ∈ d.bs, p.2.ban t = false) /\ ∀ q ∈ d.nw, q.2.2.2.ban t = false := by
 unfold RD.okB at h;simp only [Bool.and_eq_true, List.all_eq_true, Bool.not_eq_true', List.mem_range] at h;exact ⟨h.1.1.1, h.1.1.2, h.1.2, h.2⟩
structure RD.J (d : RD) (g0 B : Nat) (w0 : World) (L : Nat -> Bool) (x : Nat -> Value) (w : World) : Prop where
 fr : Below g0 w0 w
 size : B <= w.heap.size
 base : ∀ p ∈ d.bs, p.2.holds w p.1
 rows : ∀ p ∈ d.rows, a6 w p.1 p.2.1 p.2.2 /\ p.1 < B /\ ∀ t ∈ d.tg, p.1 ≠ t.2.1
 cells : ∀ p ∈ d.cells, w.cell? p.1 = some p.2 /\ p.1.block < B /\ ∀ t ∈ d.tg, p.1.block ≠ t.2.1
 slot : ∀ i, i < d.n -> L i = true -> (d.av i).holds w (x (d.dst i))
 tgt : ∀ t ∈ d.tg, g0 <= t.2.1 /\ t.2.1 < B /\ ∃ n ao l k, a6 w t.2.1 40 [.bool n, .slice ao l k] /\ (L t.1 = true -> t.2.2.holds w (.agg #[.bool n, .slice ao l k]))
 apart : ∀ p ∈ d.al, ∀ q ∈ d.al, p.1 ≠ q.1 -> L p.1 = true -> L q.1 = true -> x p.2 ≠ x q.2
 new : ∀ t ∈ d.nw, L t.1 = true -> ∃ g cs, x t.2.1 = .pointer (some ⟨g, 0, none⟩) /\ B <= g /\ a6 w g t.2.2.1 cs /\ t.2.2.2.holds w cs
theorem RD.J.grow {d : RD} {g0 B : Nat} {w0 w w' : World} {L : Nat -> Bool} {x : Nat -> Value} (h : d.J g0 B w0 L x w) (i : Nat) (hi : i < d.n) (v : Value)
 (hd : ((List.range d.n).all fun j => d.dst j != d.dst i || j == i) = true) (ht : (d.tg.all fun t => t.1 != i) = true) (hnw : ∀ t ∈ d.nw, t.1 ≠ i /\ (t.2.1 = d.dst i -> L t.1 = false)) (hal : ∀ p ∈ d.al, (p.1 = i ↔ p.2 = d.dst i) /\ (p.1 = i -> ∀ q ∈ d.al, q.1 ≠ i -> L q.1 = true -> v ≠ x q.2)) (hb : Below w.heap.size w w') (hv : (d.av i).holds w' v) (hg : g0 <= w.heap.size) :
 d.J g0 B w0 (fw L i) (aZ x (d.dst i) v) w' := by
 refine ⟨h.fr.trans (hb.mono hg), Nat.le_trans h.size hb.size, fun p hp => AV.below _ (h.base p hp) hb, fun p hp => ⟨(h.rows p hp).1.below hb (h.rows p hp).1.lt, (h.rows p hp).2⟩, fun p hp => ⟨(hb.cell (Nat.lt_of_lt_of_le (h.cells p hp).2.1 h.size)).trans (h.cells p hp).1, (h.cells p hp).2⟩, fun j hj hL => ?_, fun t ht' => ?_, fun p hp q hq hpq hLp hLq => ?_, fun t ht' hL => ?_⟩
 . unfold aZ;by_cases hji : j = i
   . subst hji; rw [if_pos rfl]; exact hv
   . have := List.all_eq_true.1 hd j (List.mem_range.2 hj);simp only [Bool.or_eq_true, bne_iff_ne, beq_iff_eq] at this;rw [if_neg (this.resolve_right hji)];unfold fw at hL;rw [if_neg hji] at hL;exact AV.below _ (h.slot j hj hL) hb
 . obtain ⟨h1, h2, a, b, l, k, hr, hc⟩ := h.tgt t ht';refine ⟨h1, h2, a, b, l, k, hr.below hb hr.lt, fun hL => ?_⟩;have hne := List.all_eq_true.1 ht t ht';simp only [bne_iff_ne] at hne;unfold fw at hL;rw [if_neg hne] at hL;exact AV.below _ (hc hL) hb
 . unfold fw at hLp hLq;unfold aZ;by_cases hpi : p.1 = i
   . have hqi : q.1 ≠ i := fun e => hpq (hpi.trans e.symm);rw [if_neg hqi] at hLq;rw [if_pos ((hal p hp).1.1 hpi), if_neg (fun e => hqi ((hal q hq).1.2 e))];exact (hal p hp).2 hpi q hq hqi hLq
   . rw [if_neg hpi] at hLp;by_cases hqi : q.1 = i
     . rw [if_pos ((hal q hq).1.1 hqi), if_neg (fun e => hpi ((hal p hp).1.2 e))];exact fun e => (hal q hq).2 hqi p hp hpi hLp e.symm
     . rw [if_neg hqi] at hLq;rw [if_neg (fun e => hpi ((hal p hp).1.2 e)), if_neg (fun e => hqi ((hal q hq).1.2 e))];exact h.apart p hp q hq hpq hLp hLq
 . have hne := hnw t ht';unfold fw at hL;rw [if_neg hne.1] at hL;obtain ⟨g, cs, e, hB, hr, hc⟩ := h.new t ht' hL;refine ⟨g, cs, ?_, hB, hr.below hb hr.lt, CV.below _ hc hb⟩;unfold aZ;rw [if_neg (fun e2 => by rw [hne.2 e2] at hL; cases hL)];exact e
theorem RD.J.growB {d : RD} {g0 B : Nat} {w0 w w' : World} {L : Nat -> Bool} {x : Nat -> Value} (h : d.J g0 B w0 L x w) (i : Nat) (hi : i < d.n) (v : Value)
 (hd : ((List.range d.n).all fun j => d.dst j != d.dst i || j == i) = true) (ht : (d.tg.all fun t => t.1 != i) = true) (hk : (d.nw.all (fun t => t.1 != i && t.2.1 != d.dst i) && d.al.all (fun p => p.1 != i && p.2 != d.dst i)) = true) (hb : Below w.heap.size w w') (hv : (d.av i).holds w' v) (hg : g0 <= w.heap.size) :
 d.J g0 B w0 (fw L i) (aZ x (d.dst i) v) w' := by
 simp only [Bool.and_eq_true, List.all_eq_true, bne_iff_ne] at hk;exact h.grow i hi v hd ht (fun t ht => ⟨(hk.1 t ht).1, fun e => absurd e (hk.1 t ht).2⟩) (fun p hp => ⟨⟨fun e => absurd e (hk.2 p hp).1, fun e => absurd e (hk.2 p hp).2⟩, fun e => absurd e (hk.2 p hp).1⟩) hb hv hg
theorem RD.J.fs {d : RD} {g0 B : Nat} {w0 w : World} {L : Nat -> Bool} {x : Nat -> Value} (h : d.J g0 B w0 L x w) (i s : Nat) (t : TypeId) (A : CV) (hi : i < d.n) (hav : d.av i = .any) (hm : (i, s, t, A) ∈ d.nw) (hu1 : ∀ t' ∈ d.nw, t'.1 = i -> t' = (i, s, t, A)) (hap : ∀ t' ∈ d.nw, t'.1 ≠ i -> L t'.1 = true -> x t'.2.1 ≠ x s) (hal : (d.al.all fun t => t.1 != i) = true) (htg : (d.tg.all fun t => t.1 != i) = true) (ht : t ≠ 47)
 {g : Nat} {cs us : List Value} (hx : x s = .pointer (some ⟨g, 0, none⟩)) (hB : B <= g) (hr : a6 w g t cs) (hn : aK cs) (hl : us.length = cs.length) (hu : aK us) (hv : A.holds w us) (hg : g0 <= B) (hban : d.okB t = true := by kernel_rfl) :
 d.J g0 B w0 (fw L i) x (eT w g 0 us) := by
 have hO := RD.okB.all hban;have T : ∀ (a : AV) (v : Value), a.ban t = false -> a.holds w v -> a.holds (eT w g 0 us) v := fun a v hb hh => AV.kV a ht hb _ 0 hh hr hn hu;have T' : ∀ (a : CV) (v : List Value), a.ban t = false -> a.holds w v -> a.holds (eT w g 0 us) v := fun a v hb hh => CV.kV a ht hb _ 0 hh hr hn hu;refine ⟨lf (by omega) _ _ h.fr, by rw [mS]; exact h.size, fun p hp => T _ _ (hO.2.2.1 p hp) (h.base p hp), fun p hp => ⟨a6.fY (by have := (h.rows p hp).2.1; omega) _ _ (h.rows p hp).1, (h.rows p hp).2⟩, fun p hp => ⟨(mJ (by have := (h.cells p hp).2.1; omega) _ _).trans (h.cells p hp).1, (h.cells p hp).2⟩, fun j hj hL => ?_, fun t' ht' => ?_, fun p hp q hq hpq hLp hLq => ?_, fun t' ht' hL => ?_⟩
 . by_cases hji : j = i
   . subst hji; rw [hav]; exact trivial
   . unfold fw at hL;rw [if_neg hji] at hL;exact T _ _ (hO.1 j hj) (h.slot j hj hL)
 . obtain ⟨h1, h2, a, b, l', k', hr', hc⟩ := h.tgt t' ht';refine ⟨h1, h2, a, b, l', k', a6.fY (by omega) _ _ hr', fun hL => ?_⟩;have hne := List.all_eq_true.1 htg t' ht';simp only [bne_iff_ne] at hne;unfold fw at hL;rw [if_neg hne] at hL;exact T _ _ (hO.2.1 t' ht') (hc hL)
 . have h1 := List.all_eq_true.1 hal p hp;have h2 := List.all_eq_true.1 hal q hq;simp only [bne_iff_ne] at h1 h2;unfold fw at hLp hLq;rw [if_neg h1] at hLp;rw [if_neg h2] at hLq;exact h.apart p hp q hq hpq hLp hLq
 . by_cases hti : t'.1 = i
   . obtain rfl := hu1 t' ht' hti;have := a6.eT us 0 hr (by omega);exact ⟨g, us, hx, hB, by simpa using this, T' _ _ (hO.2.2.2 _ hm) hv⟩
   . unfold fw at hL;rw [if_neg hti] at hL;obtain ⟨g', cs', e, hB', hr', hc⟩ := h.new t' ht' hL;have hgg : g' ≠ g := by
      rintro rfl;exact hap t' ht' hti hL (e.trans hx.symm)
     exact ⟨g', cs', e, hB', a6.fY hgg _ _ hr', T' _ _ (hO.2.2.2 t' ht') hc⟩
theorem mE {cs : List Value} (h : cs.length = 2) : ∃ a b, cs = [a, b] := by
 match cs, h with
 | [a, b], _ => exact ⟨a, b, rfl⟩
theorem fl {α : Type} {a : α} {l : List α} : a ∈ a :: l := List.mem_cons_self ..
theorem iP {α : Type} {a b0 : α} {l : List α} : a ∈ b0 :: a :: l := List.mem_cons_of_mem _ fl
theorem oZ {α : Type} {a b0 b1 : α} {l : List α} : a ∈ b0 :: b1 :: a :: l := List.mem_cons_of_mem _ iP
theorem vV {α : Type} {a b0 b1 b2 : α} {l : List α} : a ∈ b0 :: b1 :: b2 :: a :: l := List.mem_cons_of_mem _ oZ
theorem BP {α : Type} {a b0 b1 b2 b3 : α} {l : List α} : a ∈ b0 :: b1 :: b2 :: b3 :: a :: l := List.mem_cons_of_mem _ vV
theorem mm5 {α : Type} {a b0 b1 b2 b3 b4 : α} {l : List α} : a ∈ b0 :: b1 :: b2 :: b3 :: b4 :: a :: l := List.mem_cons_of_mem _ BP
theorem mm6 {α : Type} {a b0 b1 b2 b3 b4 b5 : α} {l : List α} : a ∈ b0 :: b1 :: b2 :: b3 :: b4 :: b5 :: a :: l := List.mem_cons_of_mem _ mm5
theorem mc {α : Type} {a b : α} {l : List α} (h : a ∈ b :: l) : a = b \/ a ∈ l := List.mem_cons.1 h
def cX (a : Act) (x : Nat -> Value) (ds : List Nat) : Act := ds.foldl (fun b d => b.put (some d) (x d)) a
theorem pN : (∀ (a : Act) (x : Nat -> Value), cX a x [] = a) /\ (∀ (a : Act) (x : Nat -> Value) (d : Nat) (ds : List Nat), cX a x (d :: ds) = cX (a.put (some d) (x d)) x ds) /\
 (∀ (l : List Value) (df : List Deferred) (d : Nat) (v : Value), Act.put ⟨l.toArray, df⟩ (some d) v = ⟨(l.set d v).toArray, df⟩) /\ (∀ (x : Nat -> Value) (d : Nat) (v : Value) (j : Nat), aZ x d v j = if j = d then v else x j) /\
 (∀ (a b : Value) (l : List Value), (a :: l).set 0 b = b :: l) /\ (∀ (a b : Value) (l : List Value) (n : Nat), (a :: l).set (n + 1) b = a :: l.set n b) :=
 ⟨fun _ _ => rfl, fun _ _ _ _ => rfl, fun l df d v => by simp [Act.put], fun _ _ _ _ => rfl, fun _ _ _ => rfl, fun _ _ _ _ => rfl⟩
attribute [go_sem] pN
theorem aM {P : Program} {ops : Array Oper} {Q : Exit -> Act -> World -> Prop} {i : Nat} {o : Oper} {K : Act -> World -> Prop} {a : Act} {w : World} (ho : ops[i]? = some o)
 (h : ∀ K' : Act -> World -> Prop, (∀ a w, K a w -> K' a w) -> if Region.wanted o (yielded ops a.tmps) = true then Oper.wp P o a w K' Q else K' (a.put o.dst undef) w) : wpOp P ops Q i K a w := wpOp_step ho h
theorem RD.J.pt {d : RD} {g0 B : Nat} {w0 w : World} {L : Nat -> Bool} {x : Nat -> Value} (h : d.J g0 B w0 L x w) (i s : Nat) (v : Value) (hi : Nat.blt i d.n = true) (hs : d.dst i = s) (ha : d.av i = .val v) (hL : L i = true) : x = aZ x s v := by
 have e := h.slot i (Nat.le_of_ble_eq_true hi) hL;rw [ha, hs] at e;exact aA e
theorem RD.J.gC {d : RD} {g0 B : Nat} {w0 w w' : World} {L : Nat -> Bool} {x : Nat -> Value} (h : d.J g0 B w0 L x w) (i : Nat) (hi : Nat.blt i d.n = true) {v : Value}
 (hk : (((List.range d.n).all fun j => d.dst j != d.dst i || j == i) && (d.tg.all fun t => t.1 != i) && (d.nw.all (fun t => t.1 != i && t.2.1 != d.dst i) && d.al.all (fun p => p.1 != i && p.2 != d.dst i))) = true) (hb : Below w.heap.size w w') (hv : (d.av i).holds w' v) (hg : g0 <= B) :
 d.J g0 B w0 (fw L i) (aZ x (d.dst i) v) w' := by
 rw [Bool.and_eq_true, Bool.and_eq_true] at hk;exact h.growB i (Nat.le_of_ble_eq_true hi) v hk.1.1 hk.1.2 hk.2 hb hv (Nat.le_trans hg h.size)
theorem RD.J.pC {d : RD} {g0 B : Nat} {w0 w : World} {L : Nat -> Bool} {x : Nat -> Value} (h : d.J g0 B w0 L x w) (i : Nat) (hi : Nat.blt i d.n = true) {v : Value}
 (hk : (((List.range d.n).all fun j => d.dst j != d.dst i || j == i) && (d.tg.all fun t => t.1 != i) && (d.nw.all (fun t => t.1 != i && t.2.1 != d.dst i) && d.al.all (fun p => p.1 != i && p.2 != d.dst i))) = true) (hv : (d.av i).holds w v) (hg : g0 <= B) :
 d.J g0 B w0 (fw L i) (aZ x (d.dst i) v) w := h.gC i hi hk (Below.refl _ _) hv hg
theorem RD.J.q {d : RD} {g0 B : Nat} {w0 w : World} {L : Nat -> Bool} {x : Nat -> Value} (h : d.J g0 B w0 L x w) {A a : Act} {ds : List Nat} {i : Nat} {K : Act -> World -> Prop} (hK : ∀ a w, (∃ x', a = cX A x' ds /\ d.J g0 B w0 (fw L i) x' w) -> K a w) {v : Value}
 (hk : (Nat.blt i d.n && (((List.range d.n).all fun j => d.dst j != d.dst i || j == i) && (d.tg.all fun t => t.1 != i) && (d.nw.all (fun t => t.1 != i && t.2.1 != d.dst i) && d.al.all (fun p => p.1 != i && p.2 != d.dst i)))) = true) (hv : (d.av i).holds w v) (ha : a = cX A (aZ x (d.dst i) v) ds := by kernel_rfl) (hg : g0 <= B := by omega) : K a w := by
 rw [Bool.and_eq_true] at hk;exact hK _ _ ⟨_, ha, h.pC i hk.1 hk.2 hv hg⟩
theorem ag {p : Nat -> Prop} {i : Nat} {l : List Nat} (h : p i) (hs : ∀ j ∈ l, p j) : ∀ j ∈ i :: l, p j := fun j hj => by
 rcases List.mem_cons.1 hj with rfl | hj
 . exact h
 . exact hs j hj
theorem jy {p : Nat -> Prop} : ∀ j ∈ ([] : List Nat), p j := fun _ h => by cases h
def dQ (ops : Array Oper) (i : Nat) : List Nat := ((ops[i]?).map fun o => (o.after.toList.filter (Region.binds .any)).map (·.on)).getD []
def noD (ops : Array Oper) (i : Nat) : Bool := ((ops[i]?).map fun o => o.after.all fun e => match e.ground with | .data => false | _ => true).getD false
theorem ry {ops : Array Oper} {i : Nat} {L : Nat -> Bool} (_ : ∀ j ∈ dQ ops i, L j = true) (_ : noD ops i = true) : True := trivial
theorem eo (d : RD) (ds : List Nat) {P : Program} {ops : Array Oper} {Q : Exit -> Act -> World -> Prop} {id : Nat} {a : Act} {w : World} (g0 : Nat) (hm : P.follows .mixedOrders = true) (hn : ops.size = d.n)
 (hb : ((List.range d.n).all fun i => ((ops[i]?).map (·.after.all fun e => !Region.binds .any e || decide (e.on < i))).getD false) = true)
 (hF : a = cX a (fun k => a.tmps.getD k undef) ds)
 (hbs : ∀ p ∈ d.bs, p.2.holds w.drew p.1) (hrw : ∀ p ∈ d.rows, a6 w p.1 p.2.1 p.2.2 /\ p.1 < w.heap.size /\ ∀ t ∈ d.tg, p.1 ≠ t.2.1) (hcl : ∀ p ∈ d.cells, w.cell? p.1 = some p.2 /\ p.1.block < w.heap.size /\ ∀ t ∈ d.tg, p.1.block ≠ t.2.1) (ht : ∀ t ∈ d.tg, g0 <= t.2.1 /\ t.2.1 < w.heap.size /\ ∃ n ao l k, a6 w t.2.1 40 [.bool n, .slice ao l k])
 (hs : ∀ i ∈ List.range d.n, ∀ L x w', d.J g0 w.heap.size w.drew L x w' -> L i = false -> (∀ j ∈ dQ ops i, L j = true) -> (∀ k < d.n, L k = true -> ∀ j ∈ dQ ops k, L j = true) -> wpOp P ops Q i (fun a' w'' => ∃ x', a' = cX a x' ds /\ d.J g0 w.heap.size w.drew (fw L i) x' w'') (cX a x ds) w')
 (hend : ∀ L x w', (∀ i < d.n, L i = true) -> d.J g0 w.heap.size w.drew L x w' -> Q .normal (cX a x ds) w') : (Code.region id ops true).wp P Q a w := by
 have hpre : ∀ (L : Nat -> Bool) (i : Nat), ((ops[i]?).map (·.after.all fun e => !Region.binds .any e || L e.on)).getD false = true -> ∀ j ∈ dQ ops i, L j = true := by
  intro L i hp j hj;unfold dQ at hj;cases ho : ops[i]? with
  | none => rw [ho] at hj; simp at hj
  | some o =>
   rw [ho] at hp hj;simp only [Option.map_some, Option.getD_some, List.mem_map, List.mem_filter] at hj hp;obtain ⟨e, ⟨he, hbd⟩, rfl⟩ := hj;rw [Array.all_eq_true] at hp;obtain ⟨k, hk, rfl⟩ := Array.mem_iff_getElem.1 (Array.mem_def.2 he);have := hp k hk;rw [hbd] at this;simpa using this
 refine ig hm hn hb (fun x => cX a x ds) (d.J g0 w.heap.size w.drew) (fun k => a.tmps.getD k undef) hF ?_ (fun i hi L x w' hJ hG hL hp => hs i (List.mem_range.2 hi) L x w' hJ hL (hpre L i hp) (fun k hk hLk => hpre L k (hG k hk hLk))) hend;refine ⟨Below.refl _ _, Nat.le_refl _, hbs, hrw, hcl, fun i _ h => by simp at h, fun t h => ?_, fun _ _ _ _ _ h => by simp at h, fun _ _ h => by simp at h⟩;obtain ⟨h1, h2, a, b, l, k, hr⟩ := ht t h;exact ⟨h1, h2, a, b, l, k, hr, fun h => by simp at h⟩
theorem bB {α : Type} {Q : α -> Prop} {a : α} {l : List α} (h : Q a) (hs : ∀ p ∈ l, Q p) : ∀ p ∈ a :: l, Q p := fun p hp => by
 rcases List.mem_cons.1 hp with rfl | hp
 . exact h
 . exact hs p hp
theorem aR {α : Type} {Q : α -> Prop} : ∀ p ∈ ([] : List α), Q p := fun _ h => by cases h
section
variable {w w' : World} (hb : Below w.heap.size w w')
include hb
end
section
variable {w : World} {g : Nat} {us : List Value}
variable {t : TypeId} {cs : List Value} (ht : t ≠ 47) (hr : a6 w g t cs) (hn : aK cs) (hu : aK us)
include ht hr hn hu
end
theorem db {ops : Array Oper} (L : Nat -> Bool) (i : Nat) (hp : ((ops[i]?).map (·.after.all fun e => !Region.binds .any e || L e.on)).getD false = true) : ∀ j ∈ dQ ops i, L j = true := by
 intro j hj;unfold dQ at hj;cases ho : ops[i]? with
 | none => rw [ho] at hj; simp at hj
 | some o =>
  rw [ho] at hp hj;simp only [Option.map_some, Option.getD_some, List.mem_map, List.mem_filter] at hj hp;obtain ⟨e, ⟨he, hbd⟩, rfl⟩ := hj;rw [Array.all_eq_true] at hp;obtain ⟨k, hk, rfl⟩ := Array.mem_iff_getElem.1 (Array.mem_def.2 he);have := hp k hk;rw [hbd] at this;simpa using this
theorem cZ (d : RD) (ds : List Nat) {P : Program} {ops : Array Oper} {Q : Exit -> Act -> World -> Prop} {id : Nat} {a : Act} {w : World} (g0 : Nat) (hm : P.follows .mixedOrders = true) (hn : ops.size = d.n + 1)
 (hb : ((List.range (d.n + 1)).all fun i => ((ops[i]?).map (·.after.all fun e => !Region.binds .any e || decide (e.on < i))).getD false) = true)
 (hla : ((List.range d.n).all fun j => (List.range (d.n + 1)).any fun k => decide (j < k) && (dQ ops k).contains j) = true)
 (hF : a = cX a (fun k => a.tmps.getD k undef) ds)
 (hbs : ∀ p ∈ d.bs, p.2.holds w.drew p.1) (hrw : ∀ p ∈ d.rows, a6 w p.1 p.2.1 p.2.2 /\ p.1 < w.heap.size /\ ∀ t ∈ d.tg, p.1 ≠ t.2.1) (hcl : ∀ p ∈ d.cells, w.cell? p.1 = some p.2 /\ p.1.block < w.heap.size /\ ∀ t ∈ d.tg, p.1.block ≠ t.2.1) (ht : ∀ t ∈ d.tg, g0 <= t.2.1 /\ t.2.1 < w.heap.size /\ ∃ n ao l k, a6 w t.2.1 40 [.bool n, .slice ao l k])
 (hs : ∀ i ∈ List.range d.n, ∀ L x w', d.J g0 w.heap.size w.drew L x w' -> L i = false -> (∀ j ∈ dQ ops i, L j = true) -> (∀ k < d.n, L k = true -> ∀ j ∈ dQ ops k, L j = true) -> wpOp P ops Q i (fun a' w'' => ∃ x', a' = cX a x' ds /\ d.J g0 w.heap.size w.drew (fw L i) x' w'') (cX a x ds) w')
 (hend : ∀ L x w', (∀ i < d.n, L i = true) -> d.J g0 w.heap.size w.drew L x w' -> wpOp P ops Q d.n (fun a' w'' => (∃ x', a' = cX a x' ds) /\ Q .normal a' w'') (cX a x ds) w') : (Code.region id ops true).wp P Q a w := by
 have hdown : ∀ (L : Nat -> Bool), (∀ j ∈ dQ ops d.n, L j = true) -> (∀ k < d.n, L k = true -> ∀ j ∈ dQ ops k, L j = true) -> ∀ j < d.n, L j = true := by
  intro L hp hg;have key : ∀ m j, d.n - j <= m -> j < d.n -> L j = true := by
   intro m;induction m with
   | zero => intro j h1 h2; omega
   | succ m ih =>
    intro j h1 h2;have := List.all_eq_true.1 hla j (List.mem_range.2 h2);obtain ⟨k, hk, hjk⟩ := List.any_eq_true.1 this;simp only [Bool.and_eq_true, decide_eq_true_eq, List.contains_iff_mem] at hjk;have hk' := List.mem_range.1 hk;by_cases hkn : k = d.n
    . subst hkn; exact hp j hjk.2
    . exact hg k (by omega) (ih k (by omega) (by omega)) j hjk.2
  exact fun j hj => key (d.n - j) j (Nat.le_refl _) hj
 refine ig hm hn hb (fun x => cX a x ds) (fun L x w' => (L d.n = false /\ d.J g0 w.heap.size w.drew L x w') \/ (L d.n = true /\ Q .normal (cX a x ds) w')) (fun k => a.tmps.getD k undef) hF ?_ ?_ ?_
 . refine .inl ⟨rfl, Below.refl _ _, Nat.le_refl _, hbs, hrw, hcl, fun i _ h => by simp at h, fun t h => ?_, fun _ _ _ _ _ h => by simp at h, fun _ _ h => by simp at h⟩;obtain ⟨h1, h2, a, b, l, k, hr⟩ := ht t h;exact ⟨h1, h2, a, b, l, k, hr, fun h => by simp at h⟩
 . intro i hi L x w' hJ hG hL hp;by_cases hin : i = d.n
   . subst hin;rcases hJ with ⟨_, hJ⟩ | ⟨h, _⟩
     . have hall : ∀ j < d.n, L j = true := hdown L (db L d.n hp) (fun k hk hLk => db L k (hG k (by omega) hLk));refine wpOp_mono ?_ (hend L x w' hall hJ);rintro a' w'' ⟨⟨x', rfl⟩, hQ⟩;exact ⟨x', rfl, .inr ⟨by simp, hQ⟩⟩
     . rw [h] at hL; cases hL
   . have hlt : i < d.n := by omega
     rcases hJ with ⟨h0, hJ⟩ | ⟨h, _⟩
     . refine wpOp_mono ?_ (hs i (List.mem_range.2 hlt) L x w' hJ hL (db L i hp) (fun k hk hLk => db L k (hG k (by omega) hLk)));rintro a' w'' ⟨x', rfl, hJ'⟩;exact ⟨x', rfl, .inl ⟨by show (if d.n = i then true else L d.n) = false; rw [if_neg (fun e => hin e.symm)]; exact h0, hJ'⟩⟩
     . have := hdown L (db L d.n (hG d.n (by omega) h)) (fun k hk hLk => db L k (hG k (by omega) hLk)) i hlt;rw [this] at hL; cases hL
 . intro L x w' hL hJ;rcases hJ with ⟨h, _⟩ | ⟨_, hQ⟩
   . rw [hL d.n (by omega)] at h; cases h
   . exact hQ
theorem aK.i64 {x : Int} {cs : List Value} (h : aK cs) : aK (.int .i64 x :: cs) := fun c hc n => by
 rcases List.mem_cons.1 hc with rfl | hc
 . simp
 . exact h c hc n
theorem aK.ptr {a : Option Addr} {cs : List Value} (h : aK cs) : aK (.pointer a :: cs) := fun c hc m => by
 rcases List.mem_cons.1 hc with rfl | hc
 . simp
 . exact h c hc m
abbrev P4 := Bool × Option Addr × Nat × Nat
def av (p : P4) : Value := .agg #[.bool p.1, .slice p.2.1 p.2.2.1 p.2.2.2]
def p0 : P4 := (false, none, 0, 0)
def flat : List P4 -> List Value
 | [] => []
 | p :: ps => .bool p.1 :: .slice p.2.1 p.2.2.1 p.2.2.2 :: flat ps
theorem bL : ∀ ps : List P4, (flat ps).length = 2 * ps.length
 | [] => rfl
 | p :: ps => by simp [flat, bL ps]; omega
theorem jM : ∀ (ps : List P4) (i : Nat) (h : i < ps.length), (flat ps)[i * 2]? = some (.bool (ps[i]).1)
 | p :: ps, 0, _ => rfl
 | p :: ps, i + 1, h => by
  have e : (i + 1) * 2 = i * 2 + 1 + 1 := by omega
  rw [e]; simp only [flat, List.getElem?_cons_succ, List.getElem_cons_succ];exact jM ps i (by simpa using h)
theorem jQ : ∀ (ps : List P4) (i : Nat) (h : i < ps.length), (flat ps)[i * 2 + 1]? = some (.slice (ps[i]).2.1 (ps[i]).2.2.1 (ps[i]).2.2.2)
 | p :: ps, 0, _ => rfl
 | p :: ps, i + 1, h => by
  have e : (i + 1) * 2 + 1 = i * 2 + 1 + 1 + 1 := by omega
  rw [e]; simp only [flat, List.getElem?_cons_succ, List.getElem_cons_succ];exact jQ ps i (by simpa using h)
theorem nB : ∀ (ps : List P4) (i : Nat) (p : P4), ((flat ps).set (i * 2) (.bool p.1)).set (i * 2 + 1) (.slice p.2.1 p.2.2.1 p.2.2.2) = flat (ps.set i p)
 | [], i, p => rfl
 | q :: ps, 0, p => rfl
 | q :: ps, i + 1, p => by
  have e : (i + 1) * 2 = i * 2 + 1 + 1 := by omega
  rw [e]; simp only [flat, List.set_cons_succ];rw [nB ps i p]
theorem gA : ∀ ps : List P4, aK (flat ps)
 | [] => aK.nil
 | p :: ps => aK.bool (aK.slice (gA ps))
theorem jw : ∀ (ps qs : List P4), flat (ps ++ qs) = flat ps ++ flat qs
 | [], qs => rfl
 | p :: ps, qs => by simp [flat, jw ps qs]
def aN (w : World) (v : Value) (x : Int) : Prop := a8 w (aa x.natAbs) v x /\ ∃ s, v = .agg #[.bool (decide (x < 0)), s]
theorem ae.num {w : World} {B : Nat} {v : Value} {x : Int} (h : ae w B v x) : aN w v x := ⟨h.at_, by obtain ⟨ao, cap, rfl, _⟩ := h; exact ⟨_, rfl⟩⟩
theorem aN.below {w w' : World} {v : Value} {x : Int} (h : aN w v x) (hb : Below w.heap.size w w') : aN w' v x := ⟨a8.below h.1 hb, h.2⟩
theorem aN.setRow {w : World} {v : Value} {x : Int} (h : aN w v x) {g : Nat} {t : TypeId} {cs : List Value} (hr : a6 w g t cs) (hn : aK cs) (i : Nat) (u : Value) : aN (w.setCell ⟨g, i, none⟩ u) v x := ⟨a8.setRow h.1 hr hn i u, h.2⟩
theorem aN.int {w : World} {L : Nat} {v : Value} {x : Int} (h : aN w v x) (hL : aa x.natAbs <= L) : a8 w L v x := a8.mono h.1 hL
theorem aN.parts {w : World} {v : Value} {x : Int} (h : aN w v x) : ∃ p : P4, v = av p := by
 obtain ⟨n, ao, len, cap, ws, rfl, _⟩ := h.1;exact ⟨(n, ao, len, cap), rfl⟩
theorem a8.parts {w : World} {L : Nat} {v : Value} {x : Int} (h : a8 w L v x) : ∃ p : P4, v = av p := by
 obtain ⟨n, ao, len, cap, ws, rfl, _⟩ := h;exact ⟨(n, ao, len, cap), rfl⟩
theorem aK.AA {cs : List Value} (h : aK cs) (i : Nat) (b : Bool) : aK (cs.set i (.bool b)) := h.set i (by simp)
theorem aK.setS {cs : List Value} (h : aK cs) (i : Nat) (a : Option Addr) (l k : Nat) : aK (cs.set i (.slice a l k)) := h.set i (by simp)
theorem ae.zero (w : World) (B : Nat) : ae w B (.agg #[.bool false, .slice none 0 0]) 0 := by
 have h : aa (0 : Int).natAbs = 0 := bg;refine ⟨none, 0, by rw [h]; rfl, ?_⟩;rw [h];have : ew (0 : Int).natAbs = [] := ed;rw [this];exact ct.nil w B
theorem wS {α : Type} (J : Nat -> α -> Prop) : ∃ μ : α -> Nat, ∀ a n, J n a -> J (μ a) a /\ μ a <= n := by
 have h : ∀ a, ∃ k, ∀ n, J n a -> J k a /\ k <= n := by
  intro a;by_cases he : ∃ n, J n a
  . obtain ⟨n, hn⟩ := he;have key : ∀ n, J n a -> ∃ k, ∀ m, J m a -> J k a /\ k <= m := by
     intro n;induction n using Nat.strongRecOn with
     | _ n ih =>
      intro hn;by_cases hl : ∃ m, m < n /\ J m a
      . obtain ⟨m, hm, hj⟩ := hl; exact ih m hm hj
      . exact ⟨n, fun m hm => ⟨hn, Nat.le_of_not_lt fun hlt => hl ⟨m, hlt, hm⟩⟩⟩
    exact key n hn
  . exact ⟨0, fun n hn => absurd ⟨n, hn⟩ he⟩
 exact ⟨fun a => (h a).choose, fun a n hn => (h a).choose_spec n hn⟩
theorem ae.parts {w : World} {B : Nat} {v : Value} {x : Int} (h : ae w B v x) : ∃ b ao l k, v = .agg #[.bool b, .slice ao l k] := by
 obtain ⟨ao, cap, rfl, _⟩ := h; exact ⟨_, _, _, _, rfl⟩
structure aO (S : Nat -> Prop) (w w' : World) : Prop where
 os : w'.os = w.os
 tape : w'.tape = w.tape
 output : w'.output = w.output
 size : w.heap.size <= w'.heap.size
 block : ∀ k, k < w.heap.size -> ¬ S k -> w'.heap[k]? = w.heap[k]?
theorem aO.refl (S : Nat -> Prop) (w : World) : aO S w w := ⟨rfl, rfl, rfl, Nat.le_refl _, fun _ _ _ => rfl⟩
theorem aO.trans {S : Nat -> Prop} {a b c : World} (h : aO S a b) (k : aO S b c) : aO S a c :=
 ⟨k.os.trans h.os, k.tape.trans h.tape, k.output.trans h.output, Nat.le_trans h.size k.size, fun i hi hs => (k.block i (Nat.lt_of_lt_of_le hi h.size) hs).trans (h.block i hi hs)⟩
theorem aO.mono {S T : Nat -> Prop} {w w' : World} (h : aO S w w') (hT : ∀ k, k < w.heap.size -> S k -> T k) : aO T w w' :=
 ⟨h.os, h.tape, h.output, h.size, fun k hk ht => h.block k hk (fun hs => ht (hT k hk hs))⟩
theorem aO.bF {S : Nat -> Prop} {w w' : World} (h : Below w.heap.size w w') : aO S w w' := ⟨h.os, h.tape, h.output, h.size, fun k hk _ => h.block k hk⟩
theorem aO.below {S : Nat -> Prop} {w w' w'' : World} (h : aO S w w') (hb : Below w'.heap.size w' w'') : aO S w w'' := h.trans (aO.bF hb)
theorem aO.set {S : Nat -> Prop} {w w' : World} (h : aO S w w') {p : Addr} (hp : S p.block) (u : Value) : aO S w (w'.setCell p u) :=
 h.trans ⟨rfl, rfl, rfl, by simp [World.setCell], fun k _ hs => Below.heap_setCell _ _ _ _ (fun e => hs (e ▸ hp))⟩
theorem aO.mm {S : Nat -> Prop} {w w' : World} (h : aO S w w') {p : Addr} (hp : w.heap.size <= p.block) (u : Value) : aO S w (w'.setCell p u) :=
 ⟨h.os, h.tape, h.output, by simpa [World.setCell] using h.size, fun k hk hs => (Below.heap_setCell _ _ _ _ (by omega)).trans (h.block k hk hs)⟩
theorem aO.drew {S : Nat -> Prop} {w w' : World} (h : aO S w w') : aO S w w'.drew := ⟨h.os, h.tape, h.output, h.size, h.block⟩
theorem aO.ot {S : Nat -> Prop} {B : Nat} {w w' : World} (h : aO S w w') (hS : ∀ k, S k -> B <= k) (hB : B <= w.heap.size) : Below B w w' :=
 ⟨h.os, h.tape, h.output, h.size, fun k hk => h.block k (by omega) (fun hs => by have := hS k hs; omega)⟩
theorem aO.row {S : Nat -> Prop} {w w' : World} (h : aO S w w') {b : Nat} {t : TypeId} {cs : List Value} (hr : a6 w b t cs) (hb : ¬ S b) : a6 w' b t cs := by
 unfold a6 at *; rw [h.block b (a6.lt hr) hb]; exact hr
theorem aO.cell {S : Nat -> Prop} {w w' : World} (h : aO S w w') {p : Addr} (hp : p.block < w.heap.size) (hs : ¬ S p.block) : w'.cell? p = w.cell? p :=
 World.cell?_of_block (w := w) (h.block p.block hp hs)
def dC (S : Nat -> Prop) (w : World) : Prop := ∀ g, S g -> ∃ t cs, a6 w g t cs /\ aK cs
theorem aO.j3 {S : Nat -> Prop} {w w' : World} (h : aO S w w') (hS : dC S w) {ao : Option Addr} {ws : List Nat} (hw : cU w ao ws) : cU w' ao ws := by
 refine ⟨hw.1, fun hl => ?_⟩;obtain ⟨b, o, rfl, hb, hc⟩ := hw.2 hl;have hns : ¬ S b := by
  intro hs;obtain ⟨t, cs, hr, hn⟩ := hS b hs;have h0 := hc 0 hl;rw [hr.cell] at h0;exact hn _ (List.mem_of_getElem? h0) _ rfl
 exact ⟨b, o, rfl, Nat.lt_of_lt_of_le hb h.size, fun i hi => (h.cell (p := ⟨b, o + i, none⟩) hb hns).trans (hc i hi)⟩
theorem aO.int {S : Nat -> Prop} {w w' : World} (h : aO S w w') (hS : dC S w) {L : Nat} {v : Value} {x : Int} (hx : a8 w L v x) : a8 w' L v x := by
 obtain ⟨n, ao, len, cap, ws, rfl, hW, hl, hL, hc, he⟩ := hx;exact ⟨n, ao, len, cap, ws, rfl, h.j3 hS hW, hl, hL, hc, he⟩
theorem aO.num {S : Nat -> Prop} {w w' : World} (h : aO S w w') (hS : dC S w) {v : Value} {x : Int} (hx : aN w v x) : aN w' v x := ⟨h.int hS hx.1, hx.2⟩
theorem tM (w : World) (o : Obj) {q : Nat} (hq : q < w.heap.size) : (w.drew.alloc o).heap[q]? = w.heap[q]? := ((Below.refl w.drew.heap.size w.drew).alloc (Nat.le_refl _) o).block q hq
def Wl (T : Nat -> Prop) (w : World) : Prop := ∀ g, T g -> ∃ t cs, a6 w g t cs /\ aK cs /\ t ≠ 47
theorem Wl.none (w : World) : Wl (fun _ => False) w := fun _ h => h.elim
theorem Wl.bH {T : Nat -> Prop} {w : World} (h : Wl T w) : dC T w := fun g hg => by obtain ⟨t, cs, a, b, _⟩ := h g hg; exact ⟨t, cs, a, b⟩
inductive En where
 | row (b : Nat) (t : TypeId) (cs : List Value)
 | cell (a : Addr) (v : Value)
 | fact (wl wr : Bool) (S : Nat -> Prop) (F : World -> Prop) (lt : ∀ {w : World}, F w -> ∀ b, S b -> b < w.heap.size) (gd : ∀ {w w' : World} {T : Nat -> Prop}, F w -> aO T w w' -> (wl = true -> Wl T w) -> (∀ b, S b -> ¬ T b) -> F w')
def En.wl : En -> Bool
 | .fact wl _ _ _ _ _ => wl
 | _ => false
def En.wr : En -> Bool
 | .row .. => true
 | .cell .. => false
 | .fact _ wr _ _ _ _ => wr
def En.F : En -> World -> Prop
 | .row b t cs, w => a6 w b t cs
 | .cell a v, w => w.cell? a = some v
 | .fact _ _ _ F _ _, w => F w
def En.S : En -> Nat -> Prop
 | .row b _ _, g => g = b
 | .cell a _, g => g = a.block
 | .fact _ _ S _ _ _, g => S g
theorem rv {w : World} {a : Addr} {v : Value} (h : w.cell? a = some v) : a.block < w.heap.size := by
 rcases Nat.lt_or_ge a.block w.heap.size with h1 | h1
 . exact h1
 . unfold World.cell? at h;rw [Array.getElem?_eq_none h1] at h;cases h
theorem En.lt {e : En} {w : World} (h : e.F w) : ∀ b, e.S b -> b < w.heap.size := by
 cases e with
 | row b t cs => rintro g rfl; exact a6.lt h
 | cell a v => rintro g rfl; exact rv h
 | fact wl wr S F lt gd => exact lt h
theorem En.gd {e : En} {w w' : World} {T : Nat -> Prop} (h : e.F w) (hc : aO T w w') (hw : e.wl = true -> Wl T w) (hs : ∀ b, e.S b -> ¬ T b) : e.F w' := by
 cases e with
 | row b t cs => exact hc.row h (hs b rfl)
 | cell a v => exact (hc.cell (rv h) (hs _ rfl)).trans h
 | fact wl wr S F lt gd => exact gd h hc hw hs
def Ap (e e' : En) : Prop := (e.wr = true -> ∀ b, e.S b -> ¬ e'.S b) /\ (e'.wr = true -> ∀ b, e'.S b -> ¬ e.S b)
theorem Ap.symm {e e' : En} (h : Ap e e') : Ap e' e := ⟨h.2, h.1⟩
structure Fr (S0 : Nat -> Prop) (w0 w : World) (es : List En) : Prop where
 bs : aO S0 w0 w
 all : ∀ e ∈ es, e.F w
 sep : es.Pairwise Ap
 own : ∀ e ∈ es, e.wr = true -> ∀ b, e.S b -> S0 b \/ w0.heap.size <= b
section
variable {S0 : Nat -> Prop} {w0 w w' : World} {es : List En}
theorem Fr.perm {es' : List En} (h : Fr S0 w0 w es) (p : es.Perm es') : Fr S0 w0 w es' :=
 ⟨h.bs, fun e he => h.all e (p.mem_iff.2 he), (p.pairwise_iff (fun {_ _} h => h.symm)).1 h.sep, fun e he => h.own e (p.mem_iff.2 he)⟩
theorem Fr.sub {es' : List En} (h : Fr S0 w0 w es) (p : es'.Sublist es) : Fr S0 w0 w es' :=
 ⟨h.bs, fun e he => h.all e (p.subset he), h.sep.sublist p, fun e he => h.own e (p.subset he)⟩
theorem Fr.r5 {T : Nat -> Prop} (h : Fr S0 w0 w es) (hc : aO T w w') (hT : ∀ e ∈ es, e.wl = true -> Wl T w) (h0 : ∀ b, T b -> S0 b \/ w0.heap.size <= b) (hk : ∀ e ∈ es, ∀ b, e.S b -> ¬ T b) : Fr S0 w0 w' es :=
 ⟨⟨hc.os.trans h.bs.os, hc.tape.trans h.bs.tape, hc.output.trans h.bs.output, Nat.le_trans h.bs.size hc.size, fun k hk' hs => (hc.block k (Nat.lt_of_lt_of_le hk' h.bs.size) (fun ht => (h0 k ht).elim hs (by omega))).trans (h.bs.block k hk' hs)⟩,
  fun e he => En.gd (h.all e he) hc (hT e he) (hk e he), h.sep, h.own⟩
theorem Fr.grow (h : Fr S0 w0 w es) (hb : Below w.heap.size w w') : Fr S0 w0 w' es := h.r5 (T := fun _ => False) (.bF hb) (fun _ _ _ => Wl.none _) (fun _ h => h.elim) (fun _ _ _ _ h => h)
theorem Fr.drew (h : Fr S0 w0 w es) : Fr S0 w0 w.drew es := h.grow ((Below.refl _ _).drew)
theorem Fr.size (h : Fr S0 w0 w es) : w0.heap.size <= w.heap.size := h.bs.size
theorem Fr.cons (h : Fr S0 w0 w es) {e : En} (he : e.F w) (hap : ∀ e' ∈ es, Ap e e') (ho : e.wr = true -> ∀ b, e.S b -> S0 b \/ w0.heap.size <= b) : Fr S0 w0 w (e :: es) :=
 ⟨h.bs, fun x hx => (List.mem_cons.1 hx).elim (fun q => q ▸ he) (h.all x), List.pairwise_cons.2 ⟨hap, h.sep⟩, fun x hx => (List.mem_cons.1 hx).elim (fun q => q ▸ ho) (h.own x)⟩
theorem Fr.new (h : Fr S0 w0 w es) (hb : Below w.heap.size w w') {e : En} (he : e.F w') (hS : ∀ b, e.S b -> w.heap.size <= b) : Fr S0 w0 w' (e :: es) :=
 (h.grow hb).cons he (fun e' he' => ⟨fun _ b h1 h2 => by have := hS b h1; have := En.lt (h.all e' he') b h2; omega, fun _ b h1 h2 => by have := hS b h2; have := En.lt (h.all e' he') b h1; omega⟩) (fun _ b hb => .inr (Nat.le_trans h.size (hS b hb)))
theorem Fr.pure (h : Fr S0 w0 w es) {e : En} (he : e.F w) (hS : ∀ b, ¬ e.S b) : Fr S0 w0 w (e :: es) :=
 h.cons he (fun e' he' => ⟨fun _ b h1 => (hS b h1).elim, fun _ b _ h2 => hS b h2⟩) (fun _ b hb => (hS b hb).elim)
theorem Fr.dm {T : Nat -> Prop} {e e' : En} (h : Fr S0 w0 w (e :: es)) (hw : e.wr = true) (hc : aO T w w') (hT : ∀ x ∈ es, x.wl = true -> Wl T w) (h1 : ∀ b, T b -> e.S b) (h2 : e'.F w') (h3 : ∀ b, e'.S b -> e.S b \/ w.heap.size <= b) : Fr S0 w0 w' (e' :: es) := by
 have hp := List.pairwise_cons.1 h.sep;have hm := (h.sub (List.sublist_cons_self ..)).r5 hc hT (fun b hb => h.own e (List.mem_cons_self ..) hw b (h1 b hb)) (fun x hx b hb ht => (hp.1 x hx).1 hw b (h1 b ht) hb);refine hm.cons h2 (fun x hx => ⟨fun _ b hb hx' => ?_, fun _ b hx' hb => ?_⟩) (fun _ b hb => ?_)
 . rcases h3 b hb with h4 | h4
   . exact (hp.1 x hx).1 hw b h4 hx'
   . have := En.lt (h.all x (List.mem_cons_of_mem _ hx)) b hx'; omega
 . rcases h3 b hb with h4 | h4
   . exact (hp.1 x hx).1 hw b h4 hx'
   . have := En.lt (h.all x (List.mem_cons_of_mem _ hx)) b hx'; omega
 . rcases h3 b hb with h4 | h4
   . exact h.own e (List.mem_cons_self ..) hw b h4
   . exact .inr (Nat.le_trans h.size h4)
end
def qB (w : World) (b : Nat) : Nat -> List Value -> World
 | _, [] => w
 | k, u :: us => qB (w.setCell ⟨b, k, none⟩ u) b (k + 1) us
def iZ : List Value -> Nat -> List Value -> List Value
 | cs, _, [] => cs
 | cs, k, u :: us => iZ (cs.set k u) (k + 1) us
theorem a6.qB {b : Nat} {t : TypeId} : ∀ (us : List Value) (k : Nat) {w : World} {cs : List Value}, a6 w b t cs -> a6 (qB w b k us) b t (iZ cs k us)
 | [], _, _, _, h => h
 | _ :: us, k, _, _, h => a6.qB us (k + 1) (h.set k _)
theorem aO.qB {b : Nat} : ∀ (us : List Value) (k : Nat) {w w' : World}, aO (· = b) w w' -> aO (· = b) w (qB w' b k us)
 | [], _, _, _, h => h
 | _ :: us, k, _, _, h => aO.qB us (k + 1) (h.set (p := ⟨b, k, none⟩) rfl _)
inductive Up (e e' : En) : Nat -> List En -> List En -> Prop where
 | z {l : List En} : Up e e' 0 (e :: l) (e' :: l)
 | s {x : En} {k : Nat} {l l' : List En} (h : Up e e' k l l') : Up e e' (k + 1) (x :: l) (x :: l')
section
variable {e e' : En}
theorem Up.set {k : Nat} {l l' : List En} (h : Up e e' k l l') : l' = l.set k e' /\ l[k]? = some e := by
 induction h with
 | z => exact ⟨rfl, rfl⟩
 | s _ ih => exact ⟨by rw [ih.1]; rfl, by simpa using ih.2⟩
theorem Up.other {k : Nat} {l l' : List En} (h : Up e e' k l l') {r : Nat} (hr : r ≠ k) : l'[r]? = l[r]? := by
 rw [h.set.1, List.getElem?_set_ne (fun e => hr e.symm)]
theorem Up.perm {k : Nat} {l l' : List En} (h : Up e e' k l l') : ∃ m, l.Perm (e :: m) /\ l'.Perm (e' :: m) := by
 induction h with
 | @z l => exact ⟨l, .refl _, .refl _⟩
 | @s x k l l' h ih =>
  obtain ⟨m, h1, h2⟩ := ih;exact ⟨x :: m, (h1.cons x).trans (.swap ..), (h2.cons x).trans (.swap ..)⟩
theorem Up.right {k : Nat} {l l' : List En} (h : Up e e' k l l') (g : List En) : ∃ m, (g ++ l).Perm (e :: m) /\ (g ++ l').Perm (e' :: m) := by
 obtain ⟨m, h1, h2⟩ := h.perm;exact ⟨g ++ m, (h1.append_left g).trans List.perm_middle, (h2.append_left g).trans List.perm_middle⟩
theorem Up.left {k : Nat} {l l' : List En} (h : Up e e' k l l') (g : List En) : ∃ m, (l ++ g).Perm (e :: m) /\ (l' ++ g).Perm (e' :: m) := by
 obtain ⟨m, h1, h2⟩ := h.perm;exact ⟨m ++ g, h1.append_right g, h2.append_right g⟩
end
theorem Fr.st {S0 : Nat -> Prop} {w0 w : World} {es es' m : List En} {b : Nat} {t : TypeId} {cs : List Value} (h : Fr S0 w0 w es) (us : List Value) (k : Nat) (hu : (aK cs /\ t ≠ 47) \/ ∀ e ∈ es, e.wl = false)
 (h1 : es.Perm (.row b t cs :: m)) (h2 : es'.Perm (.row b t (iZ cs k us) :: m)) : Fr S0 w0 (qB w b k us) es' := by
 have h0 := h.perm h1;have hr : a6 w b t cs := h0.all _ (List.mem_cons_self ..);refine Fr.perm (h0.dm rfl (e' := .row b t (iZ cs k us)) (T := (· = b)) ((aO.refl _ w).qB us k) (fun x hx hw => ?_) (fun _ h => h) (hr.qB us k) (fun _ h => .inl h)) h2.symm;rcases hu with ⟨hn, ht⟩ | hu
 . rintro g rfl; exact ⟨t, cs, hr, hn, ht⟩
 . rw [hu x (h1.mem_iff.2 (List.mem_cons_of_mem _ hx))] at hw; cases hw
def lG : Nat -> List En -> List Nat -> List En
 | _, [], _ => []
 | i, e :: l, X => if X.contains i then lG (i + 1) l X else e :: lG (i + 1) l X
theorem ml : ∀ (l : List En) (i : Nat), lG i l [] = l
 | [], _ => rfl
 | e :: l, i => by simp [lG, ml l (i + 1)]
theorem ma (X : List Nat) : ∀ (E0 E : List En) (i : Nat), (∀ r, i + r ∉ X -> E[r]? = E0[r]?) -> (lG i E0 X).Sublist E
 | [], E, i, _ => List.nil_sublist _
 | e :: l, E, i, h => by
  have ht : ∀ r, i + 1 + r ∉ X -> E.tail[r]? = l[r]? := fun r hr => by
   have := h (r + 1) (by rw [show i + (r + 1) = i + 1 + r by omega]; exact hr);rw [List.getElem?_tail];simpa using this
  have ih := ma X l E.tail (i + 1) ht;unfold lG;split
  . exact ih.trans (List.tail_sublist _)
  . rename_i hc;have h0 := h 0 (by simpa using hc);cases E with
    | nil => simp at h0
    | cons x E =>
     simp at h0;subst h0;exact ih.cons_cons _
def bY : Op -> Bool
 | .move _ | .assign _ | .pick .. | .load .. | .nilCheck _ | .binOp .. | .unOp .. | .convert .. | .slice .. | .fieldAddr .. | .field .. | .indexAddr .. | .index .. | .extract .. | .build .. => true
 | .call c => match c.callee with | .builtin .len | .builtin .cap | .builtin .min | .builtin .max => true | _ => false
 | _ => false
def dx : Op -> Bool
 | .alloc _ | .box .. | .buildSlice .. | .makeSlice .. => true
 | _ => false
def qK : Op -> Bool
 | .load .. | .convert .. => true
 | _ => false
def uf (W j : Nat) : Nat := (W >>> (64 * j)) % 18446744073709551616
def rS (W : Nat) (l : List Nat) : Nat := l.foldr (fun k s => s ||| (1 <<< k ||| uf W k)) 0
def zX (o : Oper) : List Nat := (o.after.toList.filter (Region.binds .any)).map (·.on)
def oY : List Oper -> Nat -> Nat -> Nat
 | [], _, W => W
 | o :: l, j, W => oY l (j + 1) (W ||| (rS W (zX o) <<< (64 * j)))
def pre (ops : Array Oper) (i j : Nat) : Bool := (uf (oY ops.toList 0 0) j).testBit i
def opD (ops : Array Oper) (i : Nat) : Bool := ((ops[i]?).map fun o => bY o.op).getD true
def ub : Nat -> Nat -> List Nat
 | 0, _ => []
 | k + 1, j => j :: ub k (j + 1)
def opL (ops : Array Oper) (i : Nat) : Bool := ((ops[i]?).map fun o => qK o.op).getD false
def apt (ops : Array Oper) (i j : Nat) : Bool := match ops[i]?, ops[j]? with | some x, some y => x.apart ops y | _, _ => true
def kX (ops : Array Oper) (n : Nat) : Bool := Region.noSelect ops && ((List.range n).all fun i => ((ops[i]?).map (·.after.all fun e => !Region.binds .any e || decide (e.on < i))).getD false) && (List.range n).all fun j =>
 uf (oY ops.toList 0 0) j == rS (oY ops.toList 0 0) (dQ ops j) &&
 (List.range j).all fun i => pre ops i j || (apt ops i j && (opD ops j || opD ops i || ((ops[j]?).map fun o => dx o.op).getD false))
def fV (ops : Array Oper) (hd : List (List Nat)) (j : Nat) (K : List Nat) : Bool := (List.range ops.size).all fun i => i == j || pre ops i j || !opL ops i || K.all fun r => (hd.getD i []).contains r
structure RC where
 P : Program
 ops : Array Oper
 Q : Exit -> Act -> World -> Prop
 S0 : Nat -> Prop
 w0 : World
 E0 : List En
 hd : List (List Nat)
def RC.V (C : RC) (j : Nat) (o : Oper) (w : World) : Prop := qK o.op = true -> Fr C.S0 C.w0 w (lG 0 C.E0 (C.hd.getD j []))
def jo (P : Program) (ops : Array Oper) (o : Oper) (v : Value) (a : Act) (w : World) : Prop :=
 (Region.wanted o (yielded ops a.tmps) = true /\ ((execOp a.eval o).run P w = .ok (.value v) w \/ ((execOp a.eval o).run P w = .ok .skip w /\ v = undef))) \/
 (Region.wanted o (yielded ops a.tmps) = false /\ v = undef)
def kg (C : RC) (o : Oper) (a : Act) (mk : Nat -> Value) (t : TypeId) (cs : List Value) : Prop :=
 Region.wanted o (yielded C.ops a.tmps) = true /\ ∀ w, (execOp a.eval o).run C.P w = .ok (.value (mk w.heap.size)) (w.alloc (.cells cs.toArray t (0, 0)))
def oU (P : Program) (K : Value -> World -> Prop) : Result Next -> Prop
 | .ok (.value v) w' => K v w'
 | .ok .skip w' => K undef w'
 | .ok (.enter f args) w' => Calls P f args w' fun e w'' => ∃ v, e = .returned v /\ K v w''
 | .ok (.row row args) w' => Rows P row args w' K
 | _ => False
theorem oU.mono {P : Program} {K K' : Value -> World -> Prop} (hK : ∀ v w, K v w -> K' v w) {r : Result Next} (h : oU P K r) : oU P K' r := by
 cases r with
 | halt x w' => exact h
 | ok n w' =>
  cases n with
  | value v => exact hK _ _ h
  | skip => exact hK _ _ h
  | enter f args => exact Calls.mono h fun e w'' ⟨v, hv, hk⟩ => ⟨v, hv, hK _ _ hk⟩
  | row row args => exact Rows.mono h fun v w'' hk => hK _ _ hk
  | _ => exact h.elim
def ll (C : RC) (o : Oper) (a : Act) (G E : List En) {α : Type} (mk : α -> Value) (G' E' : α -> List En) : Prop :=
 ∀ X w, (∀ e ∈ X, e.wl = false) -> Fr C.S0 C.w0 w (X ++ (G ++ E)) -> if Region.wanted o (yielded C.ops a.tmps) = true then oU C.P (fun v w' => ∃ p, v = mk p /\ Fr C.S0 C.w0 w' (X ++ (G' p ++ E' p))) ((execOp a.eval o).run C.P w) else ∃ p, undef = mk p /\ Fr C.S0 C.w0 w (X ++ (G' p ++ E' p))
def RW (C : RC) : List Nat -> List En -> List En -> Act -> Prop
 | [], G, E, a => ∀ w, Fr C.S0 C.w0 w (G ++ E) -> C.Q .normal a w
 | j :: l, G, E, a => ∃ o, C.ops[j]? = some o /\
  ((bY o.op = true /\ ∃ v, (∀ w, C.V j o w -> jo C.P C.ops o v a w) /\ RW C l G E (a.put o.dst v)) \/
   (bY o.op = false /\ dx o.op = true /\ ∃ mk t cs, kg C o a mk t cs /\ ∀ g, RW C l (.row g t cs :: G) E (a.put o.dst (mk g))) \/
   (bY o.op = false /\ dx o.op = false /\ ∃ (α : Type) (mk : α -> Value) (G' E' : α -> List En) (K : List Nat), Nonempty α /\ ll C o a G E mk G' E' /\ fV C.ops C.hd j K = true /\
    (∀ p r, r ∉ K -> (E' p)[r]? = E[r]?) /\ ∀ p, RW C l (G' p) (E' p) (a.put o.dst (mk p))))
theorem RW.perm {C : RC} : ∀ (l : List Nat) {G G' E : List En} {a : Act}, G.Perm G' -> RW C l G E a -> RW C l G' E a
 | [], G, G', E, a, hp, h => fun w hw => h w (hw.perm (hp.symm.append_right E))
 | j :: l, G, G', E, a, hp, h => by
  obtain ⟨o, ho, h⟩ := h;refine ⟨o, ho, ?_⟩;rcases h with ⟨hk, v, hg, hr⟩ | ⟨hk, hk2, mk, t, cs, hn, hr⟩ | ⟨hk, hk2, α, mk, G1, E1, K, hne, hc, hK, hE, hr⟩
  . exact .inl ⟨hk, v, hg, RW.perm l hp hr⟩
  . exact .inr (.inl ⟨hk, hk2, mk, t, cs, hn, fun g => RW.perm l (hp.cons _) (hr g)⟩)
  . exact .inr (.inr ⟨hk, hk2, α, mk, G1, E1, K, hne, fun X w hX hw => hc X w hX (hw.perm ((hp.symm.append_right E).append_left X)), hK, hE, hr⟩)
section
variable {C : RC} {a : Act} {o x : Oper}
theorem ff (hs : ∀ cs b, o.op ≠ .select cs b) {d : Option Tmp} (h : ∀ e, d = some e -> e ∉ o.looksAt C.ops) (u v : Value) (w : World) : jo C.P C.ops o v (a.put d u) w ↔ jo C.P C.ops o v a w := by
 unfold jo;rw [execOp_put o hs a d u h, wanted_put o a d u h]
theorem jo.uniq {v v' : Value} {w : World} (h : jo C.P C.ops o v a w) (h' : jo C.P C.ops o v' a w) : v = v' := by
 unfold jo at *;rcases h with ⟨h1, h2⟩ | ⟨h1, h2⟩ <;> rcases h' with ⟨h3, h4⟩ | ⟨h3, h4⟩
 . rcases h2 with h2 | ⟨h2, e⟩ <;> rcases h4 with h4 | ⟨h4, e'⟩
   . rw [h2] at h4; cases h4; rfl
   . rw [h2] at h4; cases h4
   . rw [h2] at h4; cases h4
   . rw [e, e']
 . rw [h1] at h3; cases h3
 . rw [h1] at h3; cases h3
 . rw [h2, h4]
theorem pX (hs : ∀ cs b, o.op ≠ .select cs b) {d : Option Tmp} (h : ∀ e, d = some e -> e ∉ o.looksAt C.ops) (u : Value) {mk : Nat -> Value} {t : TypeId} {cs : List Value} (hn : kg C o a mk t cs) : kg C o (a.put d u) mk t cs := by
 unfold kg at *;rw [execOp_put o hs a d u h, wanted_put o a d u h];exact hn
theorem gz (hs : ∀ cs b, o.op ≠ .select cs b) {d : Option Tmp} (h : ∀ e, d = some e -> e ∉ o.looksAt C.ops) (u : Value) {mk : Nat -> Value} {t : TypeId} {cs : List Value} (hn : kg C o (a.put d u) mk t cs) : kg C o a mk t cs := by
 unfold kg at *;rw [execOp_put o hs a d u h, wanted_put o a d u h] at hn;exact hn
theorem jv (hs : ∀ cs b, o.op ≠ .select cs b) {d : Option Tmp} (h : ∀ e, d = some e -> e ∉ o.looksAt C.ops) (u : Value) {G E : List En} {α : Type} {mk : α -> Value} {G' E' : α -> List En} : ll C o (a.put d u) G E mk G' E' ↔ ll C o a G E mk G' E' := by
 unfold ll;rw [execOp_put o hs a d u h, wanted_put o a d u h]
end
theorem oU.wp {P : Program} {ops : Array Oper} {Q : Exit -> Act -> World -> Prop} {i : Nat} {o : Oper} {a : Act} {w : World} {K : Value -> World -> Prop} {K' : Act -> World -> Prop} (hi : ops[i]? = some o)
 (h : if Region.wanted o (yielded ops a.tmps) = true then oU P K ((execOp a.eval o).run P w) else K undef w) (hK : ∀ v w', K v w' -> K' (a.put o.dst v) w') : wpOp P ops Q i K' a w := by
 unfold wpOp;simp only [hi];split
 . rename_i hw;rw [if_pos hw] at h;refine .inl ?_;unfold Oper.wp;generalize (execOp a.eval o).run P w = r at *;cases r with
   | halt x w' => exact h.elim
   | ok n w' =>
    cases n with
    | value v => exact hK _ _ h
    | skip => exact hK _ _ h
    | enter f args =>
     refine Calls.mono h fun e w'' he => ?_;obtain ⟨v, rfl, hv⟩ := he;exact hK _ _ hv
    | row row args => exact Rows.mono h fun v w'' he => hK _ _ he
    | _ => exact h.elim
 . rename_i hw;rw [if_neg hw] at h;exact hK _ _ h
theorem uu {C : RC} {x y : Oper} (h : x.apart C.ops y = true) : (∀ d, x.dst = some d -> d ∉ y.looksAt C.ops) /\ (∀ d, x.dst = some d -> y.dst ≠ some d) /\ (∀ d, y.dst = some d -> d ∉ x.looksAt C.ops) := Oper.apart_spec h
theorem RW.aV {C : RC} (hs : Region.noSelect C.ops = true) {j : Nat} {o : Oper} (ho : C.ops[j]? = some o) (hk : bY o.op = true) {w1 : World} (hw1 : C.V j o w1) (l2 : List Nat) :
 ∀ (l1 : List Nat) {G E : List En} {a : Act}, RW C (l1 ++ j :: l2) G E a -> (∀ i ∈ l1, ∀ x, C.ops[i]? = some x -> x.apart C.ops o = true) -> ∃ v, (∀ w, C.V j o w -> jo C.P C.ops o v a w) /\ RW C (l1 ++ l2) G E (a.put o.dst v)
 | [], G, E, a, h, _ => by
  obtain ⟨o', ho', h⟩ := h;rw [ho] at ho'; cases ho';rcases h with ⟨_, v, hg, hr⟩ | ⟨h, _⟩ | ⟨h, _⟩
  . exact ⟨v, hg, hr⟩
  . rw [hk] at h; cases h
  . rw [hk] at h; cases h
 | i :: l1, G, E, a, h, hap => by
  obtain ⟨x, hx, h⟩ := h;obtain ⟨h1, h2, h3⟩ := uu (hap i (List.mem_cons_self ..) x hx);have hso := Region.noSelect_spec hs j o (ho := ho);have hsx := Region.noSelect_spec hs i x (ho := hx);have hap' := fun k hk => hap k (List.mem_cons_of_mem _ hk);have sw : ∀ (u v : Value), (a.put x.dst u).put o.dst v = (a.put o.dst v).put x.dst u := fun u v => Act.put_comm a u v h2;rcases h with ⟨hxk, u, hg, hr⟩ | ⟨hxk, hxk2, mk, t, cs, hn, hr⟩ | ⟨hxk, hxk2, α, mk, G1, E1, K, hne, hc, hK, hE, hr⟩
  . obtain ⟨v, hv, hr'⟩ := RW.aV hs ho hk hw1 l2 l1 hr hap';exact ⟨v, fun w hw => (ff hso h1 u v w).1 (hv w hw), x, hx, .inl ⟨hxk, u, fun w hw => (ff hsx h3 v u w).2 (hg w hw), by rw [<- sw]; exact hr'⟩⟩
  . have ih := fun g => RW.aV hs ho hk hw1 l2 l1 (hr g) hap';obtain ⟨v, hv, _⟩ := ih 0;have hv0 := fun w hw => (ff hso h1 (mk 0) v w).1 (hv w hw);refine ⟨v, hv0, x, hx, .inr (.inl ⟨hxk, hxk2, mk, t, cs, pX hsx h3 v hn, fun g => ?_⟩)⟩;obtain ⟨v', hv', hr'⟩ := ih g;obtain rfl := jo.uniq (hv0 w1 hw1) ((ff hso h1 (mk g) v' w1).1 (hv' w1 hw1));rw [<- sw]; exact hr'
  . have ih := fun p => RW.aV hs ho hk hw1 l2 l1 (hr p) hap';obtain ⟨p0⟩ := hne;obtain ⟨v, hv, _⟩ := ih p0;have hv0 := fun w hw => (ff hso h1 (mk p0) v w).1 (hv w hw);refine ⟨v, hv0, x, hx, .inr (.inr ⟨hxk, hxk2, α, mk, G1, E1, K, ⟨p0⟩, (jv hsx h3 v).2 hc, hK, hE, fun p => ?_⟩)⟩;obtain ⟨v', hv', hr'⟩ := ih p;obtain rfl := jo.uniq (hv0 w1 hw1) ((ff hso h1 (mk p) v' w1).1 (hv' w1 hw1));rw [<- sw]; exact hr'
theorem RW.new {C : RC} (hs : Region.noSelect C.ops = true) {j : Nat} {o : Oper} (ho : C.ops[j]? = some o) (hk : bY o.op = false) (hk2 : dx o.op = true) (l2 : List Nat) :
 ∀ (l1 : List Nat) {G E : List En} {a : Act}, RW C (l1 ++ j :: l2) G E a -> (∀ i ∈ l1, ∀ x, C.ops[i]? = some x -> x.apart C.ops o = true) -> ∃ mk t cs, kg C o a mk t cs /\ ∀ g, RW C (l1 ++ l2) (.row g t cs :: G) E (a.put o.dst (mk g))
 | [], G, E, a, h, _ => by
  obtain ⟨o', ho', h⟩ := h;rw [ho] at ho'; cases ho';rcases h with ⟨h, _⟩ | ⟨_, _, h⟩ | ⟨_, h, _⟩
  . rw [hk] at h; cases h
  . exact h
  . rw [hk2] at h; cases h
 | i :: l1, G, E, a, h, hap => by
  obtain ⟨x, hx, h⟩ := h;obtain ⟨h1, h2, h3⟩ := uu (hap i (List.mem_cons_self ..) x hx);have hso := Region.noSelect_spec hs j o (ho := ho);have hsx := Region.noSelect_spec hs i x (ho := hx);have hap' := fun k hk => hap k (List.mem_cons_of_mem _ hk);have sw : ∀ (u v : Value), (a.put x.dst u).put o.dst v = (a.put o.dst v).put x.dst u := fun u v => Act.put_comm a u v h2;have un : ∀ {mk mk' : Nat -> Value} {t t' : TypeId} {cs cs' : List Value}, kg C o a mk t cs -> kg C o a mk' t' cs' -> t = t' /\ cs = cs' /\ ∀ g, (∃ w : World, w.heap.size = g) -> mk g = mk' g := by
   intro mk mk' t t' cs cs' h h';have key : ∀ w : World, t = t' /\ cs = cs' /\ mk w.heap.size = mk' w.heap.size := by
    intro w;have e := (h.2 w).symm.trans (h'.2 w);simp only [Result.ok.injEq, Next.value.injEq] at e;have e2 : (w.heap.push (.cells cs.toArray t (0, 0))).back? = (w.heap.push (.cells cs'.toArray t' (0, 0))).back? := congrArg (fun u : World => u.heap.back?) e.2;simp only [Array.back?_push, Option.some.injEq, Obj.cells.injEq] at e2;exact ⟨e2.2.1, by simpa using e2.1, e.1⟩
   exact ⟨(key C.w0).1, (key C.w0).2.1, fun g ⟨w, hw⟩ => hw ▸ (key w).2.2⟩
  have hex : ∀ g, ∃ w : World, w.heap.size = g := fun g => ⟨{ C.w0 with heap := Array.replicate g default }, by simp⟩;rcases h with ⟨hxk, u, hg, hr⟩ | ⟨hxk, hxk2, mk, t, cs, hn, hr⟩ | ⟨hxk, hxk2, α, mk, G1, E1, K, hne, hc, hK, hE, hr⟩
  . obtain ⟨mk, t, cs, hn, hr'⟩ := RW.new hs ho hk hk2 l2 l1 hr hap';have hn' := gz hso h1 u hn;exact ⟨mk, t, cs, hn', fun g => ⟨x, hx, .inl ⟨hxk, u, fun w hw => (ff hsx h3 _ u w).2 (hg w hw), by rw [<- sw]; exact hr' g⟩⟩⟩
  . have ih := fun g => RW.new hs ho hk hk2 l2 l1 (hr g) hap';obtain ⟨mk0, t0, cs0, hn0, _⟩ := ih 0;have hn0' := gz hso h1 _ hn0;refine ⟨mk0, t0, cs0, hn0', fun g => ⟨x, hx, .inr (.inl ⟨hxk, hxk2, mk, t, cs, pX hsx h3 _ hn, fun g' => ?_⟩)⟩⟩;obtain ⟨mk1, t1, cs1, hn1, hr1⟩ := ih g';obtain ⟨rfl, rfl, hm⟩ := un hn0' (gz hso h1 _ hn1);rw [<- sw, hm g (hex g)];exact RW.perm _ (.swap ..) (hr1 g)
  . have ih := fun p => RW.new hs ho hk hk2 l2 l1 (hr p) hap';obtain ⟨p0⟩ := hne;obtain ⟨mk0, t0, cs0, hn0, _⟩ := ih p0;have hn0' := gz hso h1 _ hn0;refine ⟨mk0, t0, cs0, hn0', fun g => ⟨x, hx, .inr (.inr ⟨hxk, hxk2, α, mk, fun p => .row g t0 cs0 :: G1 p, E1, K, ⟨p0⟩, ?_, hK, hE, fun p => ?_⟩)⟩⟩
    . intro X w hX hw;have hp : ∀ G2 E2 : List En, (X ++ ((.row g t0 cs0 :: G2) ++ E2)).Perm ((.row g t0 cs0 :: X) ++ (G2 ++ E2)) := fun G2 E2 => List.perm_middle;have := (jv hsx h3 (mk0 g)).2 hc (.row g t0 cs0 :: X) w (fun e he => (List.mem_cons.1 he).elim (fun q => q ▸ rfl) (hX e)) (hw.perm (hp G E));split
      . rename_i hwt;rw [if_pos hwt] at this;exact this.mono fun v w' ⟨p, e, hf⟩ => ⟨p, e, hf.perm (hp _ _).symm⟩
      . rename_i hwt;rw [if_neg hwt] at this;obtain ⟨p, e, hf⟩ := this;exact ⟨p, e, hf.perm (hp _ _).symm⟩
    . obtain ⟨mk1, t1, cs1, hn1, hr1⟩ := ih p;obtain ⟨rfl, rfl, hm⟩ := un hn0' (gz hso h1 _ hn1);rw [<- sw, hm g (hex g)];exact hr1 g
theorem RW.chain {C : RC} (hs : Region.noSelect C.ops = true) {j : Nat} {o : Oper} (ho : C.ops[j]? = some o) (hk : bY o.op = false) (hk2 : dx o.op = false) (l2 : List Nat) :
 ∀ (l1 : List Nat) {G E : List En} {a : Act}, RW C (l1 ++ j :: l2) G E a -> (∀ i ∈ l1, ∀ x, C.ops[i]? = some x -> x.apart C.ops o = true /\ bY x.op = true) ->
  ∃ (α : Type) (mk : α -> Value) (G' E' : α -> List En) (K : List Nat), Nonempty α /\ ll C o a G E mk G' E' /\ fV C.ops C.hd j K = true /\ (∀ p r, r ∉ K -> (E' p)[r]? = E[r]?) /\ ∀ p, RW C (l1 ++ l2) (G' p) (E' p) (a.put o.dst (mk p))
 | [], G, E, a, h, _ => by
  obtain ⟨o', ho', h⟩ := h;rw [ho] at ho'; cases ho';rcases h with ⟨h, _⟩ | ⟨_, h, _⟩ | ⟨_, _, h⟩
  . rw [hk] at h; cases h
  . rw [hk2] at h; cases h
  . exact h
 | i :: l1, G, E, a, h, hap => by
  obtain ⟨x, hx, h⟩ := h;obtain ⟨hap0, hxd⟩ := hap i (List.mem_cons_self ..) x hx;obtain ⟨h1, h2, h3⟩ := uu hap0;have hso := Region.noSelect_spec hs j o (ho := ho);have hsx := Region.noSelect_spec hs i x (ho := hx);rcases h with ⟨hxk, u, hg, hr⟩ | ⟨h, _⟩ | ⟨h, _⟩
  . obtain ⟨α, mk, G1, E1, K, hne, hc, hK, hE, hr'⟩ := RW.chain hs ho hk hk2 l2 l1 hr (fun k hk => hap k (List.mem_cons_of_mem _ hk));exact ⟨α, mk, G1, E1, K, hne, (jv hso h1 u).1 hc, hK, hE, fun p => ⟨x, hx, .inl ⟨hxk, u, fun w hw => (ff hsx h3 _ u w).2 (hg w hw), by rw [<- Act.put_comm a u _ h2]; exact hr' p⟩⟩⟩
  . rw [hxd] at h; cases h
  . rw [hxd] at h; cases h
theorem jV : ∀ (k j i : Nat), i ∈ ub k j ↔ j <= i /\ i < j + k
 | 0, j, i => by simp [ub]
 | k + 1, j, i => by
  unfold ub;rw [List.mem_cons, jV k (j + 1) i];omega
theorem kN : ∀ (k j : Nat), (ub k j).Pairwise (· < ·)
 | 0, _ => .nil
 | k + 1, j => List.pairwise_cons.2 ⟨fun i hi => by have := (jV k (j + 1) i).1 hi; omega, kN k (j + 1)⟩
theorem tw (W i : Nat) : ∀ l : List Nat, (rS W l).testBit i = true -> ∃ k ∈ l, k = i \/ (uf W k).testBit i = true
 | [], h => by simp [rS] at h
 | k :: l, h => by
  unfold rS at h;simp only [List.foldr_cons, Nat.testBit_or, Bool.or_eq_true] at h;rcases h with h | h | h
  . obtain ⟨q, hq, h⟩ := tw W i l h;exact ⟨q, List.mem_cons_of_mem _ hq, h⟩
  . refine ⟨k, List.mem_cons_self .., .inl ?_⟩;rw [Nat.one_shiftLeft, Nat.testBit_two_pow] at h;simpa using h
  . exact ⟨k, List.mem_cons_self .., .inr h⟩
theorem sI {ops : Array Oper} {n : Nat} (hc : ∀ j < n, uf (oY ops.toList 0 0) j = rS (oY ops.toList 0 0) (dQ ops j)) (hlt : ∀ j < n, ∀ k ∈ dQ ops j, k < j) {L : Nat -> Bool} (hg : ∀ k < n, L k = true -> ∀ j ∈ dQ ops k, L j = true) :
 ∀ (j : Nat), j < n -> (∀ k ∈ dQ ops j, L k = true) -> ∀ i, pre ops i j = true -> L i = true := by
 intro j;induction j using Nat.strongRecOn with
 | _ j ih =>
  intro hj hp i hij;unfold pre at hij;rw [hc j hj] at hij;obtain ⟨k, hk, rfl | hik⟩ := tw _ i _ hij
  . exact hp _ hk
  . exact ih k (hlt j hj k hk) (Nat.lt_trans (hlt j hj k hk) hj) (hg k (Nat.lt_trans (hlt j hj k hk) hj) (hp k hk)) i hik
theorem CU {ops : Array Oper} {n : Nat} (hc : ∀ j < n, uf (oY ops.toList 0 0) j = rS (oY ops.toList 0 0) (dQ ops j)) (hlt : ∀ j < n, ∀ k ∈ dQ ops j, k < j) {i j : Nat} (hj : j < n) (h : pre ops i j = true) : i < j := by
 have := sI hc hlt (L := fun i => decide (i < j)) (fun k hk hLk q hq => by
  simp only [decide_eq_true_eq] at hLk |-;exact Nat.lt_trans (hlt k hk q hq) hLk) j hj (fun k hk => by simpa using hlt j hj k hk) i h
 simpa using this
def uK (df : List Deferred) (x : Nat -> Value) : Act := ⟨match x 0 with | .tuple t => t | _ => #[], df⟩
theorem uX (a : Act) : uK a.defers (fun _ => .tuple a.tmps) = a := rfl
theorem rN (a : Act) (d : Option Tmp) (v : Value) : (a.put d v).defers = a.defers := by cases d <;> rfl
theorem nG (df : List Deferred) (x : Nat -> Value) (d : Option Tmp) (v : Value) : ∃ x', (uK df x).put d v = uK df x' :=
 ⟨fun _ => .tuple ((uK df x).put d v).tmps, by
  have h := uX ((uK df x).put d v);rw [rN] at h;exact h.symm⟩
structure RSt (C : RC) (n : Nat) (L : Nat -> Bool) (a : Act) (w : World) (l : List Nat) (G E : List En) (Kt : List Nat) : Prop where
 sub : l.Sublist (ub n 0)
 mem : ∀ i, i < n -> (i ∈ l ↔ L i = false)
 rw_ : RW C l G E a
 fr : Fr C.S0 C.w0 w (G ++ E)
 gd : ∀ r, r ∉ Kt -> E[r]? = C.E0[r]?
 hid : ∀ i ∈ l, opL C.ops i = true -> ∀ r ∈ Kt, r ∈ C.hd.getD i []
theorem nJ {ops : Array Oper} {n : Nat} (hok : kX ops n = true) : Region.noSelect ops = true /\ ((List.range n).all fun i => ((ops[i]?).map (·.after.all fun e => !Region.binds .any e || decide (e.on < i))).getD false) = true /\
 (∀ j < n, uf (oY ops.toList 0 0) j = rS (oY ops.toList 0 0) (dQ ops j)) /\ (∀ j < n, ∀ i < j, pre ops i j = true \/ (apt ops i j = true /\ (opD ops j = true \/ opD ops i = true \/ ((ops[j]?).map fun o => dx o.op).getD false = true))) /\ ∀ j < n, ∀ k ∈ dQ ops j, k < j := by
 unfold kX at hok;simp only [Bool.and_eq_true] at hok;obtain ⟨⟨hs, hb⟩, hok⟩ := hok;have hok0 : ∀ j < n, _ := fun j hj => List.all_eq_true.1 hok j (List.mem_range.2 hj);simp only [Bool.and_eq_true, beq_iff_eq] at hok0;refine ⟨hs, hb, fun j hj => (hok0 j hj).1, fun j hj i hi => ?_, fun j hj k hk => ?_⟩
 . have := List.all_eq_true.1 (hok0 j hj).2 i (List.mem_range.2 hi);simp only [Bool.or_eq_true, Bool.and_eq_true, or_assoc] at this;exact this
 . have := List.all_eq_true.1 hb j (List.mem_range.2 hj);unfold dQ at hk;cases ho : ops[j]? with
   | none => rw [ho] at hk; simp at hk
   | some o =>
    rw [ho] at this hk;simp only [Option.map_some, Option.getD_some, List.mem_map, List.mem_filter] at hk this;obtain ⟨e, ⟨he, hbd⟩, rfl⟩ := hk;rw [Array.all_eq_true] at this;obtain ⟨q, hq, rfl⟩ := Array.mem_iff_getElem.1 (Array.mem_def.2 he);have := this q hq;rw [hbd] at this;simpa using this
theorem rgA1 (C : RC) {n : Nat} {a : Act} {w : World} (hn : C.ops.size = n) (hok : kX C.ops n = true) (H : Fr C.S0 C.w0 w C.E0) (h : RW C (ub n 0) [] C.E0 a) : wpAny C.P .any C.ops C.Q C.ops.size (Array.replicate C.ops.size false) a w.drew := by
 obtain ⟨hs, hb, hc, hok1, hlt⟩ := nJ hok;refine uR hn hb (uK a.defers) (fun L x w' => ∃ l G E Kt, RSt C n L (uK a.defers x) w' l G E Kt) (fun _ => .tuple a.tmps) (uX a).symm ?_ ?_ ?_
 . exact ⟨ub n 0, [], C.E0, [], .refl _, fun i hi => by simp [jV, hi], h, H.drew, fun _ _ => rfl, fun _ _ _ _ hr => by cases hr⟩
 . rintro j hj L x w' ⟨l, G, E, Kt, S⟩ hG hL hp;have hp := db L j hp;have hG' : ∀ k < n, L k = true -> ∀ i ∈ dQ C.ops k, L i = true := fun k hk hLk => db L k (hG k hk hLk);have hpd := sI hc hlt hG' j hj hp;have hjl := (S.mem j hj).2 hL;obtain ⟨l1, l2, rfl⟩ := List.append_of_mem hjl;have hsort := (kN n 0).sublist S.sub;have hin : ∀ i ∈ l1 ++ j :: l2, i < n := fun i hi => by have := (jV n 0 i).1 (S.sub.subset hi); omega
   have h1 : ∀ i ∈ l1, i < j := fun i hi => (List.pairwise_append.1 hsort).2.2 i hi j (List.mem_cons_self ..);have h2 : ∀ i ∈ l2, j < i := fun i hi => (List.pairwise_cons.1 (List.pairwise_append.1 hsort).2.1).1 i hi;have hnp : ∀ i ∈ l1 ++ j :: l2, pre C.ops i j = false := fun i hi => by
    cases hq : pre C.ops i j with
    | false => rfl
    | true =>
     have e1 := hpd i hq;rw [(S.mem i (hin i hi)).1 hi] at e1; cases e1
   obtain ⟨o, ho⟩ : ∃ o, C.ops[j]? = some o := ⟨_, Array.getElem?_eq_getElem (by omega)⟩;have hap : ∀ i ∈ l1, ∀ x, C.ops[i]? = some x -> x.apart C.ops o = true /\ (bY o.op = true \/ bY x.op = true \/ dx o.op = true) := by
    intro i hi x hx;rcases hok1 j hj i (h1 i hi) with h | h
    . rw [hnp i (List.mem_append_left _ hi)] at h; cases h
    . simpa [apt, opD, ho, hx] using h
   have hsub : (l1 ++ l2).Sublist (l1 ++ j :: l2) := List.Sublist.append_left (List.sublist_cons_self ..) l1;have hmem : ∀ i, i < n -> (i ∈ l1 ++ l2 ↔ (if i = j then true else L i) = false) := by
    intro i hi;by_cases hij : i = j
    . subst hij;simp only [if_true, List.mem_append];constructor
      . rintro (h | h)
        . exact absurd (h1 _ h) (Nat.lt_irrefl _)
        . exact absurd (h2 _ h) (Nat.lt_irrefl _)
      . intro h; cases h
    . rw [if_neg hij, <- S.mem i hi];simp [hij]
   cases hk : bY o.op with
   | true =>
    have hw1 : C.V j o w' := by
     intro hl;refine S.fr.sub ((ma _ C.E0 E 0 fun r hr => S.gd r fun hk' => hr ?_).trans (List.sublist_append_right ..));rw [Nat.zero_add];exact S.hid j hjl (by simp [opL, ho, hl]) r hk'
    obtain ⟨v, hv, hr⟩ := RW.aV hs ho hk hw1 l2 l1 S.rw_ (fun i hi x hx => (hap i hi x hx).1);refine oU.wp (K := fun u w2 => u = v /\ w2 = w') ho ?_ ?_
    . rcases hv w' hw1 with ⟨e1, e2⟩ | ⟨e1, e2⟩
      . rw [if_pos e1];rcases e2 with e2 | ⟨e2, e3⟩
        . rw [e2]; exact ⟨rfl, rfl⟩
        . rw [e2, e3]; exact ⟨rfl, rfl⟩
      . rw [if_neg (by rw [e1]; decide), e2]; exact ⟨rfl, rfl⟩
    . rintro u w2 ⟨rfl, rfl⟩;obtain ⟨x', hx'⟩ := nG a.defers x o.dst u;exact ⟨x', hx', l1 ++ l2, G, E, Kt, hsub.trans S.sub, hmem, by rw [<- hx']; exact hr, S.fr, S.gd, fun i hi => S.hid i (hsub.subset hi)⟩
   | false =>
    cases hk2 : dx o.op with
    | true =>
     obtain ⟨mk, t, cs, hnw, hr⟩ := RW.new hs ho hk hk2 l2 l1 S.rw_ (fun i hi x hx => (hap i hi x hx).1);refine oU.wp (K := fun u w2 => u = mk w'.heap.size /\ w2 = w'.alloc (.cells cs.toArray t (0, 0))) ho ?_ ?_
     . rw [if_pos hnw.1, hnw.2 w']; exact ⟨rfl, rfl⟩
     . rintro u w2 ⟨rfl, rfl⟩;obtain ⟨x', hx'⟩ := nG a.defers x o.dst (mk w'.heap.size);refine ⟨x', hx', l1 ++ l2, _, E, Kt, hsub.trans S.sub, hmem, by rw [<- hx']; exact hr _, ?_, S.gd, fun i hi => S.hid i (hsub.subset hi)⟩;exact S.fr.new (e := .row w'.heap.size t cs) ((Below.refl _ _).alloc (Nat.le_refl _) _) (by have := a6.new w' cs.toArray t; simpa [En.F] using this) (by rintro b rfl; exact Nat.le_refl _)
    | false =>
     obtain ⟨α, mk, G1, E1, K, hne, hc, hK, hE, hr⟩ := RW.chain hs ho hk hk2 l2 l1 S.rw_ (fun i hi x hx => by
      obtain ⟨q1, q2⟩ := hap i hi x hx;rw [hk, hk2] at q2;exact ⟨q1, by simpa using q2⟩)
     refine oU.wp (K := fun u w2 => ∃ p, u = mk p /\ Fr C.S0 C.w0 w2 (G1 p ++ E1 p)) ho (hc [] w' (fun _ h => (List.not_mem_nil h).elim) S.fr) ?_;rintro u w2 ⟨p, rfl, hf⟩;obtain ⟨x', hx'⟩ := nG a.defers x o.dst (mk p);refine ⟨x', hx', l1 ++ l2, G1 p, E1 p, K ++ Kt, hsub.trans S.sub, hmem, by rw [<- hx']; exact hr p, hf, fun r hr' => ?_, fun i hi hid r hr' => ?_⟩
     . rw [hE p r (fun h => hr' (List.mem_append_left _ h))];exact S.gd r (fun h => hr' (List.mem_append_right _ h))
     . rcases List.mem_append.1 hr' with hr' | hr'
       . unfold fV at hK;have := List.all_eq_true.1 hK i (List.mem_range.2 (by rw [hn]; exact hin i (hsub.subset hi)));simp only [Bool.or_eq_true, beq_iff_eq, Bool.not_eq_true', List.all_eq_true, List.contains_iff_mem] at this;have hij : i ≠ j := fun e => by
          subst e;rcases List.mem_append.1 hi with h | h
          . exact absurd (h1 _ h) (Nat.lt_irrefl _)
          . exact absurd (h2 _ h) (Nat.lt_irrefl _)
         rcases this with ((h | h) | h) | h
         . exact absurd h hij
         . rw [hnp i (hsub.subset hi)] at h; cases h
         . rw [hid] at h; cases h
         . exact h r hr'
       . exact S.hid i (hsub.subset hi) hid r hr'
 . rintro L x w' hL ⟨l, G, E, Kt, S⟩;have : l = [] := by
    cases l with
    | nil => rfl
    | cons i l =>
     have hi := (jV n 0 i).1 (S.sub.subset (List.mem_cons_self ..));have := (S.mem i (by omega)).1 (List.mem_cons_self ..);rw [hL i (by omega)] at this; cases this
   subst this;exact S.rw_ w' S.fr
theorem rgA (C : RC) {id n : Nat} {a : Act} {w : World} (hm : C.P.follows .mixedOrders = true) (hn : C.ops.size = n) (hok : kX C.ops n = true) (H : Fr C.S0 C.w0 w C.E0) (h : RW C (ub n 0) [] C.E0 a) : (Code.region id C.ops true).wp C.P C.Q a w := wp_region_any hm (rgA1 C hn hok H h)
theorem rgB (C : RC) {n : Nat} (hn : C.ops.size = n) (hok : kX C.ops n = true) : ∀ (l : List Nat) {G E : List En} {Kt : List Nat} {a : Act} {w : World}, l.Pairwise (· < ·) -> (∀ i ∈ l, i < n) -> RW C l G E a -> Fr C.S0 C.w0 w (G ++ E) -> (∀ r, r ∉ Kt -> E[r]? = C.E0[r]?) -> (∀ i ∈ l, opL C.ops i = true -> ∀ r ∈ Kt, r ∈ C.hd.getD i []) -> wpOps C.P C.ops C.Q l a w
 | [], G, E, Kt, a, w, _, _, h, hf, _, _ => h w hf
 | j :: l, G, E, Kt, a, w, hsrt, hin, h, hf, hkp, hid => by
  obtain ⟨hs, hb, hc, hok1, hlt⟩ := nJ hok;rw [wpOps_cons];obtain ⟨o, ho, h⟩ := h;have hjn := hin j (List.mem_cons_self ..);have hs2 := List.pairwise_cons.1 hsrt;have hin' := fun i hi => hin i (List.mem_cons_of_mem _ hi);have hid' := fun i hi => hid i (List.mem_cons_of_mem _ hi);rcases h with ⟨hk, v, hv, hr⟩ | ⟨hk, hk2, mk, t, cs, hnw, hr⟩ | ⟨hk, hk2, α, mk, G1, E1, K, hne, hcn, hK, hE, hr⟩
  . have hw1 : C.V j o w := by
     intro hl;refine hf.sub ((ma _ C.E0 E 0 fun r hr => hkp r fun hk' => hr ?_).trans (List.sublist_append_right ..));rw [Nat.zero_add];exact hid j (List.mem_cons_self ..) (by simp [opL, ho, hl]) r hk'
    refine oU.wp (K := fun u w2 => u = v /\ w2 = w) ho ?_ ?_
    . rcases hv w hw1 with ⟨e1, e2⟩ | ⟨e1, e2⟩
      . rw [if_pos e1];rcases e2 with e2 | ⟨e2, e3⟩
        . rw [e2]; exact ⟨rfl, rfl⟩
        . rw [e2, e3]; exact ⟨rfl, rfl⟩
      . rw [if_neg (by rw [e1]; decide), e2]; exact ⟨rfl, rfl⟩
    . rintro u w2 ⟨rfl, rfl⟩;exact rgB C hn hok l hs2.2 hin' hr hf hkp hid'
  . refine oU.wp (K := fun u w2 => u = mk w.heap.size /\ w2 = w.alloc (.cells cs.toArray t (0, 0))) ho ?_ ?_
    . rw [if_pos hnw.1, hnw.2 w]; exact ⟨rfl, rfl⟩
    . rintro u w2 ⟨rfl, rfl⟩;exact rgB C hn hok l hs2.2 hin' (hr _) (hf.new (e := .row w.heap.size t cs) ((Below.refl _ _).alloc (Nat.le_refl _) _) (by have := a6.new w cs.toArray t; simpa [En.F] using this) (by rintro b rfl; exact Nat.le_refl _)) hkp hid'
  . refine oU.wp (K := fun u w2 => ∃ p, u = mk p /\ Fr C.S0 C.w0 w2 (G1 p ++ E1 p)) ho (hcn [] w (fun _ h => (List.not_mem_nil h).elim) hf) ?_;rintro u w2 ⟨p, rfl, hf'⟩;refine rgB C hn hok l (Kt := K ++ Kt) hs2.2 hin' (hr p) hf' (fun r hr' => ?_) (fun i hi hdi r hr' => ?_)
    . rw [hE p r (fun h => hr' (List.mem_append_left _ h))];exact hkp r (fun h => hr' (List.mem_append_right _ h))
    . rcases List.mem_append.1 hr' with hr' | hr'
      . unfold fV at hK;have := List.all_eq_true.1 hK i (List.mem_range.2 (by rw [hn]; exact hin' i hi));simp only [Bool.or_eq_true, beq_iff_eq, Bool.not_eq_true', List.all_eq_true, List.contains_iff_mem] at this;have hij := hs2.1 i hi;rcases this with ((h | h) | h) | h
        . omega
        . have := CU hc hlt hjn h; omega
        . rw [hdi] at h; cases h
        . exact h r hr'
      . exact hid' i hi hdi r hr'
theorem rgB1 (C : RC) {n : Nat} {a : Act} {w : World} (hn : C.ops.size = n) (hok : kX C.ops n = true) (H : Fr C.S0 C.w0 w C.E0) (h : RW C (ub n 0) [] C.E0 a) : wpOps C.P C.ops C.Q (List.range C.ops.size) a w := by
 have e : ∀ k j, ub k j = List.range' j k := by
  intro k;induction k with
  | zero => intro j; rfl
  | succ k ih => intro j; rw [ub, ih, List.range'_succ]
 rw [hn, List.range_eq_range', <- e];exact rgB C hn hok _ (kN n 0) (fun i hi => by have := (jV n 0 i).1 hi; omega) h H (Kt := []) (fun _ _ => rfl) (fun _ _ _ _ hr => by cases hr)
theorem rgC (C : RC) {id n : Nat} {d : Bool} {a : Act} {w : World} (hm : C.P.follows .mixedOrders = true) (hn : C.ops.size = n) (hok : kX C.ops n = true) (H : Fr C.S0 C.w0 w C.E0) (h : RW C (ub n 0) [] C.E0 a) : (Code.region id C.ops d).wp C.P C.Q a w := by
 cases d with
 | true => exact rgA C hm hn hok H h
 | false => exact wp_region (rgB1 C hn hok H h)
def gi (xs : List Int) (i : Nat) : Int := xs.getD i 0
def gp (ps : List P4) (i : Nat) : P4 := ps.getD i p0
def rn (ps : List P4) (tl : List Value) : List Value := flat ps ++ tl
def dA (w : World) (ps : List P4) (xs : List Int) : Prop := ps.length = xs.length /\ ∀ i, i < ps.length -> aN w (av (gp ps i)) (gi xs i)
def bc (w : World) (L : Nat) (ao : Option Addr) (xs : List Int) : Prop :=
 0 < xs.length -> ∃ b o, ao = some ⟨b, o, none⟩ /\ b < w.heap.size /\ ∀ i (h : i < xs.length), ∃ p : P4, w.cell? ⟨b, o + i * 2, none⟩ = some (.bool p.1) /\ w.cell? ⟨b, o + i * 2 + 1, none⟩ = some (.slice p.2.1 p.2.2.1 p.2.2.2) /\ a8 w L (av p) xs[i]
def dw (w : World) (ao : Option Addr) (xs : List Int) : Prop :=
 0 < xs.length -> ∃ b o, ao = some ⟨b, o, none⟩ /\ b < w.heap.size /\ ∀ i (h : i < xs.length), ∃ p : P4, w.cell? ⟨b, o + i * 2, none⟩ = some (.bool p.1) /\ w.cell? ⟨b, o + i * 2 + 1, none⟩ = some (.slice p.2.1 p.2.2.1 p.2.2.2) /\ aN w (av p) xs[i]
def uD (ao : Option Addr) (k cap : Nat) (ps : List P4) (w : World) : Prop := ps.length = k /\ k <= cap /\ ((ao = none /\ cap = 0) \/ ∃ b tl, ao = some ⟨b, 0, none⟩ /\ aK tl /\ a6 w b 40 (rn ps tl) /\ (rn ps tl).length = cap * 2)
def wa (te : TypeId) (sz : Nat) (ao : Option Addr) (k cap : Nat) (cs : List Value) (w : World) : Prop := cs.length = k * sz /\ k <= cap /\ ((ao = none /\ cap = 0) \/ ∃ b tl, ao = some ⟨b, 0, none⟩ /\ aK tl /\ a6 w b te (cs ++ tl) /\ (cs ++ tl).length = cap * sz)
def En.j3 (ao : Option Addr) (ws : List Nat) : En := .fact false false (fun g => 0 < ws.length /\ ∃ o, ao = some ⟨g, o, none⟩) (fun w => cU w ao ws) (fun h b ⟨hl, o, e⟩ => by
 obtain ⟨b', o', e', hb, _⟩ := h.2 hl;rw [e] at e'; cases e'; exact hb)
 (fun {w w' T} h hc _ hs => ⟨h.1, fun hl => by
  obtain ⟨b, o, e, hb, hcl⟩ := h.2 hl;exact ⟨b, o, e, Nat.lt_of_lt_of_le hb hc.size, fun i hi => (hc.cell (p := ⟨b, o + i, none⟩) hb (hs b ⟨hl, o, e⟩)).trans (hcl i hi)⟩⟩)
abbrev En.ns (ps : List P4) (xs : List Int) : En := .fact true false (fun _ => False) (fun w => dA w ps xs) (fun _ _ h => h.elim) (fun h hc hT _ => ⟨h.1, fun i a => hc.num (hT rfl).bH (h.2 i a)⟩)
abbrev En.ls (L : Nat) (ao : Option Addr) (xs : List Int) : En := .fact true false (fun g => 0 < xs.length /\ ∃ o, ao = some ⟨g, o, none⟩) (fun w => bc w L ao xs) (fun h b ⟨hl, o, e⟩ => by
 obtain ⟨b', o', e', hb, _⟩ := h hl;rw [e] at e'; cases e'; exact hb)
 (fun {w w' T} h hc hT hs hl => by
  obtain ⟨b, o, e, hb, hcl⟩ := h hl;refine ⟨b, o, e, Nat.lt_of_lt_of_le hb hc.size, fun i hi => ?_⟩;obtain ⟨p, h0, h1, hn⟩ := hcl i hi;exact ⟨p, (hc.cell (p := ⟨b, o + i * 2, none⟩) hb (hs b ⟨hl, o, e⟩)).trans h0, (hc.cell (p := ⟨b, o + i * 2 + 1, none⟩) hb (hs b ⟨hl, o, e⟩)).trans h1, hc.int (hT rfl).bH hn⟩)
abbrev En.vZ (ao : Option Addr) (k cap : Nat) (ps : List P4) : En := .fact false true (fun g => ∃ o, ao = some ⟨g, o, none⟩) (uD ao k cap ps)
 (fun ⟨_, _, h⟩ b ⟨o, e⟩ => by
  rcases h with ⟨h, _⟩ | ⟨b', tl, h, _, hr, _⟩
  . rw [e] at h; cases h
  . rw [e] at h; cases h; exact hr.lt)
 (fun ⟨h1, h2, h⟩ hc _ hs => ⟨h1, h2, h.imp id fun ⟨b, tl, e, hn, hr, hl⟩ => ⟨b, tl, e, hn, hc.row hr (hs b ⟨0, e⟩), hl⟩⟩)
abbrev En.ia (L k : Nat) (ps : List P4) (xs : List Int) : En := .fact true false (fun _ => False) (fun w => ∀ i, i < k -> a8 w L (av (gp ps i)) (gi xs i)) (fun _ _ h => h.elim) (fun h hc hT _ i hi => hc.int (hT rfl).bH (h i hi))
abbrev En.jL (ao : Option Addr) (xs : List Int) : En := .fact true false (fun g => 0 < xs.length /\ ∃ o, ao = some ⟨g, o, none⟩) (fun w => dw w ao xs) (fun h b ⟨hl, o, e⟩ => by
 obtain ⟨b', o', e', hb, _⟩ := h hl;rw [e] at e'; cases e'; exact hb)
 (fun {w w' T} h hc hT hs hl => by
  obtain ⟨b, o, e, hb, hcl⟩ := h hl;refine ⟨b, o, e, Nat.lt_of_lt_of_le hb hc.size, fun i hi => ?_⟩;obtain ⟨p, h0, h1, hn⟩ := hcl i hi;exact ⟨p, (hc.cell (p := ⟨b, o + i * 2, none⟩) hb (hs b ⟨hl, o, e⟩)).trans h0, (hc.cell (p := ⟨b, o + i * 2 + 1, none⟩) hb (hs b ⟨hl, o, e⟩)).trans h1, hc.num (hT rfl).bH hn⟩)
abbrev En.pr (A : Prop) : En := .fact false false (fun _ => False) (fun _ => A) (fun _ _ h => h.elim) (fun h _ _ _ => h)
abbrev En.lg (te : TypeId) (sz : Nat) (ao : Option Addr) (k cap : Nat) (cs : List Value) : En := .fact false true (fun g => ∃ o, ao = some ⟨g, o, none⟩) (wa te sz ao k cap cs)
 (fun ⟨_, _, h⟩ b ⟨o, e⟩ => by
  rcases h with ⟨h, _⟩ | ⟨b', tl, h, _, hr, _⟩
  . rw [e] at h; cases h
  . rw [e] at h; cases h; exact hr.lt)
 (fun ⟨h1, h2, h⟩ hc _ hs => ⟨h1, h2, h.imp id fun ⟨b, tl, e, hn, hr, hl⟩ => ⟨b, tl, e, hn, hc.row hr (hs b ⟨0, e⟩), hl⟩⟩)
abbrev En.lrs (L : Nat) (hs : List (Option Addr × Nat)) (R : List (List Int)) : En := .fact true false (fun g => ∃ t, t < R.length /\ 0 < (R.getD t []).length /\ ∃ o, (hs.getD t (none, 0)).1 = some ⟨g, o, none⟩) (fun w => ∀ t, t < R.length -> bc w L (hs.getD t (none, 0)).1 (R.getD t []))
 (fun h b ⟨t, ht, hl, o, e⟩ => by
  obtain ⟨b', o', e', hb, _⟩ := h t ht hl;rw [e] at e'; cases e'; exact hb)
 (fun {w w' T} h hc hT hs t ht hl => by
  obtain ⟨b, o, e, hb, hcl⟩ := h t ht hl;refine ⟨b, o, e, Nat.lt_of_lt_of_le hb hc.size, fun i hi => ?_⟩;obtain ⟨p, h0, h1, hn⟩ := hcl i hi;exact ⟨p, (hc.cell (p := ⟨b, o + i * 2, none⟩) hb (hs b ⟨t, ht, hl, o, e⟩)).trans h0, (hc.cell (p := ⟨b, o + i * 2 + 1, none⟩) hb (hs b ⟨t, ht, hl, o, e⟩)).trans h1, hc.int (hT rfl).bH hn⟩)
def RwF (x : Nat) (gs : List Nat) (E : List (List Int)) (w : World) : Prop := ∀ t, t < E.length -> t ≠ x -> ∃ (ps : List P4) (tl : List Value), aK tl /\ a6 w (gs.getD t 0) 40 (rn ps tl) /\ dA w ps (E.getD t [])
abbrev En.na (x : Nat) (gs : List Nat) (E : List (List Int)) : En := .fact true true (fun g => ∃ t, t < E.length /\ t ≠ x /\ g = gs.getD t 0) (RwF x gs E)
 (fun h b ⟨t, ht, hx, e⟩ => by
  obtain ⟨ps, tl, _, hr, _⟩ := h t ht hx;rw [e]; exact hr.lt)
 (fun h hc hT hs t ht hx => by
  obtain ⟨ps, tl, hn, hr, h1, h2⟩ := h t ht hx;exact ⟨ps, tl, hn, hc.row hr (hs _ ⟨t, ht, hx, rfl⟩), h1, fun i a => hc.num (hT rfl).bH (h2 i a)⟩)
def RlF (ao : Option Addr) (cs : List Value) (w : World) : Prop := 0 < cs.length -> ∃ b, ao = some ⟨b, 0, none⟩ /\ b < w.heap.size /\ ∀ (i : Nat) v, cs[i]? = some v -> w.cell? ⟨b, i, none⟩ = some v
abbrev En.rl (ao : Option Addr) (cs : List Value) : En := .fact false false (fun g => 0 < cs.length /\ ∃ o, ao = some ⟨g, o, none⟩) (RlF ao cs)
 (fun h b ⟨hl, o, e⟩ => by
  obtain ⟨b', e', hb, _⟩ := h hl;rw [e] at e'; cases e'; exact hb)
 (fun {w w' T} h hc _ hs hl => by
  obtain ⟨b, e, hb, hcl⟩ := h hl;exact ⟨b, e, Nat.lt_of_lt_of_le hb hc.size, fun i v hv => (hc.cell (p := ⟨b, i, none⟩) hb (hs b ⟨hl, 0, e⟩)).trans (hcl i v hv)⟩)
def dJ : List (Nat × Value) -> Operand -> Value
 | _, .const v => v
 | _, .global g => .pointer (some ⟨g, 0, none⟩)
 | _, .func f => .func (.func f) #[] #[]
 | [], .tmp _ => undef
 | (s, v) :: l, .tmp t => if t = s then v else dJ l (.tmp t)
theorem cJ : (∀ ls v, dJ ls (.const v) = v) /\ (∀ ls g, dJ ls (.global g) = .pointer (some ⟨g, 0, none⟩)) /\ (∀ ls f, dJ ls (.func f) = .func (.func f) #[] #[]) /\ (∀ s v l t, dJ ((s, v) :: l) (.tmp t) = if t = s then v else dJ l (.tmp t)) :=
 ⟨fun ls _ => by cases ls <;> rfl, fun ls _ => by cases ls <;> rfl, fun ls _ => by cases ls <;> rfl, fun _ _ _ _ => rfl⟩
attribute [go_sem] cJ
def cl (p : P4) : List Value := [.bool p.1, .slice p.2.1 p.2.2.1 p.2.2.2]
def eG (ls : List (Nat × Value)) : Operand -> Bool
 | .tmp t => ls.any fun p => p.1 == t
 | _ => true
def et (ls : List (Nat × Value)) (op : Op) : Bool := op.operands.toList.all (eG ls) && match op with | .select .. => false | _ => true
structure ku (ds : List Deferred) (n : Nat) (ls : List (Nat × Value)) (a : Act) : Prop where
 df : a.defers = ds
 sz : a.tmps.size = n
 vs : ∀ p ∈ ls, a.tmps[p.1]? = some (dJ ls (.tmp p.1))
abbrev Sl := ku []
theorem ku.tmp {ds : List Deferred} {n : Nat} {ls : List (Nat × Value)} {a : Act} (h : ku ds n ls a) {t : Nat} (ht : eG ls (.tmp t) = true) : a.tmps[t]? = some (dJ ls (.tmp t)) := by
 unfold eG at ht;obtain ⟨p, hp, hpt⟩ := List.any_eq_true.1 ht;simp only [beq_iff_eq] at hpt;subst hpt;exact h.vs p hp
theorem ku.ev {ds : List Deferred} {n : Nat} {ls : List (Nat × Value)} {a : Act} (h : ku ds n ls a) {x : Operand} (hx : eG ls x = true) : a.eval x = dJ ls x := by
 cases x with
 | const v => rw [cJ.1]; rfl
 | global g => rw [cJ.2.1]; rfl
 | func f => rw [cJ.2.2.1]; rfl
 | tmp t => simp [Act.eval, h.tmp hx]
theorem ku.exec {ds : List Deferred} {n : Nat} {ls : List (Nat × Value)} {a : Act} (h : ku ds n ls a) {o : Oper} (hc : et ls o.op = true) : execOp a.eval o = execOp (dJ ls) o := by
 unfold et at hc;rw [Bool.and_eq_true] at hc;refine execOp_congr o (fun cs b e => ?_) fun x hx => h.ev (List.all_eq_true.1 hc.1 x (Array.mem_toList_iff.2 hx));have := hc.2;rw [e] at this;cases this
theorem ku.put {ds : List Deferred} {n : Nat} {ls : List (Nat × Value)} {a : Act} (h : ku ds n ls a) {s : Nat} (hs : s < n) (v : Value) : ku ds n ((s, v) :: ls) (a.put (some s) v) := by
 refine ⟨h.df, by simp [Act.put, h.sz], fun p hp => ?_⟩;have hsz : s < a.tmps.size := by rw [h.sz]; exact hs
 by_cases he : p.1 = s
 . rw [he];simp [Act.put, dJ, hsz]
 . rw [cJ.2.2.2, if_neg he];rcases List.mem_cons.1 hp with rfl | hp
   . exact absurd rfl he
   . simp only [Act.put, Array.getElem?_setIfInBounds_ne (fun e => he e.symm)];exact h.vs p hp
theorem ku.BC {ds : List Deferred} {n : Nat} {ls : List (Nat × Value)} {a : Act} (h : ku ds n ls a) (v : Value) : ku ds n ls (a.put none v) := h
theorem ku.sub {ds : List Deferred} {n : Nat} {ls ls' : List (Nat × Value)} {a : Act} (h : ku ds n ls a) (hk : ∀ p ∈ ls', eG ls (.tmp p.1) = true /\ dJ ls (.tmp p.1) = dJ ls' (.tmp p.1)) : ku ds n ls' a :=
 ⟨h.df, h.sz, fun p hp => by rw [h.tmp (hk p hp).1, (hk p hp).2]⟩
theorem ae.r5 {T : Nat -> Prop} {w w' : World} {B : Nat} {v : Value} {x : Int} (hx : ae w B v x) (h : aO T w w') (hS : Wl T w) : ae w' B v x := by
 obtain ⟨ao, cap, rfl, h1, h2, h3, h4⟩ := hx;refine ⟨ao, cap, rfl, h1, h2, h3, ?_⟩;rcases h4 with h0 | ⟨g, c, cur, hv, hbb, hg, r⟩
 . exact .inl h0
 . refine .inr ⟨g, c, cur, hv, hbb, ?_, r⟩;rw [h.block g (Array.getElem?_eq_some_iff.1 hg).1 (fun hs => by
    obtain ⟨t, cs, hr, _, ht⟩ := hS g hs;unfold a6 at hr;rw [hg] at hr;simp only [Option.some.injEq, Obj.cells.injEq] at hr;exact ht hr.2.1.symm)]
   exact hg
def En.own (B : Nat) (v : Value) (x : Int) : En := .fact true false (fun _ => False) (fun w => ae w B v x) (fun _ _ h => h.elim) (fun h hc hT _ => ae.r5 h hc (hT rfl))
def En.at (L : Nat) (v : Value) (x : Int) : En := .fact true false (fun _ => False) (fun w => a8 w L v x) (fun _ _ h => h.elim) (fun h hc hT _ => hc.int (hT rfl).bH h)
def En.num (v : Value) (x : Int) : En := .fact true false (fun _ => False) (fun w => aN w v x) (fun _ _ h => h.elim) (fun h hc hT _ => hc.num (hT rfl).bH h)
def En.ow (B : Nat) (ao : Option Addr) (m cap : Nat) : En := .fact true false (fun _ => False) (fun w => ct w B ao (aa m) cap (ew m)) (fun _ _ h => h.elim) (fun {w w' T} h hc hT _ => by
 have := ae.r5 (ae.mk false h) hc (hT rfl);obtain ⟨ao', cap', e, ho⟩ := this;rw [fQ] at e ho;cases e;exact ho)
def gj (w : World) : List En -> Prop
 | [] => True
 | .row b _ cs :: l => (∀ i, w.cell? ⟨b, i, none⟩ = cs[i]?) /\ gj w l
 | .cell a v :: l => w.cell? a = some v /\ gj w l
 | .fact .. :: l => gj w l
theorem uc (w : World) : (∀ b t cs l, gj w (.row b t cs :: l) = ((∀ i, w.cell? ⟨b, i, none⟩ = cs[i]?) /\ gj w l)) /\ (∀ a v l, gj w (.cell a v :: l) = (w.cell? a = some v /\ gj w l)) /\ (∀ B v x l, gj w (.own B v x :: l) = gj w l) /\ (∀ B v x l, gj w (.at B v x :: l) = gj w l) /\ (∀ v x l, gj w (.num v x :: l) = gj w l) /\ (∀ B a m k l, gj w (.ow B a m k :: l) = gj w l) /\ gj w [] = True /\ (∀ l, gj w ([] ++ l) = gj w l) /\ (∀ e l l', gj w ((e :: l) ++ l') = gj w (e :: (l ++ l'))) /\ (∀ a ws l, gj w (.j3 a ws :: l) = gj w l) /\ (∀ ps xs l, gj w (.ns ps xs :: l) = gj w l) /\ (∀ L a xs l, gj w (.ls L a xs :: l) = gj w l) /\ (∀ a k c ps l, gj w (.vZ a k c ps :: l) = gj w l) /\ (∀ L k ps xs l, gj w (.ia L k ps xs :: l) = gj w l) /\ (∀ a xs l, gj w (.jL a xs :: l) = gj w l) /\ (∀ A l, gj w (.pr A :: l) = gj w l) /\ (∀ t s a k c cs l, gj w (.lg t s a k c cs :: l) = gj w l) /\ (∀ L h R l, gj w (.lrs L h R :: l) = gj w l) /\ (∀ x g E l, gj w (.na x g E :: l) = gj w l) /\ ∀ a cs l, gj w (.rl a cs :: l) = gj w l :=
 ⟨fun _ _ _ _ => rfl, fun _ _ _ => rfl, fun _ _ _ _ => rfl, fun _ _ _ _ => rfl, fun _ _ _ => rfl, fun _ _ _ _ _ => rfl, rfl, fun _ => rfl, fun _ _ _ => rfl, fun _ _ _ => rfl, fun _ _ _ => rfl, fun _ _ _ _ => rfl, fun _ _ _ _ _ => rfl, fun _ _ _ _ _ => rfl, fun _ _ _ => rfl, fun _ _ => rfl, fun _ _ _ _ _ _ _ => rfl, fun _ _ _ _ => rfl, fun _ _ _ _ => rfl, fun _ _ _ => rfl⟩
theorem gj.of (w : World) : ∀ es : List En, (∀ e ∈ es, e.F w) -> gj w es
 | [], _ => trivial
 | .row b t cs :: l, h => ⟨a6.cell (h _ (List.mem_cons_self ..)), gj.of w l fun e he => h e (List.mem_cons_of_mem _ he)⟩
 | .cell a v :: l, h => ⟨h _ (List.mem_cons_self ..), gj.of w l fun e he => h e (List.mem_cons_of_mem _ he)⟩
 | .fact .. :: l, h => gj.of w l fun e he => h e (List.mem_cons_of_mem _ he)
section
variable {S0 : Nat -> Prop} {w0 w : World} {es : List En}
theorem Fr.c (h : Fr S0 w0 w es) : gj w es := gj.of w es h.all
variable {e0 e1 e2 e3 e4 e5 e6 e7 e8 e9 e10 e11 e12 e13 e14 e15 e16 : En}
theorem Fr.m0 (h : Fr S0 w0 w (e0 :: es)) : e0.F w := h.all _ (List.mem_cons_self ..)
theorem Fr.tl (h : Fr S0 w0 w (e0 :: es)) : Fr S0 w0 w es := h.sub (List.sublist_cons_self ..)
theorem Fr.m1 (h : Fr S0 w0 w (e0 :: e1 :: es)) : e1.F w := h.tl.m0
theorem Fr.m2 (h : Fr S0 w0 w (e0 :: e1 :: e2 :: es)) : e2.F w := h.tl.m1
theorem Fr.m3 (h : Fr S0 w0 w (e0 :: e1 :: e2 :: e3 :: es)) : e3.F w := h.tl.m2
theorem Fr.m4 (h : Fr S0 w0 w (e0 :: e1 :: e2 :: e3 :: e4 :: es)) : e4.F w := h.tl.m3
theorem Fr.m5 (h : Fr S0 w0 w (e0 :: e1 :: e2 :: e3 :: e4 :: e5 :: es)) : e5.F w := h.tl.m4
theorem Fr.m6 (h : Fr S0 w0 w (e0 :: e1 :: e2 :: e3 :: e4 :: e5 :: e6 :: es)) : e6.F w := h.tl.m5
theorem Fr.m7 (h : Fr S0 w0 w (e0 :: e1 :: e2 :: e3 :: e4 :: e5 :: e6 :: e7 :: es)) : e7.F w := h.tl.m6
theorem Fr.m8 (h : Fr S0 w0 w (e0 :: e1 :: e2 :: e3 :: e4 :: e5 :: e6 :: e7 :: e8 :: es)) : e8.F w := h.tl.m7
theorem Fr.m9 (h : Fr S0 w0 w (e0 :: e1 :: e2 :: e3 :: e4 :: e5 :: e6 :: e7 :: e8 :: e9 :: es)) : e9.F w := h.tl.m8
theorem Fr.m10 (h : Fr S0 w0 w (e0 :: e1 :: e2 :: e3 :: e4 :: e5 :: e6 :: e7 :: e8 :: e9 :: e10 :: es)) : e10.F w := h.tl.m9
theorem Fr.m11 (h : Fr S0 w0 w (e0 :: e1 :: e2 :: e3 :: e4 :: e5 :: e6 :: e7 :: e8 :: e9 :: e10 :: e11 :: es)) : e11.F w := h.tl.m10
theorem Fr.m12 (h : Fr S0 w0 w (e0 :: e1 :: e2 :: e3 :: e4 :: e5 :: e6 :: e7 :: e8 :: e9 :: e10 :: e11 :: e12 :: es)) : e12.F w := h.tl.m11
end
def dZ (ds : List Deferred) (C : RC) (n : Nat) (l : List Nat) (G E : List En) (ls : List (Nat × Value)) : Prop := ∀ a, ku ds n ls a -> RW C l G E a
def fJ (ds : List Deferred) (P : Program) (n : Nat) (S0 : Nat -> Prop) (w0 : World) (c : Code) (Q : Exit -> Act -> World -> Prop) (ls : List (Nat × Value)) (es : List En) : Prop := ∀ a w, ku ds n ls a -> Fr S0 w0 w es -> c.wp P Q a w
def pb (ds : List Deferred) (n : Nat) (S0 : Nat -> Prop) (w0 : World) (Q : Exit -> Act -> World -> Prop) (e : Exit) (ls : List (Nat × Value)) (es : List En) : Prop := ∀ a w, ku ds n ls a -> Fr S0 w0 w es -> Q e a w
abbrev RWs := dZ []
abbrev CW := fJ []
abbrev QW := pb []
inductive Rm (e : En) : List En -> List En -> Prop where
 | z {l : List En} : Rm e (e :: l) l
 | s {x : En} {l l' : List En} (h : Rm e l l') : Rm e (x :: l) (x :: l')
inductive Pk : List En -> List En -> Prop where
 | n {l : List En} : Pk l []
 | c {e : En} {l l1 r : List En} (h : Rm e l l1) (k : Pk l1 r) : Pk l (e :: r)
theorem Rm.perm {e : En} {l l' : List En} (h : Rm e l l') : l.Perm (e :: l') := by
 induction h with
 | z => exact .refl _
 | @s x l l' h ih => exact (ih.cons x).trans (.swap ..)
theorem Pk.perm {l r : List En} (h : Pk l r) : ∃ m, l.Perm (r ++ m) := by
 induction h with
 | n => exact ⟨_, .refl _⟩
 | c h _ ih =>
  obtain ⟨m, hm⟩ := ih;exact ⟨m, h.perm.trans (hm.cons _)⟩
theorem Fr.pick {S0 : Nat -> Prop} {w0 w : World} {es es' : List En} (h : Fr S0 w0 w es) (k : Pk es es') : Fr S0 w0 w es' := by
 obtain ⟨m, hm⟩ := k.perm;exact (h.perm hm).sub (List.sublist_append_left ..)
section
variable {P : Program} {ops : Array Oper} {Q : Exit -> Act -> World -> Prop} {ds : List Deferred} {S0 : Nat -> Prop} {w0 : World} {E0 : List En} {hd : List (List Nat)} {n j s : Nat} {l : List Nat} {G E : List En} {ls : List (Nat × Value)} {op : Op} {ty : TypeId} {pos : String} {af : Array Edge} {v : Value}
theorem AN {o : Oper} {y : Nat -> Option Bool} {A B : Prop} (hg : o.guard = none) (h : A) : if Region.wanted o y = true then A else B := by
 rw [if_pos (by simp [Region.wanted, hg])]; exact h
theorem dW (k : dZ ds ⟨P, ops, Q, S0, w0, E0, []⟩ n l G E ((s, v) :: ls))
 (ho : ops[j]? = some ⟨some s, op, ty, pos, af, none⟩ := by rfl) (hk : (bY op && et ls op && Nat.blt s n) = true := by kernel_rfl)
 (hr : ∀ w, (qK op = true -> Fr S0 w0 w E0) -> (execOp (dJ ls) ⟨some s, op, ty, pos, af, none⟩).run P w = .ok (.value v) w := by intro w H; (first | (have c := (H rfl).c; try simp only [uc, cl, List.cons_append, List.nil_append] at c) | skip); clear H; go_simp <;> with_reducible rfl) : dZ ds ⟨P, ops, Q, S0, w0, E0, []⟩ n (j :: l) G E ls := fun a ha => by
 simp only [Bool.and_eq_true] at hk;refine ⟨_, ho, .inl ⟨hk.1.1, v, fun w hw => .inl ⟨rfl, .inl ?_⟩, k _ (ha.put (Nat.le_of_ble_eq_true hk.2) v)⟩⟩;rw [ha.exec hk.1.2];exact hr w fun hl => by simpa [ml] using hw hl
theorem dH (k : dZ ds ⟨P, ops, Q, S0, w0, E0, hd⟩ n l G E ((s, v) :: ls))
 (ho : ops[j]? = some ⟨some s, op, ty, pos, af, none⟩ := by rfl) (hk : (bY op && et ls op && Nat.blt s n) = true := by kernel_rfl)
 (hr : ∀ w, (qK op = true -> Fr S0 w0 w (lG 0 E0 (hd.getD j []))) -> (execOp (dJ ls) ⟨some s, op, ty, pos, af, none⟩).run P w = .ok (.value v) w := by intro w H; (first | (have c := (H rfl).c; try simp only [lG, List.getD_cons_zero, List.getD_cons_succ, List.getD_nil, List.contains_cons, List.contains_nil, Nat.reduceBEq, Nat.reduceAdd, Bool.or_false, Bool.false_or, Bool.or_true, Bool.true_or, Bool.false_eq_true, ↓reduceIte, uc, cl, List.cons_append, List.nil_append] at c) | skip); clear H; go_simp <;> with_reducible rfl) : dZ ds ⟨P, ops, Q, S0, w0, E0, hd⟩ n (j :: l) G E ls := fun a ha => by
 simp only [Bool.and_eq_true] at hk;refine ⟨_, ho, .inl ⟨hk.1.1, v, fun w hw => .inl ⟨rfl, .inl ?_⟩, k _ (ha.put (Nat.le_of_ble_eq_true hk.2) v)⟩⟩;rw [ha.exec hk.1.2];exact hr w hw
theorem aW {t : TypeId} {cs : List Value} (k : ∀ g, dZ ds ⟨P, ops, Q, S0, w0, E0, hd⟩ n l (.row g t cs :: G) E ((s, .pointer (some ⟨g, 0, none⟩)) :: ls))
 (ho : ops[j]? = some ⟨some s, op, ty, pos, af, none⟩ := by rfl) (hk : (!bY op && dx op && et ls op && Nat.blt s n) = true := by kernel_rfl)
 (hr : ∀ w, (execOp (dJ ls) ⟨some s, op, ty, pos, af, none⟩).run P w = .ok (.value (.pointer (some ⟨w.heap.size, 0, none⟩))) (w.alloc (.cells cs.toArray t (0, 0))) := by intro w; (try simp only [av]); go_simp <;> with_reducible rfl) : dZ ds ⟨P, ops, Q, S0, w0, E0, hd⟩ n (j :: l) G E ls := fun a ha => by
 simp only [Bool.and_eq_true, Bool.not_eq_true'] at hk;refine ⟨_, ho, .inr (.inl ⟨hk.1.1.1, hk.1.1.2, fun g => .pointer (some ⟨g, 0, none⟩), t, cs, ⟨rfl, fun w => ?_⟩, fun g => k g _ (ha.put (Nat.le_of_ble_eq_true hk.2) _)⟩)⟩;rw [ha.exec hk.1.2];exact hr w
def Nw (w w' : World) (es : List En) : Prop := Below w.heap.size w w' /\ (∀ e ∈ es, e.F w' /\ ∀ b, e.S b -> w.heap.size <= b) /\ es.Pairwise Ap
theorem Nw.fr {w w' : World} {es E : List En} (h : Nw w w' es) (hf : Fr S0 w0 w E) : Fr S0 w0 w' (es ++ E) := by
 obtain ⟨hb, he, hp⟩ := h;induction es with
 | nil => exact hf.grow hb
 | cons e es ih =>
  have hp' := List.pairwise_cons.1 hp;have h1 := ih (fun x hx => he x (List.mem_cons_of_mem _ hx)) hp'.2;obtain ⟨h2, h3⟩ := he e (List.mem_cons_self ..);refine h1.cons h2 (fun e' he' => ?_) (fun _ b hb => .inr (Nat.le_trans hf.size (h3 b hb)));rcases List.mem_append.1 he' with he' | he'
  . exact hp'.1 e' he'
  . exact ⟨fun _ b h4 h5 => by have := h3 b h4; have := En.lt (hf.all e' he') b h5; omega, fun _ b h4 h5 => by have := h3 b h5; have := En.lt (hf.all e' he') b h4; omega⟩
theorem cG {α : Type} {mk : α -> Value} {ens : α -> List En} {f : FuncId} {args : Array Value} (c : ∀ w, Fr S0 w0 w (G ++ E) -> Calls P f args w fun e w' => ∃ p, e = .returned (mk p) /\ Nw w w' (ens p))
 (k : ∀ p, dZ ds ⟨P, ops, Q, S0, w0, E0, hd⟩ n l (ens p ++ G) E ((s, mk p) :: ls))
 (ho : ops[j]? = some ⟨some s, op, ty, pos, af, none⟩ := by rfl) (hk : (!bY op && !dx op && et ls op && Nat.blt s n) = true := by kernel_rfl)
 (hr : ∀ w, (execOp (dJ ls) ⟨some s, op, ty, pos, af, none⟩).run P w = .ok (.enter f args) w := by intro w; (try simp only [av]); go_simp <;> with_reducible rfl) (hne : Nonempty α := by infer_instance)
 (hst : fV ops hd j [] = true := by kernel_rfl) : dZ ds ⟨P, ops, Q, S0, w0, E0, hd⟩ n (j :: l) G E ls := fun a ha => by
 simp only [Bool.and_eq_true, Bool.not_eq_true'] at hk;refine ⟨_, ho, .inr (.inr ⟨hk.1.1.1, hk.1.1.2, α, mk, fun p => ens p ++ G, fun _ => E, [], hne, fun X w hX hw => ?_, hst, fun _ _ _ => rfl, fun p => k p _ (ha.put (Nat.le_of_ble_eq_true hk.2) _)⟩)⟩;refine AN rfl ?_;show oU P _ ((execOp a.eval _).run P w);rw [ha.exec hk.1.2, hr w];refine (c w (hw.sub (List.sublist_append_right ..))).mono ?_;rintro e w' ⟨p, rfl, hn⟩;refine ⟨_, rfl, p, rfl, (hn.fr hw).perm ?_⟩;rw [List.append_assoc];exact (List.perm_append_comm_assoc (ens p) X (G ++ E))
theorem cN {f : FuncId} {args : Array Value} {x : Int} (c : ∀ w, Fr S0 w0 w (G ++ E) -> Calls P f args w fun e w' => (∃ v, e = .returned v /\ ae w' w.heap.size v x) /\ Below w.heap.size w w')
 (k : ∀ p : P4, dZ ds ⟨P, ops, Q, S0, w0, E0, hd⟩ n l (.own w0.heap.size (av p) x :: G) E ((s, .agg #[.bool p.1, .slice p.2.1 p.2.2.1 p.2.2.2]) :: ls))
 (ho : ops[j]? = some ⟨some s, op, ty, pos, af, none⟩ := by rfl) (hk : (!bY op && !dx op && et ls op && Nat.blt s n) = true := by kernel_rfl)
 (hr : ∀ w, (execOp (dJ ls) ⟨some s, op, ty, pos, af, none⟩).run P w = .ok (.enter f args) w := by intro w; (try simp only [av]); go_simp <;> with_reducible rfl)
 (hst : fV ops hd j [] = true := by kernel_rfl) : dZ ds ⟨P, ops, Q, S0, w0, E0, hd⟩ n (j :: l) G E ls := by
 refine cG (mk := av) (ens := fun p => [.own w0.heap.size (av p) x]) (fun w hw => (c w hw).mono ?_) k ho hk hr ⟨p0⟩ hst;rintro e w' ⟨⟨v, rfl, hv⟩, hb⟩;obtain ⟨b, ao, l', k', rfl⟩ := ae.parts hv;exact ⟨(b, ao, l', k'), rfl, hb, fun e he => by
  rcases List.mem_singleton.1 he with rfl;exact ⟨ae.mono hv hw.size, fun _ h => h.elim⟩, List.pairwise_singleton ..⟩
theorem cV {f : FuncId} {args : Array Value} (c : ∀ w, Fr S0 w0 w (G ++ E) -> Calls P f args w fun e w' => e = .returned v /\ Below w.heap.size w w')
 (k : dZ ds ⟨P, ops, Q, S0, w0, E0, hd⟩ n l G E ((s, v) :: ls))
 (ho : ops[j]? = some ⟨some s, op, ty, pos, af, none⟩ := by rfl) (hk : (!bY op && !dx op && et ls op && Nat.blt s n) = true := by kernel_rfl)
 (hr : ∀ w, (execOp (dJ ls) ⟨some s, op, ty, pos, af, none⟩).run P w = .ok (.enter f args) w := by intro w; (try simp only [av]); go_simp <;> with_reducible rfl)
 (hst : fV ops hd j [] = true := by kernel_rfl) : dZ ds ⟨P, ops, Q, S0, w0, E0, hd⟩ n (j :: l) G E ls := by
 refine cG (α := Unit) (mk := fun _ => v) (ens := fun _ => []) (fun w hw => (c w hw).mono ?_) (fun _ => k) ho hk hr ⟨()⟩ hst;rintro e w' ⟨rfl, hb⟩;exact ⟨(), rfl, hb, fun e he => (List.not_mem_nil he).elim, .nil⟩
theorem Up.left' {e e' : En} {i : Nat} {g g' : List En} (h : Up e e' i g g') (X l : List En) : ∃ m, (X ++ (g ++ l)).Perm (e :: m) /\ (X ++ (g' ++ l)).Perm (e' :: m) := by
 obtain ⟨m, h1, h2⟩ := h.left l;exact ⟨X ++ m, (h1.append_left X).trans List.perm_middle, (h2.append_left X).trans List.perm_middle⟩
theorem Up.right' {e e' : En} {i : Nat} {l l' : List En} (h : Up e e' i l l') (X g : List En) : ∃ m, (X ++ (g ++ l)).Perm (e :: m) /\ (X ++ (g ++ l')).Perm (e' :: m) := by
 obtain ⟨m, h1, h2⟩ := h.right g;exact ⟨X ++ m, (h1.append_left X).trans List.perm_middle, (h2.append_left X).trans List.perm_middle⟩
theorem sW {b k i : Nat} {t : TypeId} {cs us cs' : List Value} {ad x : Operand} {sty : TypeId} {E' : List En}
 (k' : dZ ds ⟨P, ops, Q, S0, w0, E0, hd⟩ n l G E' ls)
 (ho : ops[j]? = some ⟨none, .store sty ad x, ty, pos, af, none⟩ := by rfl) (hk : et ls (.store sty ad x) = true := by kernel_rfl)
 (ha : dJ ls ad = .pointer (some ⟨b, k, none⟩) := by (simp only [cJ, Nat.reduceEqDiff, ↓reduceIte]) <;> rfl)
 (hv : (dJ ls x).cells = us.toArray := by (simp only [cJ, Nat.reduceEqDiff, ↓reduceIte, av, Value.cells]) <;> rfl)
 (hE : Up (.row b t cs) (.row b t cs') i E E' := by repeat first | exact .z | apply Up.s)
 (hU : iZ cs k us = cs' := by first | ((simp only [cl, List.cons_append, List.nil_append, iZ, List.set_cons_zero, List.set_cons_succ, Nat.reduceAdd]) <;> rfl) | rfl)
 (hu : aK cs /\ t ≠ 47 := by exact ⟨by first | exact gA _ | repeat (first | exact aK.nil | exact gA _ | apply aK.bool | apply aK.slice | apply aK.i64 | apply aK.ptr | apply aK.append | unfold cl), by decide⟩)
 (hr : ∀ w, a6 w b t cs -> (execOp (dJ ls) ⟨none, .store sty ad x, ty, pos, af, none⟩).run P w = .ok .skip (qB w b k us) := by intro w h; have c := h.cell; have f := h.free; (try simp only [cl, List.cons_append, List.nil_append] at c); go_simp <;> rfl)
 (hst : fV ops hd j [i] = true := by kernel_rfl) : dZ ds ⟨P, ops, Q, S0, w0, E0, hd⟩ n (j :: l) G E ls := fun a hA => by
 refine ⟨_, ho, .inr (.inr ⟨rfl, rfl, Unit, fun _ => undef, fun _ => G, fun _ => E', [i], ⟨()⟩, fun X w hX hw => ?_, hst, fun _ r hr => hE.other (by simpa using hr), fun _ => k' _ (hA.BC _)⟩)⟩;subst hU;obtain ⟨m, h1, h2⟩ := hE.right' X G;have hrow : a6 w b t cs := (hw.perm h1).all _ (List.mem_cons_self ..);refine AN rfl ?_;show oU P _ ((execOp a.eval _).run P w);rw [hA.exec (o := ⟨none, .store sty ad x, ty, pos, af, none⟩) hk, hr w hrow];exact ⟨(), rfl, hw.st us k (.inl hu) h1 h2⟩
theorem sG {b k i : Nat} {t : TypeId} {cs us cs' : List Value} {ad x : Operand} {sty : TypeId} {G' : List En}
 (k' : dZ ds ⟨P, ops, Q, S0, w0, E0, hd⟩ n l G' E ls)
 (ho : ops[j]? = some ⟨none, .store sty ad x, ty, pos, af, none⟩ := by rfl) (hk : et ls (.store sty ad x) = true := by kernel_rfl)
 (ha : dJ ls ad = .pointer (some ⟨b, k, none⟩) := by (simp only [cJ, Nat.reduceEqDiff, ↓reduceIte]) <;> rfl)
 (hv : (dJ ls x).cells = us.toArray := by (simp only [cJ, Nat.reduceEqDiff, ↓reduceIte, av, Value.cells]) <;> rfl)
 (hE : Up (.row b t cs) (.row b t cs') i G G' := by repeat first | exact .z | apply Up.s)
 (hU : iZ cs k us = cs' := by first | ((simp only [cl, List.cons_append, List.nil_append, iZ, List.set_cons_zero, List.set_cons_succ, Nat.reduceAdd]) <;> rfl) | rfl)
 (hu : aK cs /\ t ≠ 47 := by exact ⟨by first | exact gA _ | repeat (first | exact aK.nil | exact gA _ | apply aK.bool | apply aK.slice | apply aK.i64 | apply aK.ptr | apply aK.append | unfold cl), by decide⟩)
 (hr : ∀ w, a6 w b t cs -> (execOp (dJ ls) ⟨none, .store sty ad x, ty, pos, af, none⟩).run P w = .ok .skip (qB w b k us) := by intro w h; have c := h.cell; have f := h.free; (try simp only [cl, List.cons_append, List.nil_append] at c); go_simp <;> rfl)
 (hst : fV ops hd j [] = true := by kernel_rfl) : dZ ds ⟨P, ops, Q, S0, w0, E0, hd⟩ n (j :: l) G E ls := fun a hA => by
 refine ⟨_, ho, .inr (.inr ⟨rfl, rfl, Unit, fun _ => undef, fun _ => G', fun _ => E, [], ⟨()⟩, fun X w hX hw => ?_, hst, fun _ _ _ => rfl, fun _ => k' _ (hA.BC _)⟩)⟩;subst hU;obtain ⟨m, h1, h2⟩ := hE.left' X E;have hrow : a6 w b t cs := (hw.perm h1).all _ (List.mem_cons_self ..);refine AN rfl ?_;show oU P _ ((execOp a.eval _).run P w);rw [hA.exec (o := ⟨none, .store sty ad x, ty, pos, af, none⟩) hk, hr w hrow];exact ⟨(), rfl, hw.st us k (.inl hu) h1 h2⟩
theorem eW {D : List En} (k : pb ds n S0 w0 Q .normal ls D) (hD : G ++ E = D := by (try simp only [List.cons_append, List.nil_append, iZ, List.set_cons_zero, List.set_cons_succ]); rfl) : dZ ds ⟨P, ops, Q, S0, w0, E0, hd⟩ n [] G E ls := fun a ha w hw => k a w ha (hD ▸ hw)
variable {es : List En} {Qx : Exit -> Act -> World -> Prop}
theorem rW {id m : Nat} {d : Bool} (hd : List (List Nat)) (k : dZ ds ⟨P, ops, Q, S0, w0, es, hd⟩ n (ub m 0) [] es ls) (hm : P.follows .mixedOrders = true := by kernel_rfl) (hn : ops.size = m := by rfl) (hok : kX ops m = true := by kernel_rfl) : fJ ds P n S0 w0 (.region id ops d) Q ls es :=
 fun a w ha hw => rgC ⟨P, ops, Q, S0, w0, es, hd⟩ hm hn hok hw (k a ha)
theorem BK {x y : Code} (k : fJ ds P n S0 w0 x (Exit.then (y.wp P Q) Q) ls es) : fJ ds P n S0 w0 (.seq x y) Q ls es := fun a w ha hw => wp_seq (k a w ha hw)
theorem Bm (k : pb ds n S0 w0 Q .normal ls es) : fJ ds P n S0 w0 .skip Q ls es := fun a w ha hw => wp_skip (k a w ha hw)
theorem retW (k : pb ds n S0 w0 Q .ret ls es) : fJ ds P n S0 w0 .ret Q ls es := fun a w ha hw => wp_ret (k a w ha hw)
theorem exitW {id : Nat} (k : pb ds n S0 w0 Q (.exit id) ls es) : fJ ds P n S0 w0 (.exit id) Q ls es := fun a w ha hw => wp_exit (k a w ha hw)
theorem BJ {id : Nat} {c : Code} (k : fJ ds P n S0 w0 c (Exit.inBlock id Q) ls es) : fJ ds P n S0 w0 (.block id c) Q ls es := fun a w ha hw => wp_block (k a w ha hw)
theorem xh {y : Code} (k : fJ ds P n S0 w0 y Q ls es) : pb ds n S0 w0 (Exit.then (y.wp P Q) Qx) .normal ls es := k
theorem Bn {K : Act -> World -> Prop} {id : Nat} (k : pb ds n S0 w0 Q (.exit id) ls es) : pb ds n S0 w0 (Exit.then K Q) (.exit id) ls es := k
theorem thenR {K : Act -> World -> Prop} (k : pb ds n S0 w0 Q .ret ls es) : pb ds n S0 w0 (Exit.then K Q) .ret ls es := k
theorem inbN {id : Nat} (k : pb ds n S0 w0 Q .normal ls es) : pb ds n S0 w0 (Exit.inBlock id Q) .normal ls es := k
theorem inbR {id : Nat} (k : pb ds n S0 w0 Q .ret ls es) : pb ds n S0 w0 (Exit.inBlock id Q) .ret ls es := k
theorem inbE {id : Nat} (k : pb ds n S0 w0 Q .normal ls es) : pb ds n S0 w0 (Exit.inBlock id Q) (.exit id) ls es := fun a w ha hw => by
 show if id = id then _ else _;rw [if_pos rfl]; exact k a w ha hw
theorem kR {Z R : Prop} (k : R) (h : R -> Z := by
 intro k;repeat (first | refine BK ?_ | refine Bm ?_ | refine xh ?_ | refine BJ ?_ | refine exitW ?_ | refine retW ?_ | refine Bn ?_ | refine thenR ?_ | refine inbN ?_ | refine inbR ?_ | refine inbE ?_ | refine inbX (by decide) ?_)
 exact k) : Z := h k
theorem lF {b : Bool} {c : Operand} {x y : Code} (h1 : b = true -> fJ ds P n S0 w0 x Q ls es) (h2 : b = false -> fJ ds P n S0 w0 y Q ls es) (hc : eG ls c = true := by kernel_rfl) (hb : dJ ls c = .bool b := by (simp only [cJ, Nat.reduceEqDiff, ↓reduceIte]) <;> rfl) : fJ ds P n S0 w0 (.cond c x y) Q ls es :=
 fun a w ha hw => wp_cond_split (t := b) ((ha.ev hc).trans hb) (fun h => h1 h a w ha hw) (fun h => h2 h a w ha hw)
theorem mR {c : Operand} {x y : Code} (k : fJ ds P n S0 w0 x Q ls es) (hc : eG ls c = true := by kernel_rfl) (hb : dJ ls c = .bool true := by (simp only [cJ, Nat.reduceEqDiff, ↓reduceIte]) <;> first | rfl | simp [*]) : fJ ds P n S0 w0 (.cond c x y) Q ls es :=
 lF (b := true) (fun _ => k) (fun h => by cases h) hc hb
theorem gM {c : Operand} {x y : Code} (k : fJ ds P n S0 w0 y Q ls es) (hc : eG ls c = true := by kernel_rfl) (hb : dJ ls c = .bool false := by (simp only [cJ, Nat.reduceEqDiff, ↓reduceIte]) <;> first | rfl | simp [*]) : fJ ds P n S0 w0 (.cond c x y) Q ls es :=
 lF (b := false) (fun h => by cases h) (fun _ => k) hc hb
theorem di {X : Type} {c : Code} (I : X -> Prop) (m : X -> Nat) (lx : X -> List (Nat × Value)) (ex : X -> List En) (x0 : X) (h0 : I x0) 
 (round : ∀ x, I x -> fJ ds P n S0 w0 c (Exit.then (fun a w => ∃ y, (I y /\ m y < m x) /\ ku ds n (lx y) a /\ Fr S0 w0 w (ex y)) Q) (lx x) (ex x)) (hs : ∀ a, ku ds n ls a -> ku ds n (lx x0) a := by intro a h; refine h.sub ?_; simp [eG, cJ]) (he : ∀ w, Fr S0 w0 w es -> Fr S0 w0 w (ex x0) := by intro w h; first | exact h | exact h.pick (by repeat (first | exact Pk.n | refine Pk.c (by repeat (first | exact Rm.z | apply Rm.s)) ?_))) : fJ ds P n S0 w0 (.loop c) Q ls es := fun a w ha hw => by
 obtain ⟨μ, hμ⟩ := wS (α := Act × World) (fun k p => ∃ x, I x /\ m x = k /\ ku ds n (lx x) p.1 /\ Fr S0 w0 p.2 (ex x));refine wp_loop (fun a w => ∃ x, I x /\ ku ds n (lx x) a /\ Fr S0 w0 w (ex x)) (fun a w => μ (a, w)) ⟨x0, h0, hs a ha, he w hw⟩ ?_;rintro a w ⟨x, hx, h1, h2⟩;obtain ⟨⟨x', hx', hm, h1', h2'⟩, hle⟩ := hμ (a, w) (m x) ⟨x, hx, rfl, h1, h2⟩;refine Code.wp_mono ?_ (round x' hx' a w h1' h2');intro e a2 w2 hq;cases e with
 | normal =>
  obtain ⟨y, ⟨hy, hlt⟩, h3, h4⟩ := hq;refine ⟨⟨y, hy, h3, h4⟩, Nat.lt_of_le_of_lt (hμ (a2, w2) (m y) ⟨y, hy, rfl, h3, h4⟩).2 ?_⟩;show m y < μ (a, w);rw [<- hm]; exact hlt
 | _ => exact hq
theorem cI {X : Type} {I : X -> Prop} {k : Nat} {m : X -> Nat} {lx : X -> List (Nat × Value)} {ex : X -> List En} (y : X) (h : I y /\ m y < k) (hs : ∀ a, ku ds n ls a -> ku ds n (lx y) a := by intro a h; refine h.sub ?_; simp [eG, cJ]) (he : ∀ w, Fr S0 w0 w es -> Fr S0 w0 w (ex y) := by intro w h; first | exact h | exact h.pick (by repeat (first | exact Pk.n | refine Pk.c (by repeat (first | exact Rm.z | apply Rm.s)) ?_))) : pb ds n S0 w0 (Exit.then (fun a w => ∃ y, (I y /\ m y < k) /\ ku ds n (lx y) a /\ Fr S0 w0 w (ex y)) Q) .normal ls es :=
 fun a w ha hw => ⟨y, h, hs a ha, he w hw⟩
theorem xt {X : Type} {x y : Code} (I : X -> Prop) (lx : X -> List (Nat × Value)) (ex : X -> List En) (h1 : fJ ds P n S0 w0 x (Exit.then (fun a w => ∃ z, I z /\ ku ds n (lx z) a /\ Fr S0 w0 w (ex z)) Q) ls es) (h2 : ∀ z, I z -> fJ ds P n S0 w0 y Q (lx z) (ex z)) : fJ ds P n S0 w0 x (Exit.then (y.wp P Q) Q) ls es := fun a w ha hw => by
 refine Code.wp_mono ?_ (h1 a w ha hw);intro e a2 w2 hq;cases e with
 | normal =>
  obtain ⟨z, hz, h3, h4⟩ := hq;exact h2 z hz a2 w2 h3 h4
 | _ => exact hq
theorem oc {X : Type} {I : X -> Prop} {lx : X -> List (Nat × Value)} {ex : X -> List En} (z : X) (h : I z) (hs : ∀ a, ku ds n ls a -> ku ds n (lx z) a := by intro a h; refine h.sub ?_; simp [eG, cJ]) (he : ∀ w, Fr S0 w0 w es -> Fr S0 w0 w (ex z) := by intro w h; first | exact h | exact h.pick (by repeat (first | exact Pk.n | refine Pk.c (by repeat (first | exact Rm.z | apply Rm.s)) ?_))) : pb ds n S0 w0 (Exit.then (fun a w => ∃ z, I z /\ ku ds n (lx z) a /\ Fr S0 w0 w (ex z)) Q) .normal ls es :=
 fun a w ha hw => ⟨z, h, hs a ha, he w hw⟩
def ti : Nat -> List Value -> List (Nat × Value)
 | _, [] => []
 | k, v :: l => (k, v) :: ti (k + 1) l
theorem o4 : ∀ (vs : List Value) (k : Nat) (p : Nat × Value), p ∈ ti k vs -> k <= p.1 /\ vs[p.1 - k]? = some p.2 /\ dJ (ti k vs) (.tmp p.1) = p.2
 | [], _, _, h => by cases h
 | v :: vs, k, p, h => by
  unfold ti at h |-;rcases List.mem_cons.1 h with rfl | h
  . exact ⟨Nat.le_refl _, by simp, by rw [cJ.2.2.2, if_pos rfl]⟩
  . obtain ⟨h1, h2, h3⟩ := o4 vs (k + 1) p h;have hne : p.1 ≠ k := by omega
    refine ⟨by omega, ?_, by rw [cJ.2.2.2, if_neg hne]; exact h3⟩;rw [show p.1 - k = (p.1 - (k + 1)) + 1 by omega];simpa using h2
theorem bJ {f : FuncId} {fn : Func} {c : Code} {vs : List Value} {w : World} {R : Ending -> World -> Prop} (hf : P.funcs[f]? = some fn) (H : Fr S0 w w es) (k : CW P fn.ntmps S0 w c (bodyPost P fn R) ls es) (hb : fn.body = some c := by rfl) (hl : ti 0 vs = ls := by (try simp only [ti, Nat.reduceAdd, av]); rfl) (hn : Nat.ble vs.length fn.ntmps = true := by kernel_rfl) : Calls P f vs.toArray w R := by
 have hn := Nat.le_of_ble_eq_true hn;subst hl;refine calls_of_wp hf hb (k _ w ⟨rfl, by simp; omega, fun p hp => ?_⟩ H);obtain ⟨_, h1, h2⟩ := o4 vs 0 p hp;rw [h2];have hlt := (List.getElem?_eq_some_iff.1 h1).1;rw [Nat.sub_zero] at h1 hlt;simp only [Array.getElem?_append, List.size_toArray, hlt, if_true, List.getElem?_toArray];exact h1
end
theorem Fr.below {w0 w : World} {es : List En} (h : Fr (fun _ => False) w0 w es) : Below w0.heap.size w0 w := h.bs.ot (fun _ h => h.elim) (Nat.le_refl _)
theorem Fr.nil (S0 : Nat -> Prop) (w : World) : Fr S0 w w [] := ⟨aO.refl _ _, fun _ h => (List.not_mem_nil h).elim, List.Pairwise.nil, fun _ h => (List.not_mem_nil h).elim⟩
theorem Fr.i {S0 : Nat -> Prop} {w0 w : World} {es : List En} (h : Fr S0 w0 w es) {L : Nat} {v : Value} {x : Int} (hx : a8 w L v x) : Fr S0 w0 w (.at L v x :: es) := h.pure hx (fun _ h => h)
def jH (P : Program) (ls : List (Nat × Value)) (w : World) (r : ResultVar) (v : Value) : Prop := match r with
 | .tmp t => eG ls (.tmp t) = true /\ dJ ls (.tmp t) = v
 | .cell t ty => eG ls (.tmp t) = true /\ ∃ ad, dJ ls (.tmp t) = .pointer (some ad) /\ (loadVar ty ad).run P w = .ok v w
section
variable {P : Program} {S0 : Nat -> Prop} {w0 : World} {n : Nat} {ls : List (Nat × Value)} {es : List En} {fn : Func} {R : Ending -> World -> Prop}
theorem jH.run {a : Act} {w : World} {r : ResultVar} {v : Value} (h : Sl n ls a) (hr : jH P ls w r v) : (∃ t, r = .tmp t /\ a.tmps[t]? = some v) \/ ∃ t ty ad, r = .cell t ty /\ a.tmps[t]? = some (.pointer (some ad)) /\ (loadVar ty ad).run P w = .ok v w := by
 cases r with
 | tmp t => exact .inl ⟨t, rfl, (h.tmp hr.1).trans (by rw [hr.2])⟩
 | cell t ty =>
  obtain ⟨h1, ad, h2, h3⟩ := hr;exact .inr ⟨t, ty, ad, rfl, (h.tmp h1).trans (by rw [h2]), h3⟩
theorem cd {r : ResultVar} (k : ∀ w, Fr S0 w0 w es -> ∃ v, jH P ls w r v /\ R (.returned v) w) (h : fn.results = #[r] := by rfl) : QW n S0 w0 (bodyPost P fn R) .ret ls es := fun a w ha hw => by
 obtain ⟨v, h1, hR⟩ := k w hw;refine bodyPost_ret (v := v) ?_ ha.df hR;rcases h1.run ha with ⟨t, rfl, e⟩ | ⟨t, ty, ad, rfl, e, e'⟩ <;> simp [results, h, asAddr, *]
theorem fh {r r' : ResultVar} (k : ∀ w, Fr S0 w0 w es -> ∃ v v', jH P ls w r v /\ jH P ls w r' v' /\ R (.returned (.tuple #[v, v'])) w) (h : fn.results = #[r, r'] := by rfl) : QW n S0 w0 (bodyPost P fn R) .ret ls es := fun a w ha hw => by
 obtain ⟨v, v', h1, h2, hR⟩ := k w hw;refine bodyPost_ret (v := .tuple #[v, v']) ?_ ha.df hR;rcases h1.run ha with ⟨t, rfl, e⟩ | ⟨t, ty, ad, rfl, e, e'⟩ <;> rcases h2.run ha with ⟨t2, rfl, f⟩ | ⟨t2, ty2, ad2, rfl, f, f'⟩ <;> simp [results, h, asAddr, *]
theorem oK {r r' r2 : ResultVar} (k : ∀ w, Fr S0 w0 w es -> ∃ v v' v2, jH P ls w r v /\ jH P ls w r' v' /\ jH P ls w r2 v2 /\ R (.returned (.tuple #[v, v', v2])) w) (h : fn.results = #[r, r', r2] := by rfl) : QW n S0 w0 (bodyPost P fn R) .ret ls es := fun a w ha hw => by
 obtain ⟨v, v', v2, h1, h2, h3, hR⟩ := k w hw;refine bodyPost_ret (v := .tuple #[v, v', v2]) ?_ ha.df hR;rcases h1.run ha with ⟨t, rfl, e⟩ | ⟨t, ty, ad, rfl, e, e'⟩ <;> rcases h2.run ha with ⟨t2, rfl, f⟩ | ⟨t2, ty2, ad2, rfl, f, f'⟩ <;> rcases h3.run ha with ⟨t3, rfl, g⟩ | ⟨t3, ty3, ad3, rfl, g, g'⟩ <;> simp [results, h, asAddr, *]
end
theorem ka {ls : List (Nat × Value)} {w : World} {t b : Nat} {x y : Value} (h : a6 w b 40 [x, y]) (h1 : eG ls (.tmp t) = true := by kernel_rfl) (h2 : dJ ls (.tmp t) = .pointer (some ⟨b, 0, none⟩) := by (simp only [cJ, Nat.reduceEqDiff, ↓reduceIte]) <;> rfl) : jH Tryz.prog ls w (.cell t 40) (.agg #[x, y]) :=
 ⟨h1, _, h2, run_loadVar_row w b 40 40 #[x, y] (0, 0) _ h Tryz.underlying40 rfl (by kernel_rfl)⟩
theorem cH {P : Program} {ls : List (Nat × Value)} {w : World} {t : Nat} {v : Value} (h1 : eG ls (.tmp t) = true := by kernel_rfl) (h2 : dJ ls (.tmp t) = v := by (simp only [cJ, Nat.reduceEqDiff, ↓reduceIte]) <;> rfl) : jH P ls w (.tmp t) v := ⟨h1, h2⟩
section
variable {P : Program} {ops : Array Oper} {Q : Exit -> Act -> World -> Prop} {ds : List Deferred} {S0 : Nat -> Prop} {w0 : World} {E0 : List En} {hd : List (List Nat)} {n j s : Nat} {l : List Nat} {G E : List En} {ls : List (Nat × Value)} {op : Op} {ty : TypeId} {pos : String} {af : Array Edge} {v : Value} {f : FuncId} {args : Array Value}
theorem Bx {x : Int} {z : Value} (c : ∀ w, Fr S0 w0 w (G ++ E) -> Calls P f args w fun e w' => (∃ v, e = .returned (.tuple #[v, z]) /\ ae w' w.heap.size v x) /\ Below w.heap.size w w')
 (k : ∀ p : P4, dZ ds ⟨P, ops, Q, S0, w0, E0, hd⟩ n l (.own w0.heap.size (av p) x :: G) E ((s, .tuple #[.agg #[.bool p.1, .slice p.2.1 p.2.2.1 p.2.2.2], z]) :: ls))
 (ho : ops[j]? = some ⟨some s, op, ty, pos, af, none⟩ := by rfl) (hk : (!bY op && !dx op && et ls op && Nat.blt s n) = true := by kernel_rfl)
 (hr : ∀ w, (execOp (dJ ls) ⟨some s, op, ty, pos, af, none⟩).run P w = .ok (.enter f args) w := by intro w; (try simp only [av]); go_simp <;> with_reducible rfl)
 (hst : fV ops hd j [] = true := by kernel_rfl) : dZ ds ⟨P, ops, Q, S0, w0, E0, hd⟩ n (j :: l) G E ls := by
 refine cG (mk := fun p => .tuple #[av p, z]) (ens := fun p => [.own w0.heap.size (av p) x]) (fun w hw => (c w hw).mono ?_) k ho hk hr ⟨p0⟩ hst;rintro e w' ⟨⟨v, rfl, hv⟩, hb⟩;obtain ⟨b, ao, l', k', rfl⟩ := ae.parts hv;exact ⟨(b, ao, l', k'), rfl, hb, fun e he => by
  rcases List.mem_singleton.1 he with rfl;exact ⟨ae.mono hv hw.size, fun _ h => h.elim⟩, List.pairwise_singleton ..⟩
theorem cN2 {x y : Int} {z : Value} (c : ∀ w, Fr S0 w0 w (G ++ E) -> Calls P f args w fun e w' => (∃ v v', e = .returned (.tuple #[v, v', z]) /\ ae w' w.heap.size v x /\ ae w' w.heap.size v' y) /\ Below w.heap.size w w')
 (k : ∀ p q : P4, dZ ds ⟨P, ops, Q, S0, w0, E0, hd⟩ n l (.own w0.heap.size (av p) x :: .own w0.heap.size (av q) y :: G) E ((s, .tuple #[.agg #[.bool p.1, .slice p.2.1 p.2.2.1 p.2.2.2], .agg #[.bool q.1, .slice q.2.1 q.2.2.1 q.2.2.2], z]) :: ls))
 (ho : ops[j]? = some ⟨some s, op, ty, pos, af, none⟩ := by rfl) (hk : (!bY op && !dx op && et ls op && Nat.blt s n) = true := by kernel_rfl)
 (hr : ∀ w, (execOp (dJ ls) ⟨some s, op, ty, pos, af, none⟩).run P w = .ok (.enter f args) w := by intro w; (try simp only [av]); go_simp <;> with_reducible rfl)
 (hst : fV ops hd j [] = true := by kernel_rfl) : dZ ds ⟨P, ops, Q, S0, w0, E0, hd⟩ n (j :: l) G E ls := by
 refine cG (α := P4 × P4) (mk := fun p => .tuple #[av p.1, av p.2, z]) (ens := fun p => [.own w0.heap.size (av p.1) x, .own w0.heap.size (av p.2) y]) (fun w hw => (c w hw).mono ?_) (fun p => k p.1 p.2) ho hk hr ⟨(p0, p0)⟩ hst;rintro e w' ⟨⟨v, v', rfl, hv, hv'⟩, hb⟩;obtain ⟨b, ao, l', k', rfl⟩ := ae.parts hv;obtain ⟨b2, ao2, l2, k2, rfl⟩ := ae.parts hv';exact ⟨((b, ao, l', k'), (b2, ao2, l2, k2)), rfl, hb, fun e he => by
  rcases List.mem_cons.1 he with rfl | he
  . exact ⟨ae.mono hv hw.size, fun _ h => h.elim⟩
  . rcases List.mem_singleton.1 he with rfl;exact ⟨ae.mono hv' hw.size, fun _ h => h.elim⟩, List.pairwise_cons.2 ⟨fun e he => by
    rcases List.mem_singleton.1 he with rfl;exact ⟨(fun h => nomatch h), (fun h => nomatch h)⟩, List.pairwise_singleton ..⟩⟩
end
theorem RW.more {C : RC} : ∀ (l : List Nat) {G G2 E : List En} {a : Act}, (∀ X w, (∀ e ∈ X, e.wl = false) -> Fr C.S0 C.w0 w (X ++ (G ++ E)) -> Fr C.S0 C.w0 w (X ++ (G2 ++ E))) -> RW C l G2 E a -> RW C l G E a
 | [], G, G2, E, a, H, h => fun w hw => h w (H [] w (fun _ h => (List.not_mem_nil h).elim) hw)
 | j :: l, G, G2, E, a, H, h => by
  obtain ⟨o, ho, h⟩ := h;refine ⟨o, ho, ?_⟩;rcases h with ⟨hk, v, hg, hr⟩ | ⟨hk, hk2, mk, t, cs, hn, hr⟩ | ⟨hk, hk2, α, mk, G1, E1, K, hne, hc, hK, hE, hr⟩
  . exact .inl ⟨hk, v, hg, RW.more l H hr⟩
  . exact .inr (.inl ⟨hk, hk2, mk, t, cs, hn, fun g => RW.more l (G2 := .row g t cs :: G2) (fun X w hX hw => (H (.row g t cs :: X) w (fun e he => (List.mem_cons.1 he).elim (fun q => q ▸ rfl) (hX e)) (hw.perm List.perm_middle)).perm (List.perm_middle (l₁ := X) (l₂ := G2 ++ E)).symm) (hr g)⟩)
  . exact .inr (.inr ⟨hk, hk2, α, mk, G1, E1, K, hne, fun X w hX hw => hc X w hX (H X w hX hw), hK, hE, hr⟩)
section
variable {P : Program} {ops : Array Oper} {Q : Exit -> Act -> World -> Prop} {ds : List Deferred} {S0 : Nat -> Prop} {w0 : World} {E0 : List En} {hd : List (List Nat)} {n j s sg g : Nat} {l : List Nat} {G E : List En} {ls : List (Nat × Value)} {op : Op} {ty : TypeId} {pos : String} {af : Array Edge} {v : Value} {f : FuncId} {args : Array Value} {want : Bool}
theorem oo {e : En} (he : ∀ w, Fr S0 w0 w (G ++ E) -> e.F w) (k : dZ ds ⟨P, ops, Q, S0, w0, E0, hd⟩ n l (e :: G) E ls) (hS : ∀ b, ¬ e.S b := by intro b h; exact h) : dZ ds ⟨P, ops, Q, S0, w0, E0, hd⟩ n l G E ls := fun a ha =>
 RW.more l (fun X w hX hw => (hw.pure (he w (hw.sub (List.sublist_append_right ..))) hS).perm (List.perm_middle (l₁ := X) (l₂ := G ++ E)).symm) (k a ha)
theorem cNo {x : Int} (c : ∀ w, Fr S0 w0 w (G ++ E) -> Calls P f args w fun e w' => (∃ v, e = .returned v /\ ae w' w0.heap.size v x) /\ Below w.heap.size w w')
 (k : ∀ p : P4, dZ ds ⟨P, ops, Q, S0, w0, E0, hd⟩ n l (.own w0.heap.size (av p) x :: G) E ((s, .agg #[.bool p.1, .slice p.2.1 p.2.2.1 p.2.2.2]) :: ls))
 (ho : ops[j]? = some ⟨some s, op, ty, pos, af, none⟩ := by rfl) (hk : (!bY op && !dx op && et ls op && Nat.blt s n) = true := by kernel_rfl)
 (hr : ∀ w, (execOp (dJ ls) ⟨some s, op, ty, pos, af, none⟩).run P w = .ok (.enter f args) w := by intro w; (try simp only [av]); go_simp <;> with_reducible rfl)
 (hst : fV ops hd j [] = true := by kernel_rfl) : dZ ds ⟨P, ops, Q, S0, w0, E0, hd⟩ n (j :: l) G E ls := by
 refine cG (mk := av) (ens := fun p => [.own w0.heap.size (av p) x]) (fun w hw => (c w hw).mono ?_) k ho hk hr ⟨p0⟩ hst;rintro e w' ⟨⟨v, rfl, hv⟩, hb⟩;obtain ⟨b, ao, l', k', rfl⟩ := ae.parts hv;exact ⟨(b, ao, l', k'), rfl, hb, fun e he => by
  rcases List.mem_singleton.1 he with rfl;exact ⟨hv, fun _ h => h.elim⟩, List.pairwise_singleton ..⟩
theorem iK {a : Act} (ha : ku ds n ls a) (hg : (ops[g]?).bind (·.dst) = some sg) (hi : eG ls (.tmp sg) = true) {b : Bool} (hb : dJ ls (.tmp sg) = .bool b) (d : Option Tmp) : Region.wanted ⟨d, op, ty, pos, af, some (g, want)⟩ (yielded ops a.tmps) = (b == want) := by
 unfold Region.wanted yielded;simp [hg, ha.tmp hi, hb]
theorem dG (k : dZ ds ⟨P, ops, Q, S0, w0, E0, []⟩ n l G E ((s, v) :: ls))
 (ho : ops[j]? = some ⟨some s, op, ty, pos, af, some (g, want)⟩ := by rfl) (hk : (bY op && et ls op && Nat.blt s n) = true := by kernel_rfl)
 (hg : (ops[g]?).bind (·.dst) = some sg := by rfl) (hi : eG ls (.tmp sg) = true := by kernel_rfl) (hb : dJ ls (.tmp sg) = .bool want := by (simp only [cJ, Nat.reduceEqDiff, ↓reduceIte]) <;> first | rfl | simp [*])
 (hr : ∀ w, (qK op = true -> Fr S0 w0 w E0) -> (execOp (dJ ls) ⟨some s, op, ty, pos, af, some (g, want)⟩).run P w = .ok (.value v) w := by intro w H; (first | (have c := (H rfl).c; try simp only [uc, cl, List.cons_append, List.nil_append] at c) | skip); clear H; go_simp <;> with_reducible rfl) : dZ ds ⟨P, ops, Q, S0, w0, E0, []⟩ n (j :: l) G E ls := fun a ha => by
 simp only [Bool.and_eq_true] at hk;refine ⟨_, ho, .inl ⟨hk.1.1, v, fun w hw => .inl ⟨by rw [iK ha hg hi hb]; simp, .inl ?_⟩, k _ (ha.put (Nat.le_of_ble_eq_true hk.2) v)⟩⟩;rw [ha.exec hk.1.2];exact hr w fun hl => by simpa [ml] using hw hl
theorem uG (k : dZ ds ⟨P, ops, Q, S0, w0, E0, hd⟩ n l G E ((s, undef) :: ls))
 (ho : ops[j]? = some ⟨some s, op, ty, pos, af, some (g, want)⟩ := by rfl) (hk : (bY op && Nat.blt s n) = true := by kernel_rfl)
 (hg : (ops[g]?).bind (·.dst) = some sg := by rfl) (hi : eG ls (.tmp sg) = true := by kernel_rfl) (hb : dJ ls (.tmp sg) = .bool (!want) := by (simp only [cJ, Nat.reduceEqDiff, ↓reduceIte]) <;> first | rfl | simp [*]) : dZ ds ⟨P, ops, Q, S0, w0, E0, hd⟩ n (j :: l) G E ls := fun a ha => by
 simp only [Bool.and_eq_true] at hk;exact ⟨_, ho, .inl ⟨hk.1, undef, fun w hw => .inr ⟨by rw [iK ha hg hi hb]; simp, rfl⟩, k _ (ha.put (Nat.le_of_ble_eq_true hk.2) undef)⟩⟩
end
theorem aI {Z R : Prop} (k : R) (h : R -> Z := by
 intro k;(iterate 3 refine dW ?_);exact k) : Z := h k
theorem az {Z R : Prop} (k : R) (h : R -> Z := by
 intro k;refine dW ?_;refine eW ?_;refine kR ?_;exact k) : Z := h k
theorem ak {Z R : Prop} (k : R) (h : R -> Z := by
 intro k;refine kR ?_;refine rW [] ?_;exact k) : Z := h k
theorem gY {Z R : Prop} (k : R) (h : R -> Z := by
 intro k;refine dB false ?_;refine eW ?_;refine kR ?_;refine gM ?_;exact k) : Z := h k
theorem ix {Z R : Prop} (k : R) (h : R -> Z := by
 intro k;refine dB true ?_;refine eW ?_;refine kR ?_;refine mR ?_;exact k) : Z := h k
theorem c9 {Z R : Prop} (k : R) (h : R -> Z := by
 intro k;refine rW [] ?_;refine dW ?_;exact k) : Z := h k
theorem Be {Z R : Prop} (k : R) (h : R -> Z := by
 intro k;(iterate 5 refine uG ?_);exact k) : Z := h k
theorem mB {Z R : Prop} (k : R) (h : R -> Z := by
 intro k;(iterate 3 refine dG ?_);exact k) : Z := h k
theorem dr {Z R : Prop} (k : R) (h : R -> Z := by
 intro k;refine dW ?_;refine dW ?_;exact k) : Z := h k
theorem fg {Z R : Prop} (k : R) (h : R -> Z := by
 intro k;refine eW ?_;refine kR ?_;exact k) : Z := h k
theorem iu {Z R : Prop} (k : R) (h : R -> Z := by
 intro k;refine dB true ?_;refine dW ?_;exact k) : Z := h k
theorem zV {a b : Bool} {m n : Nat} : zi (a != b) (m / n) = (zi a m).tdiv (zi b n) := by
 cases a <;> cases b <;> simp [zi, Int.ofNat_tdiv]
theorem Au {a b : Bool} {m n : Nat} : zi a (m % n) = (zi a m).tmod (zi b n) := by
 have h : ((m % n : Nat) : Int) = (m : Int).tmod (n : Int) := rfl;cases a <;> cases b <;> simp only [zi, h, Int.neg_tmod, Int.tmod_neg, if_true, Bool.false_eq_true, if_false]
theorem Bd {B m cap : Nat} {ao : Option Addr} (n : Bool) {w : World} (h : ct w B ao (aa m) cap (ew m)) : Calls Tryz.prog 34 #[.bool n, .slice ao (aa m) cap] w fun e w' => (∃ v, e = .returned v /\ ae w' B v (zi n m)) /\ Below w.heap.size w w' :=
 (oP n _ _ _ w).mono fun e w' ⟨he, hb⟩ => ⟨⟨_, he, ae.mk n (h.below hb)⟩, hb⟩
theorem nN (v u : Value) (x y : Int) (w : World) (hA : a8 w 17592186044415 v x) (hB : a8 w 17592186044415 u y) (hy : y ≠ 0) :
 Calls Tryz.prog 84 #[v, u] w fun e w' => (∃ v' u', e = .returned (.tuple #[v', u', .int .i64 0]) /\ ae w' w.heap.size v' (x.tdiv y) /\ ae w' w.heap.size u' (x.tmod y)) /\ Below w.heap.size w w' := by
 obtain ⟨n, ao, len, cap, ws, rfl, hW, hl, hL1, hc, hx⟩ := hA;obtain ⟨n2, ao2, len2, cap2, ws2, rfl, hW2, hl2, hL2, hc2, hx2⟩ := hB;have h2 : a7 ws2 ≠ 0 := fun h => hy (by rw [hx2, h]; cases n2 <;> rfl);rw [hx, hx2, <- zV, <- Au (b := n2)];refine bJ (S0 := fun _ => False) Tryz.func84 (Fr.nil _ w) ?_;refine ak ?_;refine aW fun g2 => ?_;refine aW fun g3 => ?_;refine aW fun g4 => ?_;refine aW fun g5 => ?_;refine az ?_;refine rW [] ?_;refine aI ?_;refine dW ?_;refine cG (α := (Option Addr × Nat) × Option Addr × Nat) (mk := fun p => .tuple #[.slice p.1.1 (aa (a7 ws / a7 ws2)) p.1.2, .slice p.2.1 (aa (a7 ws % a7 ws2)) p.2.2, .int .i64 0]) (ens := fun p => [.ow w.heap.size p.1.1 (a7 ws / a7 ws2) p.1.2, .ow w.heap.size p.2.1 (a7 ws % a7 ws2) p.2.2])
  (fun w' H => (oe ao ao2 len len2 cap cap2 ws ws2 w' (hW.below H.below) (hW2.below H.below) hl hl2 (by omega) (by omega) h2).mono ?_) ?_
 . rintro e w3 ⟨⟨aq, cq, ar, cr, rfl, h1, h3⟩, hb⟩;exact ⟨⟨(aq, cq), (ar, cr)⟩, rfl, hb, fun e he => by
    rcases List.mem_cons.1 he with rfl | he
    . exact ⟨h1.mono H.size, fun _ h => h.elim⟩
    . rcases List.mem_singleton.1 he with rfl;exact ⟨h3.mono H.size, fun _ h => h.elim⟩, List.pairwise_pair.2 ⟨(fun h => nomatch h), (fun h => nomatch h)⟩⟩
 rintro ⟨⟨aq, cq⟩, ar, cr⟩;refine aI ?_;refine aI ?_;refine az ?_;refine c9 ?_;refine az ?_;refine gM ?_;refine ak ?_;refine aI ?_;refine aI ?_;refine cNo (fun w' H => Bd (!(n == n2)) H.m0) fun p1 => ?_;refine aI ?_;refine cNo (fun w' H => Bd n H.m2) fun p2 => ?_;refine sW ?_;refine sW ?_;refine az ?_;refine oK fun w' H => ?_;exact ⟨_, _, _, ka H.m5, ka H.m4, cH, ⟨_, _, rfl, H.m1, H.m0⟩, H.below⟩
theorem kP {n : Bool} {m : Nat} (h : zi n m ≠ 0) : n = decide (zi n m < 0) := by
 unfold zi at *; cases n <;> simp at * <;> omega
theorem kI {x y : Int} (hy : y ≠ 0) (h : x.tmod y = 0 \/ (decide (x.tmod y < 0)) = decide (y < 0)) : x.fdiv y = x.tdiv y /\ x.fmod y = x.tmod y := by
 have hx := Int.emod_nonneg x hy;have hl := Int.emod_lt x hy;rw [Int.fdiv_eq_ediv, Int.tdiv_eq_ediv, Int.fmod_eq_emod, Int.tmod_eq_emod];rw [Int.tmod_eq_emod] at h;by_cases hd : y ∣ x
 . simp [hd]
 . have h0 : x % y ≠ 0 := fun e => hd (Int.dvd_of_emod_eq_zero e);simp only [hd, or_false] at h |-;rcases Int.lt_or_gt_of_ne hy with hy' | hy'
   . have hs : y.sign = -1 := Int.sign_eq_neg_one_of_neg hy';by_cases h0x : 0 <= x
     . simp [h0x, hy', Int.not_le.2 hy'] at h |-; omega
     . simp [h0x, hy', Int.not_le.2 hy', hs] at h |-; omega
   . have hs : y.sign = 1 := Int.sign_eq_one_of_pos hy';by_cases h0x : 0 <= x
     . simp [h0x, Int.le_of_lt hy'] at h |-
     . simp [h0x, hs, Int.le_of_lt hy'] at h |-; omega
theorem mK {x y : Int} (hy : y ≠ 0) (h : x.tmod y ≠ 0) (h2 : ¬ (decide (x.tmod y < 0)) = decide (y < 0)) : x.fdiv y = x.tdiv y - 1 /\ x.fmod y = x.tmod y + y := by
 have hx := Int.emod_nonneg x hy;have hl := Int.emod_lt x hy;rw [Int.fdiv_eq_ediv, Int.tdiv_eq_ediv, Int.fmod_eq_emod, Int.tmod_eq_emod];rw [Int.tmod_eq_emod] at h h2;by_cases hd : y ∣ x
 . have : x % y = 0 := Int.emod_eq_zero_of_dvd hd;simp [hd, this] at h
 . have h0 : x % y ≠ 0 := fun e => hd (Int.dvd_of_emod_eq_zero e);simp only [hd, or_false] at h h2 |-;rcases Int.lt_or_gt_of_ne hy with hy' | hy'
   . have hs : y.sign = -1 := Int.sign_eq_neg_one_of_neg hy';by_cases h0x : 0 <= x
     . simp [h0x, hy', Int.not_le.2 hy'] at h h2 |-
     . simp [h0x, hy', Int.not_le.2 hy', hs] at h h2 |-; omega
   . have hs : y.sign = 1 := Int.sign_eq_one_of_pos hy';by_cases h0x : 0 <= x
     . simp [h0x, Int.le_of_lt hy'] at h h2 |-; omega
     . simp [h0x, hs, Int.le_of_lt hy'] at h h2 |-; omega
theorem xV : aa (1 : Int).natAbs <= 17592186044415 := Nat.le_trans (an (k := 1) (by decide)) (by omega)
def qW (p : P4) (x : Int) : Prop := p.1 = decide (x < 0) /\ p.2.2.1 = aa x.natAbs
theorem ae.xq {w : World} {B : Nat} {v : Value} {x : Int} (h : ae w B v x) : ∃ p : P4, v = av p /\ qW p x := by
 obtain ⟨ao, cap, rfl, _⟩ := h; exact ⟨(_, _, _, _), rfl, rfl, rfl⟩
theorem qW.ex (x : Int) : ∃ p : P4, qW p x := ⟨(_, none, _, 0), rfl, rfl⟩
section
variable {P : Program} {ops : Array Oper} {Q : Exit -> Act -> World -> Prop} {ds : List Deferred} {S0 : Nat -> Prop} {w0 : World} {E0 : List En} {hd : List (List Nat)} {n j s : Nat} {l : List Nat} {G E : List En} {ls : List (Nat × Value)} {op : Op} {ty : TypeId} {pos : String} {af : Array Edge} {f : FuncId} {args : Array Value}
theorem cN2h {x y : Int} {z : Value} (c : ∀ w, Fr S0 w0 w (G ++ E) -> Calls P f args w fun e w' => (∃ v v', e = .returned (.tuple #[v, v', z]) /\ ae w' w.heap.size v x /\ ae w' w.heap.size v' y) /\ Below w.heap.size w w')
 (k : ∀ p q : P4, qW p x -> qW q y -> dZ ds ⟨P, ops, Q, S0, w0, E0, hd⟩ n l (.own w0.heap.size (av p) x :: .own w0.heap.size (av q) y :: G) E ((s, .tuple #[.agg #[.bool p.1, .slice p.2.1 p.2.2.1 p.2.2.2], .agg #[.bool q.1, .slice q.2.1 q.2.2.1 q.2.2.2], z]) :: ls))
 (ho : ops[j]? = some ⟨some s, op, ty, pos, af, none⟩ := by rfl) (hk : (!bY op && !dx op && et ls op && Nat.blt s n) = true := by kernel_rfl)
 (hr : ∀ w, (execOp (dJ ls) ⟨some s, op, ty, pos, af, none⟩).run P w = .ok (.enter f args) w := by intro w; (try simp only [av]); go_simp <;> with_reducible rfl)
 (hst : fV ops hd j [] = true := by kernel_rfl) : dZ ds ⟨P, ops, Q, S0, w0, E0, hd⟩ n (j :: l) G E ls := by
 refine cG (α := {p : P4 × P4 // qW p.1 x /\ qW p.2 y}) (mk := fun p => .tuple #[av p.1.1, av p.1.2, z]) (ens := fun p => [.own w0.heap.size (av p.1.1) x, .own w0.heap.size (av p.1.2) y]) (fun w hw => (c w hw).mono ?_) (fun p => k p.1.1 p.1.2 p.2.1 p.2.2) ho hk hr (by obtain ⟨a, ha⟩ := qW.ex x; obtain ⟨b, hb⟩ := qW.ex y; exact ⟨⟨(a, b), ha, hb⟩⟩) hst;rintro e w' ⟨⟨v, v', rfl, hv, hv'⟩, hb⟩;obtain ⟨p, rfl, hp⟩ := hv.xq;obtain ⟨q, rfl, hq⟩ := hv'.xq;exact ⟨⟨(p, q), hp, hq⟩, rfl, hb, fun e he => by
  rcases List.mem_cons.1 he with rfl | he
  . exact ⟨ae.mono hv hw.size, fun _ h => h.elim⟩
  . rcases List.mem_singleton.1 he with rfl;exact ⟨ae.mono hv' hw.size, fun _ h => h.elim⟩, List.pairwise_pair.2 ⟨(fun h => nomatch h), (fun h => nomatch h)⟩⟩
end
theorem rj {w : World} {B : Nat} {v : Value} (h : ae w B v 1) : a8 w 17592186044415 v 1 := ae.int h xV
theorem tv (v u : Value) (x y : Int) (w : World) (hA : a8 w 17592186044415 v x) (hB : a8 w 17592186044415 u y) (hy : y ≠ 0) :
 Calls Tryz.prog 76 #[v, u] w fun e w' => (∃ v' u', e = .returned (.tuple #[v', u', .int .i64 0]) /\ ae w' w.heap.size v' (x.fdiv y) /\ ae w' w.heap.size u' (x.fmod y)) /\ Below w.heap.size w w' := by
 have hlx := hA.aa;obtain ⟨p, rfl⟩ := hA.parts;obtain ⟨q, rfl⟩ := hB.parts;have hq : q.1 = decide (y < 0) := by
  obtain ⟨n, ao, len, cap, ws, e, _, _, _, _, hx⟩ := hB;cases e;rw [hx]; exact kP (by rw [<- hx]; exact hy)
 have bt : aa (x.tdiv y).natAbs <= 17592186044415 := Nat.le_trans (aF (by rw [Int.natAbs_tdiv]; exact Nat.div_le_self ..)) hlx;have br : aa (x.tmod y).natAbs <= 17592186044415 := Nat.le_trans (aF (by rw [Int.natAbs_tmod]; exact Nat.mod_le ..)) hlx;refine bJ (S0 := fun _ => False) Tryz.func76 (((Fr.nil _ w).i hB).i hA) ?_;refine ak ?_;refine aW fun g2 => ?_;refine aW fun g3 => ?_;refine aW fun g4 => ?_;refine aW fun g5 => ?_;refine az ?_;refine c9 ?_;refine dW ?_;refine cN2h (fun w H => nN _ _ x y w H.m4 H.m5 hy) fun s r hs hr => ?_;refine aI ?_;refine dW ?_;refine aW fun g7 => ?_;refine aW fun g8 => ?_;refine sG ?_;refine sG ?_;refine dW ?_;refine eW ?_;refine xh (BK (xt (X := (P4 × P4) × Int × Int) (fun z => x.fdiv y = z.2.1 /\ x.fmod y = z.2.2) (fun _ => [(9, .int .i64 0), (7, .pointer (some ⟨g7, 0, none⟩)), (8, .pointer (some ⟨g8, 0, none⟩)), (4, .pointer (some ⟨g4, 0, none⟩)), (5, .pointer (some ⟨g5, 0, none⟩))]) (fun z => [.row g8 40 (cl z.1.2), .row g7 40 (cl z.1.1), .own w.heap.size (av z.1.1) z.2.1, .own w.heap.size (av z.1.2) z.2.2, .row g5 40 (cl p0), .row g4 40 (cl p0)]) ?_ fun z hz => ?_))
 . by_cases h0 : x.tmod y = 0
   . have e : r.2.2.1 = 0 := by rw [hr.2, h0]; exact bg
     refine ak ?_;refine aI ?_;refine mB ?_;refine dG ?_;refine dr ?_;refine Be ?_;refine az ?_;refine gM ?_;refine kR ?_;exact oc ((s, r), x.tdiv y, x.tmod y) (kI hy (.inl h0))
   . have e : 0 < r.2.2.1 := by
      rw [hr.2];exact Nat.pos_of_ne_zero fun e => h0 (by have := da.1 e; omega)
     refine ak ?_;refine aI ?_;refine mB ?_;refine dG ?_;refine dr ?_;refine mB ?_;refine dG ?_;refine dG ?_;refine az ?_;refine lF (fun h => ?_) (fun h => ?_)
     . have hf := mK hy h0 (by rw [<- hr.1]; simpa using h);refine ak ?_;refine dW ?_;refine cN (fun w H => iA 1 w (by omega) (by omega)) fun p1 => ?_;refine cN (fun w H => mg _ _ _ _ w (ae.int H.m3 bt) (rj H.m0)) fun p2 => ?_;refine sW ?_;refine eW ?_;refine ak ?_;refine dr ?_;refine cN (fun w H => o6 _ _ _ _ w (ae.int H.m5 br) H.m11) fun p3 => ?_;refine sW ?_;refine fg ?_;exact oc ((p2, p3), x.tdiv y - 1, x.tmod y + y) hf
     . refine kR ?_;exact oc ((s, r), x.tdiv y, x.tmod y) (kI hy (.inr (by rw [<- hr.1]; simpa using h)))
 . rw [hz.1, hz.2];refine kR ?_;refine rW [[], [5], [4, 5]] ?_;(iterate 3 refine dH ?_);refine sW ?_;refine sW ?_;refine dH ?_;refine fg ?_;refine oK fun w' H => ?_;exact ⟨_, _, _, ka H.m5, ka H.m4, cH, ⟨_, _, rfl, H.m2, H.m3⟩, H.below⟩
theorem tb {x y : Int} (hy : y ≠ 0) (h : ¬ x.tmod y < 0) : x / y = x.tdiv y /\ x % y = x.tmod y := by
 have hx := Int.emod_nonneg x hy;have hl := Int.emod_lt x hy;rw [Int.tdiv_eq_ediv, Int.tmod_eq_emod];rw [Int.tmod_eq_emod] at h;by_cases hd : y ∣ x
 . simp [hd]
 . by_cases h0x : 0 <= x
   . simp [h0x]
   . simp only [hd, h0x, or_self, if_false] at h;omega
theorem uF {x y : Int} (hy : y ≠ 0) (h : x.tmod y < 0) : (y < 0 -> x / y = x.tdiv y + 1 /\ x % y = x.tmod y - y) /\ (¬ y < 0 -> x / y = x.tdiv y - 1 /\ x % y = x.tmod y + y) := by
 have hx := Int.emod_nonneg x hy;rw [Int.tdiv_eq_ediv, Int.tmod_eq_emod];rw [Int.tmod_eq_emod] at h;by_cases hd : y ∣ x
 . simp [hd] at h; omega
 . by_cases h0x : 0 <= x
   . simp [h0x] at h; omega
   . simp only [hd, h0x, or_self, if_false];refine ⟨fun h0 => ?_, fun h0 => ?_⟩
     . rw [Int.sign_eq_neg_one_of_neg h0]; omega
     . rw [Int.sign_eq_one_of_pos (by omega)]; omega
theorem qg (v u : Value) (x y : Int) (w : World) (hA : a8 w 17592186044415 v x) (hB : a8 w 17592186044415 u y) (hy : y ≠ 0) :
 Calls Tryz.prog 59 #[v, u] w fun e w' => (∃ v' u', e = .returned (.tuple #[v', u', .int .i64 0]) /\ ae w' w.heap.size v' (x / y) /\ ae w' w.heap.size u' (x % y)) /\ Below w.heap.size w w' := by
 have hlx := hA.aa;obtain ⟨p, rfl⟩ := hA.parts;obtain ⟨q, rfl⟩ := hB.parts;have hq : q.1 = decide (y < 0) := by
  obtain ⟨n, ao, len, cap, ws, e, _, _, _, _, hx⟩ := hB;cases e;rw [hx]; exact kP (by rw [<- hx]; exact hy)
 have bt : aa (x.tdiv y).natAbs <= 17592186044415 := Nat.le_trans (aF (by rw [Int.natAbs_tdiv]; exact Nat.div_le_self ..)) hlx;have br : aa (x.tmod y).natAbs <= 17592186044415 := Nat.le_trans (aF (by rw [Int.natAbs_tmod]; exact Nat.mod_le ..)) hlx;refine bJ (S0 := fun _ => False) Tryz.func59 (((Fr.nil _ w).i hB).i hA) ?_;refine ak ?_;refine aW fun g2 => ?_;refine aW fun g3 => ?_;refine aW fun g4 => ?_;refine aW fun g5 => ?_;refine az ?_;refine c9 ?_;refine dW ?_;refine cN2h (fun w H => nN _ _ x y w H.m4 H.m5 hy) fun s r hs hr => ?_;refine aI ?_;refine dW ?_;refine aW fun g7 => ?_;refine aW fun g8 => ?_;refine sG ?_;refine sG ?_;refine dW ?_;refine eW ?_;have he := uF (x := x) hy;by_cases h0 : x.tmod y < 0
 . have e : r.1 = true := by rw [hr.1]; simpa using h0
   refine ak ?_;refine aI ?_;refine mB ?_;refine az ?_;refine gM ?_;refine ak ?_;refine dW ?_;refine az ?_;refine lF (fun h => ?_) (fun h => ?_)
   . have hf := (he h0).1 (by simpa [hq] using h);rw [hf.1, hf.2];refine kR ?_;refine rW [[], [], [], [5], [5]] ?_;refine dH ?_;refine cN (fun w H => iA 1 w (by omega) (by omega)) fun p1 => ?_;refine cN (fun w H => o6 _ _ _ _ w (ae.int H.m3 bt) (rj H.m0)) fun p2 => ?_;refine dH ?_;refine dH ?_;refine cN (fun w H => mg _ _ _ _ w (ae.int H.m5 br) H.m11) fun p3 => ?_;refine sW ?_;refine sW ?_;refine dH ?_;refine fg ?_;refine oK fun w' H => ?_;exact ⟨_, _, _, ka H.m8, ka H.m7, cH, ⟨_, _, rfl, H.m1, H.m0⟩, H.below⟩
   . have hf := (he h0).2 (by simpa [hq] using h);rw [hf.1, hf.2];refine kR ?_;refine rW [[], [], [], [5], [5]] ?_;refine dH ?_;refine cN (fun w H => iA 1 w (by omega) (by omega)) fun p1 => ?_;refine cN (fun w H => mg _ _ _ _ w (ae.int H.m3 bt) (rj H.m0)) fun p2 => ?_;refine dH ?_;refine dH ?_;refine cN (fun w H => o6 _ _ _ _ w (ae.int H.m5 br) H.m11) fun p3 => ?_;refine sW ?_;refine sW ?_;refine dH ?_;refine fg ?_;refine oK fun w' H => ?_;exact ⟨_, _, _, ka H.m8, ka H.m7, cH, ⟨_, _, rfl, H.m1, H.m0⟩, H.below⟩
 . obtain ⟨r1, r2⟩ := r;obtain rfl : r1 = false := hr.1.trans (by simpa using h0);have hf := tb hy h0;rw [hf.1, hf.2];refine ak ?_;refine aI ?_;refine mB ?_;refine az ?_;refine mR ?_;refine kR ?_;refine rW [[], [5], [4, 5]] ?_;(iterate 3 refine dH ?_);refine sW ?_;refine sW ?_;refine dH ?_;refine fg ?_;refine oK fun w' H => ?_;exact ⟨_, _, _, ka H.m5, ka H.m4, cH, ⟨_, _, rfl, H.m2, H.m3⟩, H.below⟩
theorem CT (v u : Value) (x y : Int) (w : World) (hA : a8 w 17592186044415 v x) (hB : a8 w 17592186044415 u y) (hy : y ≠ 0) :
 Calls Tryz.prog 139 #[v, u] w fun e w' => (∃ u', e = .returned (.tuple #[u', .int .i64 0]) /\ ae w' w.heap.size u' (x % y)) /\ Below w.heap.size w w' := by
 obtain ⟨p, rfl⟩ := hA.parts;obtain ⟨q, rfl⟩ := hB.parts;refine bJ (S0 := fun _ => False) Tryz.func139 (((Fr.nil _ w).i hB).i hA) ?_;refine ak ?_;refine aW fun g2 => ?_;refine aW fun g3 => ?_;refine aW fun g4 => ?_;refine az ?_;refine c9 ?_;refine dW ?_;refine cN2 (fun w H => qg _ _ x y w H.m3 H.m4 hy) fun s r => ?_;refine aI ?_;refine dW ?_;refine aW fun g6 => ?_;refine aW fun g7 => ?_;refine sG ?_;refine sG ?_;refine az ?_;refine c9 ?_;refine dW ?_;refine sW ?_;refine az ?_;refine fh fun w' H => ?_;exact ⟨_, _, ka H.m4, cH, ⟨_, rfl, H.m3⟩, H.below⟩
def fO (x y : Int) : Int := if x < y then -1 else if x = y then 0 else 1
theorem mG (x : Int) : aP x = -1 \/ aP x = 0 \/ aP x = 1 := by
 unfold aP; split
 . exact .inl rfl
 . split
   . exact .inr (.inl rfl)
   . exact .inr (.inr rfl)
theorem ug (a b : Nat) : gB a b = -1 \/ gB a b = 0 \/ gB a b = 1 := by
 unfold gB; split
 . exact .inl rfl
 . split
   . exact .inr (.inr rfl)
   . exact .inr (.inl rfl)
theorem zS {x y : Int} (h : aP x < aP y) : fO x y = -1 := by
 unfold aP at h; unfold fO; (repeat' split at h) <;> (repeat' split) <;> omega
theorem AJ {x y : Int} (h : ¬ aP x < aP y) (h2 : ¬ aP x = aP y) : fO x y = 1 := by
 unfold aP at h h2; unfold fO; (repeat' split at h) <;> (repeat' split at h2) <;> (repeat' split) <;> omega
theorem zv {x y : Int} (h : aP x = aP y) : fO x y = aP x * gB x.natAbs y.natAbs := by
 unfold aP at *; unfold fO gB; (repeat' split at h) <;> (repeat' split) <;> omega
theorem wrap_small {a : Int} (h1 : -9223372036854775808 <= a) (h2 : a <= 9223372036854775807) : IntKind.i64.wrap a = a := IntWalk.i64_in _ (by omega)
theorem gy (v u : Value) (x y : Int) (w : World) (hA : a8 w 17592186044415 v x) (hB : a8 w 17592186044415 u y) :
 Calls Tryz.prog 12 #[v, u] w fun e w' => e = .returned (.int .i64 (fO x y)) /\ Below w.heap.size w w' := by
 obtain ⟨n, ao, len, cap, ws, rfl, hW, hl, hL1, hc, hx⟩ := id hA;obtain ⟨n2, ao2, len2, cap2, ws2, rfl, hW2, hl2, hL2, hc2, hx2⟩ := id hB;have ex : x.natAbs = a7 ws := by rw [hx, fQ]
 have ey : y.natAbs = a7 ws2 := by rw [hx2, fQ]
 clear hx hx2;refine bJ (S0 := fun _ => False) Tryz.func12 (((Fr.nil _ w).i hB).i hA) ?_;refine ak ?_;refine aW fun g2 => ?_;refine aW fun g3 => ?_;refine az ?_;refine c9 ?_;refine cV (fun w H => cw _ x w H.m2) ?_;refine dW ?_;refine cV (fun w H => cw _ y w H.m3) ?_;refine dW ?_;refine az ?_;refine rW [] ?_;refine aI ?_;refine fg ?_;refine lF (fun h => ?_) (fun h => ?_)
 . refine ak ?_;refine aI ?_;refine fg ?_;refine lF (fun h2 => ?_) (fun h2 => ?_)
   . rw [zS (by simpa using h2)];refine ak ?_;refine az ?_;refine cd fun w' H => ?_;exact ⟨_, cH, rfl, H.below⟩
   . rw [AJ (by simpa using h2) (by simpa using h)];refine ak ?_;refine az ?_;refine cd fun w' H => ?_;exact ⟨_, cH, rfl, H.below⟩
 . have hz := zv (x := x) (y := y) (by simpa using h);have hw : IntKind.i64.wrap (aP x * gB (a7 ws) (a7 ws2)) = aP x * gB (a7 ws) (a7 ws2) := by
    refine wrap_small ?_ ?_ <;> rcases mG x with h1 | h1 | h1 <;> rcases ug (a7 ws) (a7 ws2) with h2 | h2 | h2 <;> rw [h1, h2] <;> decide
   rw [ex, ey] at hz;rw [hz];refine ak ?_;refine aI ?_;refine dr ?_;refine cV (fun w H => vY ao ao2 len cap len2 cap2 ws ws2 w (hW.below H.below) (hW2.below H.below) hl hl2 (by omega) (by omega)) ?_;refine dW ?_;refine az ?_;refine cd fun w' H => ?_;exact ⟨_, cH, rfl, H.below⟩
end Go.Proofs.YtbgecfleamckcaaGreat
namespace Go.Proofs.YtbgecfleamckcaaGreat
structure mY (A : Nat) (b : Int) (r0 r1 : Nat) (m0 m1 : Int) : Prop where
 c0 : b ∣ (r0 : Int) - m0 * A
 c1 : b ∣ (r1 : Int) - m1 * A
 g : Nat.gcd r0 r1 = Nat.gcd A b.natAbs
 s : (0 <= m0 /\ m1 <= 0) \/ (m0 <= 0 /\ 0 <= m1)
 d : r0 * m1.natAbs + r1 * m0.natAbs = b.natAbs
 k0 : m0.natAbs <= b.natAbs
 k1 : m1.natAbs <= b.natAbs
theorem mY.start (A : Nat) {b : Int} (hb : b ≠ 0) : mY A b A b.natAbs 1 0 := by
 refine ⟨by simp, ?_, rfl, .inl ⟨by omega, by omega⟩, by simp, by omega, by simp⟩;rw [Int.zero_mul, Int.sub_zero];exact Int.dvd_natAbs.2 (Int.dvd_refl b)
theorem oS {m0 m1 : Int} (q : Nat) (s : (0 <= m0 /\ m1 <= 0) \/ (m0 <= 0 /\ 0 <= m1)) : (m0 - (q : Int) * m1).natAbs = m0.natAbs + q * m1.natAbs := by
 rcases s with ⟨h0, h1⟩ | ⟨h0, h1⟩
 . obtain ⟨a, rfl⟩ := Int.eq_ofNat_of_zero_le h0;obtain ⟨c, hc⟩ := Int.eq_ofNat_of_zero_le (Int.neg_nonneg_of_nonpos h1);obtain rfl : m1 = -(c : Int) := by omega
   rw [Int.mul_neg, Int.sub_neg, <- Int.natCast_mul];simp only [Int.natAbs_neg, Int.natAbs_natCast];omega
 . obtain ⟨c, rfl⟩ := Int.eq_ofNat_of_zero_le h1;obtain ⟨a, ha⟩ := Int.eq_ofNat_of_zero_le (Int.neg_nonneg_of_nonpos h0);obtain rfl : m0 = -(a : Int) := by omega
   rw [<- Int.natCast_mul];simp only [Int.natAbs_neg, Int.natAbs_natCast];omega
theorem mY.step {A : Nat} {b : Int} {r0 r1 : Nat} {m0 m1 : Int} (h : mY A b r0 r1 m0 m1) (hr : r1 ≠ 0) : mY A b r1 (r0 % r1) m1 (m0 - ((r0 / r1 : Nat) : Int) * m1) := by
 have hd := Nat.div_add_mod r0 r1;have hn := oS (r0 / r1) h.s;have hD : r1 * (m0 - ((r0 / r1 : Nat) : Int) * m1).natAbs + (r0 % r1) * m1.natAbs = b.natAbs := by
  rw [hn, <- h.d];have : r0 * m1.natAbs = r1 * (r0 / r1) * m1.natAbs + r0 % r1 * m1.natAbs := by rw [<- Nat.add_mul, hd]
  rw [this, Nat.mul_add, Nat.mul_assoc];omega
 refine ⟨h.c1, ?_, ?_, ?_, hD, h.k1, ?_⟩
 . have e : ((r0 % r1 : Nat) : Int) = (r0 : Int) - (r1 : Int) * ((r0 / r1 : Nat) : Int) := by
    have : (r0 : Int) = ((r1 * (r0 / r1) + r0 % r1 : Nat) : Int) := by rw [hd]
    rw [this]; push_cast; omega
   rw [e];have := Int.dvd_sub h.c0 (Int.dvd_mul_of_dvd_left (c := ((r0 / r1 : Nat) : Int)) h.c1);have e2 : (r0 : Int) - (r1 : Int) * ((r0 / r1 : Nat) : Int) - (m0 - ((r0 / r1 : Nat) : Int) * m1) * A = (r0 : Int) - m0 * A - ((r1 : Int) - m1 * A) * ((r0 / r1 : Nat) : Int) := by
    generalize ((r0 / r1 : Nat) : Int) = q;rw [Int.sub_mul, Int.sub_mul, Int.mul_comm q m1, Int.mul_assoc m1 q, Int.mul_comm q, <- Int.mul_assoc];omega
   rw [e2]; exact this
 . rw [<- h.g, Nat.gcd_comm, Nat.gcd_comm r0 r1, Nat.gcd_rec r1 r0]
 . rcases h.s with ⟨h0, h1⟩ | ⟨h0, h1⟩
   . refine .inr ⟨h1, ?_⟩;have := Int.mul_nonpos_of_nonneg_of_nonpos (Int.natCast_nonneg (r0 / r1)) h1;omega
   . refine .inl ⟨h1, ?_⟩;have := Int.mul_nonneg (Int.natCast_nonneg (r0 / r1)) h1;omega
 . have : 1 * (m0 - ((r0 / r1 : Nat) : Int) * m1).natAbs <= r1 * (m0 - ((r0 / r1 : Nat) : Int) * m1).natAbs := Nat.mul_le_mul_right _ (by omega);omega
def fM (a b g x y : Int) : Prop :=
 if b = 0 then g = a.natAbs /\ x = a.sign /\ y = 0
 else g = Int.gcd a b /\ 0 <= x /\ x * g < b.natAbs /\ a * x + b * y = g
theorem mY.done {a b : Int} {r0 : Nat} {m0 m1 : Int} (hb : b ≠ 0) (h : mY a.natAbs b r0 0 m0 m1) : (r0 : Int) = Int.gcd a b /\ b ∣ (r0 : Int) - (if a < 0 then -m0 else m0) * a := by
 refine ⟨?_, ?_⟩
 . have := h.g; rw [Nat.gcd_zero_right] at this; rw [this]; rfl
 . have := h.c0;have e : (if a < 0 then -m0 else m0) * a = m0 * (a.natAbs : Int) := by
    split
    . have : (a.natAbs : Int) = -a := by omega
      rw [this, Int.neg_mul, Int.mul_neg]
    . have : (a.natAbs : Int) = a := by omega
      rw [this]
   rw [e]; exact this
theorem ss {a b g m : Int} (hb : b ≠ 0) (hg : g = Int.gcd a b) (hm : b ∣ g - m * a) : g ∣ b /\ b / g ≠ 0 /\ b ∣ g - a * (m % (b / g)) /\ fM a b g (m % (b / g)) ((g - a * (m % (b / g))) / b) := by
 have hgb : g ∣ b := hg ▸ Int.gcd_dvd_right ..;have hga : g ∣ a := hg ▸ Int.gcd_dvd_left ..;obtain ⟨c, hc⟩ := hgb;obtain ⟨e, he⟩ := hga;have hg0 : g ≠ 0 := fun h => hb (by rw [hc, h, Int.zero_mul]);have hgp : 0 < g := by rw [hg] at hg0 |-; omega
 have hq : b / g = c := by rw [hc]; exact Int.mul_ediv_cancel_left _ hg0
 have hc0 : c ≠ 0 := fun h => hb (by rw [hc, h, Int.mul_zero]);rw [hq];have hdv : b ∣ g - a * (m % c) := by
  have h1 : g - a * (m % c) = (g - m * a) + b * (e * (m / c)) := by
   have hm' := Int.emod_add_mul_ediv m c;have : m % c = m - c * (m / c) := by omega
   rw [this, he, hc];simp only [Int.mul_sub, Int.mul_assoc, Int.mul_comm, Int.mul_left_comm];omega
  rw [h1];exact Int.dvd_add hm (Int.dvd_mul_right ..)
 refine ⟨⟨c, hc⟩, hc0, hdv, ?_⟩;unfold fM;rw [if_neg hb];refine ⟨hg, Int.emod_nonneg _ hc0, ?_, ?_⟩
 . have h2 : (b.natAbs : Int) = c.natAbs * g := by
    rw [hc, Int.natAbs_mul, Int.natCast_mul, Int.natAbs_of_nonneg (Int.le_of_lt hgp), Int.mul_comm]
   rw [h2];have h3 : m % c < (c.natAbs : Int) := Int.emod_lt m hc0;exact Int.mul_lt_mul_of_pos_right h3 hgp
 . obtain ⟨d, hd⟩ := hdv;rw [hd, Int.mul_ediv_cancel_left _ hb];omega
end Go.Proofs.YtbgecfleamckcaaGreat
namespace Go.Proofs.YtbgecfleamckcaaGreat
open Go.RowKit
def AV.int2 (B : Nat) (x y : Int) : AV := AV.free (fun w v => ∃ b ao l k b' ao' l' k', v = .agg #[.bool b, .slice ao l k, .bool b', .slice ao' l' k'] /\ ae w B (.agg #[.bool b, .slice ao l k]) x /\ ae w B (.agg #[.bool b', .slice ao' l' k']) y) (fun ⟨b, ao, l, k, b', ao', l', k', e, h, h'⟩ hb => ⟨b, ao, l, k, b', ao', l', k', e, ae.below h hb, ae.below h' hb⟩) (fun ⟨b, ao, l, k, b', ao', l', k', e, h, h'⟩ hr _ ht j u _ => ⟨b, ao, l, k, b', ao', l', k', e, ae.setRow h hr ht j u, ae.setRow h' hr ht j u⟩)
theorem tV (x : Int) : aP x = x.sign := by
 unfold aP;rcases Int.lt_trichotomy x 0 with h | h | h
 . rw [if_pos h, Int.sign_eq_neg_one_of_neg h]
 . subst h; rfl
 . rw [if_neg (by omega), if_neg (by omega), Int.sign_eq_one_of_pos h]
theorem ue (a : Int) : fM a 0 ((a.natAbs : Nat) : Int) (aP a) 0 := by
 unfold fM;rw [if_pos rfl];exact ⟨rfl, tV a, rfl⟩
theorem cK {x : Int} : (aP x = 0) ↔ x = 0 := by
 unfold aP; split
 . constructor <;> intro h <;> omega
 . split <;> constructor <;> intro h <;> omega
theorem fK {ps : List P4} {tl : List Value} (n : aK tl) : aK (flat ps ++ tl) := aK.append (gA ps) n
theorem qz (ps : List P4) {tl : List Value} (n : aK tl) (i : Nat) (p : P4) : ∃ tl', aK tl' /\ ((flat ps ++ tl).set (i * 2) (.bool p.1)).set (i * 2 + 1) (.slice p.2.1 p.2.2.1 p.2.2.2) = flat (ps.set i p) ++ tl' := by
 by_cases h : i < ps.length
 . refine ⟨tl, n, ?_⟩;have hl := bL ps;rw [List.set_append_left _ _ (by omega), List.set_append_left _ _ (by rw [List.length_set]; omega), nB]
 . refine ⟨(tl.set (i * 2 - (flat ps).length) (.bool p.1)).set (i * 2 + 1 - (flat ps).length) (.slice p.2.1 p.2.2.1 p.2.2.2), (n.AA _ _).setS _ _ _ _, ?_⟩;have hl := bL ps;have e : ps.set i p = ps := List.set_eq_of_length_le (by omega);rw [List.set_append_right _ _ (by omega), List.set_append_right _ _ (by omega), e]
def aJ (w : World) (b : Nat) (xs : List Int) : Prop := ∃ (ps : List P4) (tl : List Value), aK tl /\ a6 w b 40 (flat ps ++ tl) /\ ps.length = xs.length /\ ∀ i (h : i < ps.length) (h' : i < xs.length), aN w (av ps[i]) xs[i]
theorem aJ.of {w : World} {b : Nat} {xs : List Int} {ps : List P4} (h : a6 w b 40 (flat ps)) (hl : ps.length = xs.length) (hn : ∀ i (h : i < ps.length) (h' : i < xs.length), aN w (av ps[i]) xs[i]) : aJ w b xs := ⟨ps, [], aK.nil, by rw [List.append_nil]; exact h, hl, hn⟩
theorem aJ.lt {w : World} {b : Nat} {xs : List Int} (h : aJ w b xs) : b < w.heap.size := by
 obtain ⟨ps, tl, nt, hr, _⟩ := h; exact hr.lt
theorem aJ.below {w w' : World} {b : Nat} {xs : List Int} (h : aJ w b xs) (hb : Below w.heap.size w w') : aJ w' b xs := by
 obtain ⟨ps, tl, nt, hr, hl, hn⟩ := h;exact ⟨ps, tl, nt, hr.below hb hr.lt, hl, fun i h1 h2 => (hn i h1 h2).below hb⟩
theorem aJ.other {w : World} {b g : Nat} {xs : List Int} (h : aJ w b xs) (hne : b ≠ g) {t : TypeId} {cs : List Value} (hr : a6 w g t cs) (hn : aK cs) (i : Nat) (u : Value) : aJ (w.setCell ⟨g, i, none⟩ u) b xs := by
 obtain ⟨ps, tl, nt, hr', hl, hn'⟩ := h;exact ⟨ps, tl, nt, hr'.other hne u, hl, fun j h1 h2 => (hn' j h1 h2).setRow hr hn i u⟩
theorem aJ.get {w : World} {b : Nat} {xs : List Int} (h : aJ w b xs) {i : Nat} (hi : i < xs.length) : ∃ p : P4, w.cell? ⟨b, i * 2, none⟩ = some (.bool p.1) /\ w.cell? ⟨b, i * 2 + 1, none⟩ = some (.slice p.2.1 p.2.2.1 p.2.2.2) /\ aN w (av p) xs[i] := by
 obtain ⟨ps, tl, nt, hr, hl, hn⟩ := h;have hi' : i < ps.length := by omega
 have hf := bL ps;exact ⟨ps[i], by rw [hr.cell, List.getElem?_append_left (by omega)]; exact jM ps i hi', by rw [hr.cell, List.getElem?_append_left (by omega)]; exact jQ ps i hi', hn i hi' hi⟩
theorem aJ.free {w : World} {b : Nat} {xs : List Int} (h : aJ w b xs) (i : Nat) : w.frozen? ⟨b, i, none⟩ = false := by
 obtain ⟨ps, tl, nt, hr, _⟩ := h; exact hr.free i
theorem aJ.set {w : World} {b : Nat} {xs : List Int} (h : aJ w b xs) (i : Nat) {p : P4} {x : Int} (hx : aN w (av p) x) : aJ ((w.setCell ⟨b, i * 2, none⟩ (.bool p.1)).setCell ⟨b, i * 2 + 1, none⟩ (.slice p.2.1 p.2.2.1 p.2.2.2)) b (xs.set i x) := by
 obtain ⟨ps, tl, nt, hr, hl, hn⟩ := h;have h1 := hr.set (i * 2) (.bool p.1);have hn0 : aK (flat ps ++ tl) := fK nt;have hn1 := hn0.AA (i * 2) p.1;have h2 := h1.set (i * 2 + 1) (.slice p.2.1 p.2.2.1 p.2.2.2);obtain ⟨tl', nt', e⟩ := qz ps nt i p;rw [e] at h2;refine ⟨ps.set i p, tl', nt', h2, by simp [hl], fun j hj hj' => ?_⟩;rw [List.getElem_set, List.getElem_set];split
 . exact (hx.setRow hr hn0 _ _).setRow h1 hn1 _ _
 . exact ((hn j (by simpa using hj) (by simpa using hj')).setRow hr hn0 _ _).setRow h1 hn1 _ _
theorem aJ.eB {w : World} {b : Nat} {xs : List Int} (h : aJ w b xs) {L : Nat} {v : Value} {x : Int} (hx : a8 w L v x) (i : Nat) (p : P4) : a8 ((w.setCell ⟨b, i * 2, none⟩ (.bool p.1)).setCell ⟨b, i * 2 + 1, none⟩ (.slice p.2.1 p.2.2.1 p.2.2.2)) L v x := by
 obtain ⟨ps, tl, nt, hr, hl, hn⟩ := h;exact (hx.setRow hr (fK nt) _ _).setRow (hr.set _ _) ((fK nt).AA _ _) _ _
theorem aJ.qY {w : World} {b : Nat} {xs : List Int} (h : aJ w b xs) {b' : Nat} {ys : List Int} (hy : aJ w b' ys) (hne : b' ≠ b) (i : Nat) (p : P4) : aJ ((w.setCell ⟨b, i * 2, none⟩ (.bool p.1)).setCell ⟨b, i * 2 + 1, none⟩ (.slice p.2.1 p.2.2.1 p.2.2.2)) b' ys := by
 obtain ⟨ps, tl, nt, hr, hl, hn⟩ := h;exact (hy.other hne hr (fK nt) _ _).other hne (hr.set _ _) ((fK nt).AA _ _) _ _
theorem bc.below {w w' : World} {L : Nat} {ao : Option Addr} {xs : List Int} (h : bc w L ao xs) (hb : Below w.heap.size w w') : bc w' L ao xs := by
 intro hl;obtain ⟨b, o, e, hlt, hc⟩ := h hl;refine ⟨b, o, e, Nat.lt_of_lt_of_le hlt hb.size, fun i hi => ?_⟩;obtain ⟨p, h0, h1, hn⟩ := hc i hi;exact ⟨p, (hb.cell (p := ⟨b, o + i * 2, none⟩) hlt).trans h0, (hb.cell (p := ⟨b, o + i * 2 + 1, none⟩) hlt).trans h1, hn.below hb⟩
theorem kW : (Tryz.prog.info? 40).map (fun i => (i.zero, i.size, i.bytes)) = some (some (.agg #[.bool false, .slice none 0 0]), 2, 32) := by kernel_rfl
theorem aN.zero (w : World) : aN w (av p0) 0 := (ae.zero w 0).num
theorem aJ.tj {w : World} {b n : Nat} (h : a6 w b 40 (flat (List.replicate n p0))) : aJ w b (List.replicate n 0) :=
 aJ.of h (by simp) (fun i h1 h2 => by simp; exact aN.zero w)
theorem pZ (n : Nat) : (madeCells (Value.agg #[.bool false, .slice none 0 0]).cells (n * 2)).toList = flat (List.replicate n p0) := by
 have hz : (Value.agg #[.bool false, .slice none 0 0]).cells = #[.bool false, .slice none 0 0] := rfl;rw [hz];apply List.ext_getElem?;intro j;by_cases hj : j < n * 2
 . rcases Nat.mod_two_eq_zero_or_one j with h | h
   . obtain ⟨i, rfl⟩ : ∃ i, j = i * 2 := ⟨j / 2, by omega⟩;rw [jM _ i (by simp; omega)];simp [madeCells, hj, p0]
   . obtain ⟨i, rfl⟩ : ∃ i, j = i * 2 + 1 := ⟨j / 2, by omega⟩;rw [jQ _ i (by simp; omega)];have e : (i * 2 + 1) % 2 = 1 := h;simp [madeCells, hj, p0, e]
 . rw [List.getElem?_eq_none (by simp [madeCells]; omega), List.getElem?_eq_none (by rw [bL]; simp; omega)]
theorem v7 {w : World} {ops : Array Oper} {rest : List Oper} {o : Oper} {a : Act} {Q : Exit -> Act -> World -> Prop}
 (hg : o.guard = none) (l c : Operand) (hop : o.op = Op.makeSlice 22 l c)
 {kl kc : IntKind} {L C : Int} (n m : Nat) (hl : a.eval l = .int kl L) (hc : a.eval c = .int kc C) (hL : L = (n : Int)) (hC : C = (m : Int)) (hnm : n <= m) (b2 : m <= 8796093022208)
 (hK : ∀ b w', Made w w' b 40 (flat (List.replicate m p0)) -> wpList Tryz.prog ops Q rest (a.put o.dst (.slice (some ⟨b, 0, none⟩) n m)) w') :
 wpList Tryz.prog ops Q (o :: rest) a w :=
 eR hg l c 22 hop 40 (.agg #[.bool false, .slice none 0 0]) 2 32 Tryz.underlying22 kW n m hl hc hL hC hnm (by omega) (by unfold maxLen; omega)
  (fun b w' h => hK b w' (by rw [pZ] at h; exact h))
theorem aN.least {w : World} {v : Value} {x : Int} (h : aN w v x) : ∃ ao cap, v = .agg #[.bool (decide (x < 0)), .slice ao (aa x.natAbs) cap] /\ cU w ao (ew x.natAbs) /\ aa x.natAbs <= cap := by
 obtain ⟨⟨n, ao, len, cap, ws, rfl, hW, hl, hL, hc, hx⟩, s, hs⟩ := h;have hn : n = decide (x < 0) := by injection hs with hs; simp at hs; exact hs.1
 have hv : a7 ws = x.natAbs := by rw [hx, fQ]
 have h1 := bU hW.1;rw [hv] at h1;have h2 := aH ws;have h3 := iC hW.1;rw [hv, List.take_of_length_le (by omega)] at h3;have h4 : len = aa x.natAbs := by omega
 subst hn;rw [h3];exact ⟨ao, cap, by rw [h4], hW, by omega⟩
theorem aJ.x4 {w : World} {b : Nat} {xs : List Int} (h : aJ w b xs) : dw w (some ⟨b, 0, none⟩) xs := by
 intro _;refine ⟨b, 0, rfl, h.lt, fun i hi => ?_⟩;obtain ⟨p, h0, h1, hn⟩ := h.get hi;exact ⟨p, by simpa using h0, by simpa using h1, hn⟩
theorem dw.gW {w : World} {L : Nat} {ao : Option Addr} {xs : List Int} (h : dw w ao xs) (hL : ∀ x ∈ xs, aa x.natAbs <= L) : bc w L ao xs := by
 intro hl;obtain ⟨b, o, e, hlt, hc⟩ := h hl;exact ⟨b, o, e, hlt, fun i hi => by
  obtain ⟨p, h0, h1, hn⟩ := hc i hi;exact ⟨p, h0, h1, hn.int (hL _ (List.getElem_mem hi))⟩⟩
theorem wC (n : Nat) : aK (Builtin.zeroCells (Value.agg #[.bool false, .slice none 0 0]).cells n).toList := by
 have e : (Value.agg #[.bool false, .slice none 0 0]).cells = #[.bool false, .slice none 0 0] := rfl;rw [e];intro v hv k;unfold Builtin.zeroCells at hv;simp only [Array.toList_map, List.mem_map, Array.mem_toList_iff, Array.mem_range] at hv;obtain ⟨i, _, rfl⟩ := hv;have h2 : i % 2 = 0 \/ i % 2 = 1 := by omega
 rcases h2 with h2 | h2 <;> simp [h2]
structure Hd where
 aB : Nat
 cap : Nat
 xs : List Int
def Hd.dk (h : Hd) : Value := .slice (some ⟨h.aB, 0, none⟩) h.xs.length h.cap
def rowOf (xs : List Int) (c k : Nat) : List Int := (xs.drop (k * c)).take c
theorem gh {xs : List Int} {r c k : Nat} (hl : xs.length = r * c) (hk : k < r) : (rowOf xs c k).length = c := by
 have h1 : (k + 1) * c <= r * c := Nat.mul_le_mul_right _ (by omega);have h2 : (k + 1) * c = k * c + c := Nat.succ_mul k c;simp [rowOf, hl]; omega
theorem a6.ne {w : World} {a b : Nat} {t t' : TypeId} {cs cs' : List Value} (h : a6 w a t cs) (h' : a6 w b t' cs') (ht : t ≠ t') : a ≠ b := by
 rintro rfl;unfold a6 at h h';rw [h] at h';simp only [Option.some.injEq, Obj.cells.injEq] at h';exact ht h'.2.1
theorem aO.yK {S : Nat -> Prop} {w w' : World} (h : aO S w w') (hS : dC S w) {b : Nat} {xs : List Int} (hx : aJ w b xs) (hb : ¬ S b) : aJ w' b xs := by
 obtain ⟨ps, tl, nt, hr, hl, hn⟩ := hx;exact ⟨ps, tl, nt, h.row hr hb, hl, fun i h1 h2 => h.num hS (hn i h1 h2)⟩
theorem aJ.bH {w : World} {b : Nat} {xs : List Int} (h : aJ w b xs) : dC (· = b) w := by
 rintro g rfl;obtain ⟨ps, tl, nt, hr, _⟩ := h;exact ⟨_, _, hr, fK nt⟩
theorem aJ.kF {w : World} {b : Nat} {xs : List Int} (h : aJ w b xs) {g : Nat} {t : TypeId} {cs : List Value} (hr : a6 w g t cs) (ht : t ≠ 40) (hn : aK cs) (i : Nat) (u : Value) : aJ (w.setCell ⟨g, i, none⟩ u) b xs := by
 have hne : b ≠ g := by
  obtain ⟨ps, tl, nt, hp, _⟩ := h;exact hp.ne hr (fun e => ht e.symm)
 exact h.other hne hr hn i u
def cP (n : Int) : Bool := decide (0 <= n) && decide (n <= 64)
theorem rf (n : Int) (w : World) :
 Calls Tryz.prog 22 #[.int .i64 n] w fun e w' => e = .returned (.bool (cP n)) /\ w' = w := by
 go_enter Tryz.func22, Tryz.ntmps22;by_cases h0 : 0 <= n
 . by_cases h1 : n <= 64
   . go_wp2;go_ret;refine ⟨?_, rfl⟩;simp [cP, h0, h1]
   . go_wp2;go_ret;refine ⟨?_, rfl⟩;simp [cP, h0, h1]
 . go_wp2;go_ret;refine ⟨?_, rfl⟩;have h9 : decide (0 <= n) = false := by simp; omega
   simp [cP, h9]
def aU (r c : Int) (len : Nat) : Bool := cP r && cP c && ((len : Int) == r * c)
def xB (r c : Int) (len : Nat) : Int := if aU r c len then 0 else 1
theorem eH {r c : Int} {len : Nat} (h : aU r c len = false) : xB r c len = 1 := by unfold xB; rw [h]; rfl
theorem fp {r c : Int} {len : Nat} (h : aU r c len = true) : xB r c len = 0 := by unfold xB; rw [h]; rfl
theorem cY (r c : Int) (ao : Option Addr) (len cap : Nat) (w : World) (hr : -9223372036854775808 <= r /\ r <= 9223372036854775807) (hc : -9223372036854775808 <= c /\ c <= 9223372036854775807) :
 Calls Tryz.prog 6 #[.agg #[.int .i64 r, .int .i64 c, .slice ao len cap]] w fun e w' => e = .returned (.int .i64 (xB r c len)) /\ Below w.heap.size w w' := by
 have hb : Below w.heap.size w (w.alloc (.cells #[.int .i64 r, .int .i64 c, .slice ao len cap] 24)) := (Below.refl _ _).alloc (Nat.le_refl _) _;have HB := H5 hb; clear hb;go_enter Tryz.func6, Tryz.ntmps6;go_wp2_with fail
 refine (rf _ _).mono ?_;rintro e w' ⟨rfl, rfl⟩;cases h1 : cP r
 . go_wp2;go_ret;rw [eH (by simp [aU, h1])];exact ⟨rfl, HB.out⟩
 . have hr2 : 0 <= r /\ r <= 64 := by simpa [cP] using h1
   have H1 := H5 h1; clear h1;go_wp2_with fail
   refine (rf _ _).mono ?_;rintro e w' ⟨rfl, rfl⟩;cases h2 : cP c
   . go_wp2;go_ret;rw [eH (by simp [aU, h2])];exact ⟨rfl, HB.out⟩
   . have hc2 : 0 <= c /\ c <= 64 := by simpa [cP] using h2
     have H2 := H5 h2; clear h2;have hm : 0 <= r * c /\ r * c <= 4096 := by
      refine ⟨Int.mul_nonneg hr2.1 hc2.1, ?_⟩;have h3 := Int.mul_le_mul_of_nonneg_right hr2.2 hc2.1;omega
     obtain ⟨rc, hrc⟩ : ∃ rc, r * c = rc := ⟨_, rfl⟩;rw [hrc] at hm;have hw : IntKind.i64.wrap (r * c) = rc := by rw [hrc]; exact wrap_small (by omega) (by omega)
     have HRC := H5 hrc; clear hrc;by_cases h3 : (len : Int) = rc
     . have h3' : ((len : Int) != rc) = false := by simpa using h3
       have H3 := H5 h3; clear h3;go_wp2;go_ret;rw [fp (by simp [aU, H1.out, H2.out, HRC.out, H3.out])];exact ⟨rfl, HB.out⟩
     . have h3' : ((len : Int) != rc) = true := by simpa using h3
       have H3 := H5 h3; clear h3;go_wp2;go_ret;rw [eH (by simp [aU, H1.out, H2.out, HRC.out, H3.out])];exact ⟨rfl, HB.out⟩
theorem jn (ao : Option Addr) (cap : Nat) (xs : List Int) (w : World) (h : bc w 17592186044415 ao xs) (hlen : xs.length <= 8796093022208) :
 Calls Tryz.prog 90 #[.slice ao xs.length cap, .func (.func 40) #[] #[]] w fun e w' => (∃ b, e = .returned (.slice (some ⟨b, 0, none⟩) xs.length xs.length) /\ w.heap.size <= b /\ aJ w' b xs) /\ Below w.heap.size w w' := by
 have HL := H5 h; clear h;go_enter Tryz.func90, Tryz.ntmps90;go_wp2_with (at_make; refine v7 rfl _ _ rfl xs.length xs.length rfl rfl (by omega) (by omega) (Nat.le_refl _) (by omega) ?_; intro bo w1 hm1)
 have hbo : w.heap.size <= bo := by have := hm1.at_; omega
 have R1 := H5 (aJ.tj hm1.row);have L1 := H5 (HL.out.below hm1.below);have B1 := H5 hm1.below;clear hm1;go_wp2;go_loopw [13] (fun i wr => ∃ (m : Nat) (cu : List Int), m <= xs.length /\ i = .int .i64 (m : Int) /\ Hid (cu.length = xs.length /\ ∀ j (h : j < cu.length) (h1 : j < xs.length), j < m -> cu[j] = xs[j]) /\ Hid (aJ wr bo cu) /\ Hid (bc wr 17592186044415 ao xs) /\ Hid (Below w.heap.size w wr)) (fun i _ => xs.length - (intOf i).toNat)
 case atStart => exact ⟨0, _, Nat.zero_le _, rfl, H5 ⟨by simp, fun j _ _ h => by omega⟩, R1, L1, B1⟩
 case round =>
  obtain ⟨m, cu, hm, rfl, HA, hX, hL, hB⟩ := hrel;by_cases hml : m < xs.length
  . have hmx : m < cu.length := by rw [HA.out.1]; exact hml
    have hm2 : (m : Int) < (xs.length : Int) := by omega
    obtain ⟨ab, aoff, rfl, hab, hcells⟩ := hL.out (by omega);obtain ⟨px, cx0, cx1, hnx⟩ := hcells m hml;have Hnx := H5 hnx; clear hnx hcells;have hb1 : Below wr.heap.size wr (wr.alloc (.cells #[.bool px.1, .slice px.2.1 px.2.2.1 px.2.2.2] 40)) := (Below.refl _ _).alloc (Nat.le_refl _) _;have X1 := H5 (hX.out.below hb1);have L2 := H5 (hL.out.below hb1);have B2 := H5 (hB.out.trans (hb1.mono hB.out.size));have N2 := H5 (Hnx.out.below hb1);clear hb1 hX hL hB Hnx;go_wp2_with fail
    generalize wr.alloc (.cells #[.bool px.1, .slice px.2.1 px.2.2.1 px.2.2.2] 40) = w2 at *;clear cx0 cx1;refine (gJ _ xs[m] _ N2.out).mono ?_;rintro e w3 ⟨⟨vz, rfl, hvz⟩, hb3⟩;obtain ⟨pz, rfl⟩ := aN.parts hvz.num;have X3 := H5 (X1.out.below hb3);have B3 := H5 (B2.out.trans (hb3.mono B2.out.size));have Z3 := H5 hvz.num;clear hvz hb3 X1 L2 B2 N2;unfold av at *;obtain ⟨pq, q0, q1, _⟩ := X3.out.get hmx;have q2 := X3.out.free (m * 2);have q3 := X3.out.free (m * 2 + 1);have hmc : (m : Int) < (xs.length : Int) := hm2;go_wp2;clear q0 q1 q2 q3;go_roundw
    case rel =>
     have hBf := (B3.out.setCell (p := ⟨bo, m * 2, none⟩) hbo (.bool pz.1)).setCell (p := ⟨bo, m * 2 + 1, none⟩) hbo (.slice pz.2.1 pz.2.2.1 pz.2.2.2);refine ⟨m + 1, cu.set m xs[m], by omega, by go_num, H5 ⟨by simpa using HA.out.1, fun j hj hj1 hjm => ?_⟩, H5 (X3.out.set m (p := pz) Z3.out), H5 (HL.out.below hBf), H5 hBf⟩;rw [List.getElem_set];split
     . rename_i e; subst e; rfl
     . exact HA.out.2 j (by simpa using hj) hj1 (by omega)
    case measure => simp [intOf]; omega
  . obtain rfl : m = xs.length := by omega
    have he : cu = xs := List.ext_getElem HA.out.1 fun j h1 h2 => HA.out.2 j h1 h2 h2;have HE := H5 he;clear he;go_wp2;go_ret;refine ⟨⟨bo, rfl, hbo, ?_⟩, hB.out⟩;have := hX.out;rw [HE.out] at this;exact this
end Go.Proofs.YtbgecfleamckcaaGreat
namespace Go.Proofs.YtbgecfleamckcaaGreat
open Go.ChangeShapes Go.WideShapes Go.ChangeAt Go.RowKit Go.Deep
section
variable {H : Type} {enc : TypeId × Value -> H} {w : World} {base : Nat} {sp : Nat -> Bool} {held : Bool}
theorem sT (d : DataW H) : 1 <= Rows.uptoBulk d := by
 cases d with
 | lit l => cases l <;> simp [Rows.uptoBulk]
 | nil => simp [Rows.uptoBulk]
 | ptr d => simp [Rows.uptoBulk]
 | slice elems spare => simp [Rows.uptoBulk]
 | agg parts => simp [Rows.uptoBulk]
 | iface t d => simp [Rows.uptoBulk]
 | map entries => simp [Rows.uptoBulk]
 | held h => simp [Rows.uptoBulk]
theorem sV (l r : List (DataW H)) : Rows.uptoBulkAll (l ++ r) = Rows.uptoBulkAll l + Rows.uptoBulkAll r := by
 induction l with
 | nil => simp [Rows.uptoBulkAll]
 | cons x l ih => simp only [List.cons_append, Rows.uptoBulkAll, ih]; omega
theorem xy {d : DataW H} {l : List (DataW H)} (h : d ∈ l) : Rows.uptoBulk d <= Rows.uptoBulkAll l := by
 induction l with
 | nil => cases h
 | cons x r ih =>
  simp only [Rows.uptoBulkAll];rcases List.mem_cons.1 h with rfl | h
  . omega
  . have := ih h; omega
theorem mL (l : List (DataW H)) : l.length <= Rows.uptoBulkAll l := by
 induction l with
 | nil => simp [Rows.uptoBulkAll]
 | cons x r ih => have := sT x; simp only [Rows.uptoBulkAll, List.length_cons]; omega
theorem iT (l r : List (DataW H)) : Rows.uptoBulk (.slice l r) = Rows.uptoBulkAll l + Rows.uptoBulkAll r + 1 := by simp [Rows.uptoBulk]
theorem rG (l : List (DataW H)) : Rows.uptoBulk (.agg l) = Rows.uptoBulkAll l + 1 := by simp [Rows.uptoBulk]
theorem Aq {α : Type} {n : Nat} {p : Nat -> α -> Prop} (h : ∀ i, i < n -> ∃ x, p i x) : ∃ l : List α, l.length = n /\ ∀ i (hi : i < l.length), p i l[i] := by
 induction n with
 | zero => exact ⟨[], rfl, fun i hi => by simp at hi⟩
 | succ n ih =>
  obtain ⟨l, hl, hp⟩ := ih (fun i hi => h i (by omega));obtain ⟨x, hx⟩ := h n (by omega);refine ⟨l ++ [x], by simp [hl], fun i hi => ?_⟩;by_cases hin : i < l.length
  . rw [List.getElem_append_left hin]; exact hp i hin
  . have : i = n := by simp at hi; omega
    subst this;rw [List.getElem_append_right (by omega)];simp [hl]; exact hx
theorem qp {w : World} {a : Addr} {v : Value} (h : w.cell? a = some v) : ∃ b o, a = ⟨b, o, none⟩ /\ b < w.heap.size := by
 have h1 := World.cell?_spot h;obtain ⟨b, o, s⟩ := a;exact ⟨b, o, by simpa using h1, rv h⟩
theorem tT {fuel : Nat} {cs : List Value} {x : DataW H × List MemPlace} (h : DataW.trod enc Tryz.prog w base sp held fuel 38 cs = some x) :
 ∃ ao len cap ws, cs = [.slice ao len cap] /\ len = ws.length /\ len <= cap /\ cU w ao ws /\ ws.length + 1 <= Rows.uptoBulk x.1 := by
 rcases open_ints Tryz.underlying38 Tryz.underlying47 (by kernel_rfl) h with ⟨rfl, rfl⟩ | ⟨a, len, cap, zs, rfl, hb, hl, hm, hz, rfl, hcell, hwf⟩
 . exact ⟨none, 0, 0, [], rfl, rfl, Nat.le_refl _, ⟨fun x h => (by cases h), fun h => absurd h (by simp)⟩, by simp [Rows.uptoBulk]⟩
 . have hlz : len <= zs.length := by rw [hz]; split <;> omega
   have hrng : ∀ z ∈ zs, 0 <= z /\ z < 18446744073709551616 := fun z hzm => by
    have h1 : 0 <= z /\ z <= 18446744073709551615 := by simpa [Lit.wf, IntKind.min, IntKind.max, IntKind.signed, IntKind.bits] using hwf z hzm
    omega
   have hll : ((zs.take len).map Int.toNat).length = len := by simp; omega
   refine ⟨some a, len, cap, (zs.take len).map Int.toNat, rfl, hll.symm, hl, ⟨fun x hx => ?_, fun hp => ?_⟩, ?_⟩
   . obtain ⟨z, hz1, rfl⟩ := List.mem_map.1 hx;have := hrng z (List.mem_of_mem_take hz1);unfold W; omega
   . rw [hll] at hp;have h0 := hcell 0 (by omega);obtain ⟨b, o, rfl, hblt⟩ := qp (a := a) (w := w) (by simpa [Addr.add] using h0);refine ⟨b, o, rfl, hblt, fun i hi => ?_⟩;rw [hll] at hi;have h1 := hcell i (by omega);rw [add_plain] at h1;rw [h1];have h2 := hrng (zs[i]'(by omega)) (List.getElem_mem (by omega));have e1 : zs.getD i 0 = zs[i]'(by omega) := by rw [List.getD_eq_getElem?_getD, List.getElem?_eq_getElem (by omega)]; rfl
     have e2 : gw ((zs.take len).map Int.toNat) i = (zs[i]'(by omega)).toNat := by
      unfold gw;rw [List.getD_eq_getElem?_getD, List.getElem?_eq_getElem (by rw [hll]; exact hi)];simp
     rw [e1, e2];congr 2;omega
   . rw [iT, hll];have := mL (lits (H := H) .u64 (zs.take len));have e : (lits (H := H) .u64 (zs.take len)).length = len := by simp [lits]; omega
     omega
theorem y3 {fuel : Nat} {cs : List Value} {x : DataW H × List MemPlace} (h : DataW.trod enc Tryz.prog w base sp held fuel 40 cs = some x) :
 ∃ (p : P4) (L : Nat) (z : Int), cs = [.bool p.1, .slice p.2.1 p.2.2.1 p.2.2.2] /\ a8 w L (av p) z /\ L + 3 <= Rows.uptoBulk x.1 := by
 obtain ⟨y0, y1, n, rfl, hl, h0, h1⟩ := trod_struct2 Tryz.underlying40 h;obtain ⟨c0, c1, rfl⟩ : ∃ c0 c1, cs = [c0, c1] := by
  have e : cs.length = 2 := hl.trans (by kernel_rfl);match cs, e with
  | [a, b], _ => exact ⟨a, b, rfl⟩
 rw [show Tryz.prog.cellsOf 4 = 1 by kernel_rfl] at h0;rw [show Tryz.prog.cellsOf 38 = 1 by kernel_rfl] at h1;obtain ⟨b, hb, hy0⟩ := DataW.trod_bool Tryz.underlying4 h0;obtain ⟨ao, len, cap, ws, hc, hlen, hcap, hW, hbk⟩ := tT h1;simp at hb hc;subst hb hc;refine ⟨(b, ao, len, cap), len, zi b (a7 ws), rfl, ⟨b, ao, len, cap, ws, rfl, hW, hlen, Nat.le_refl _, hcap, rfl⟩, ?_⟩;rw [rG];simp only [Rows.uptoBulkAll];have := sT y0.1;omega
theorem tm (D : Nat -> DataW H) (f : Nat -> Nat) : ∀ n, (∀ i, i < n -> f i <= Rows.uptoBulk (D i)) -> ((List.range n).map f).sum <= Rows.uptoBulkAll ((List.range n).map D)
 | 0, _ => by simp
 | n + 1, h => by
  have h1 := tm D f n fun i hi => h i (by omega);have h2 := h n (by omega);rw [List.range_succ, List.map_append, List.map_append, List.sum_append, sV];simp only [List.map_cons, List.map_nil, List.sum_cons, List.sum_nil, Rows.uptoBulkAll];omega
theorem tJ {fuel : Nat} {cs : List Value} {x : DataW H × List MemPlace} (h : DataW.trod enc Tryz.prog w base sp held fuel 22 cs = some x) :
 ∃ ao len cap xs, cs = [.slice ao len cap] /\ len = xs.length /\ len <= cap /\ bc w (Rows.uptoBulk x.1) ao xs /\ xs.length + 1 <= Rows.uptoBulk x.1 /\ (xs.map fun z => aa z.natAbs).sum <= Rows.uptoBulk x.1 := by
 rcases open_slice Tryz.underlying22 h with ⟨rfl, rfl⟩ | ⟨a, len, cap, m, n, D, Pl, rfl, hb, hl, hm, hmm, rfl, hi⟩
 . exact ⟨none, 0, 0, [], rfl, rfl, Nat.le_refl _, fun h => absurd h (by simp), by simp [Rows.uptoBulk], by simp⟩
 . have hlm : len <= m := by rw [hmm]; split <;> omega
   have hD : ∀ i, i < len -> Rows.uptoBulk (D i) <= Rows.uptoBulkAll ((List.range len).map D) := fun i hi => xy (List.mem_map.2 ⟨i, List.mem_range.2 hi, rfl⟩);obtain ⟨l, hll, hp⟩ := Aq (n := len) (p := fun i (q : P4 × Int) => (w.cell? (a.add (i * 2)) = some (.bool q.1.1) /\ w.cell? (a.add (i * 2 + 1)) = some (.slice q.1.2.1 q.1.2.2.1 q.1.2.2.2)) /\ a8 w (Rows.uptoBulkAll ((List.range len).map D)) (av q.1) q.2 /\ aa q.2.natAbs <= Rows.uptoBulk (D i)) (fun i hil => by
    obtain ⟨cs', hc, ht⟩ := hi i (by omega);rw [show Tryz.prog.cellsOf 40 = 2 by kernel_rfl] at hc;obtain ⟨p, L, z, rfl, hI, hbk⟩ := y3 ht;obtain ⟨_, _, hcell⟩ := World.cells?_some hc;have c0 := hcell 0 (by omega);have c1 := hcell 1 (by omega);rw [add_add] at c0 c1;exact ⟨(p, z), ⟨by simpa using c0, by simpa using c1⟩, hI.mono (by have := hD i hil; have : Rows.uptoBulk (D i, Pl i).1 = Rows.uptoBulk (D i) := rfl; omega), by show aa z.natAbs <= _; have h8 := hI.aa; have h9 : Rows.uptoBulk (D i, Pl i).1 = Rows.uptoBulk (D i) := rfl; omega⟩)
   have hbl : len <= Rows.uptoBulkAll ((List.range len).map D) := by have := mL ((List.range len).map D); simpa using this
   refine ⟨some a, len, cap, l.map Prod.snd, rfl, by simp [hll], hl, fun hpos => ?_, ?_, ?_⟩
   . have hpos' : 0 < len := by simpa [hll] using hpos
     have h0 := (hp 0 (by omega)).1.1;obtain ⟨b, o, rfl, hblt⟩ := qp (a := a) (w := w) (by simpa [Addr.add] using h0);refine ⟨b, o, rfl, hblt, fun i hi' => ?_⟩;have hil : i < l.length := by simpa using hi'
     obtain ⟨⟨c0, c1⟩, hI, _⟩ := hp i hil;rw [add_plain] at c0 c1;refine ⟨l[i].1, c0, by rw [<- Nat.add_assoc] at c1; exact c1, ?_⟩;have e : (l.map Prod.snd)[i]'hi' = l[i].2 := by simp
     rw [e, iT];exact hI.mono (by omega)
   . rw [iT]; simp [hll]; omega
   . have h1 := tm D (fun i => aa ((l.map Prod.snd).getD i 0).natAbs) len (fun i hi => by
      have h2 := (hp i (by omega)).2.2;have e : (l.map Prod.snd).getD i 0 = (l[i]'(by omega)).2 := by
       rw [List.getD_eq_getElem?_getD, List.getElem?_map, List.getElem?_eq_getElem (by omega)]; rfl
      rw [e]; exact h2)
     have e : (List.range len).map (fun i => aa ((l.map Prod.snd).getD i 0).natAbs) = (l.map Prod.snd).map fun z => aa z.natAbs := by
      refine List.ext_getElem (by simp [hll]) fun i h1 h2 => ?_;have hi : i < l.length := by simpa using h2
      simp [hi]
     rw [e] at h1;rw [iT]; omega
theorem wJ {fuel : Nat} {cs : List Value} {x : DataW H × List MemPlace} (h : DataW.trod enc Tryz.prog w base sp held fuel 22 cs = some x) :
 ∃ ao len cap xs, cs = [.slice ao len cap] /\ len = xs.length /\ len <= cap /\ bc w (Rows.uptoBulk x.1) ao xs /\ xs.length + 1 <= Rows.uptoBulk x.1 := by
 obtain ⟨ao, len, cap, xs, h1, h2, h3, h4, h5, _⟩ := tJ h;exact ⟨ao, len, cap, xs, h1, h2, h3, h4, h5⟩
theorem sL {r : Reach} {b0 : Nat} {v : Value} {d : DataW H} {p : List MemPlace} (hv : Value.okWide Tryz.prog w r b0 24 v) (h : DataW.Trod enc Tryz.prog w base sp held 24 v d p) :
 ∃ (m n : Int) (ao : Option Addr) (len cap : Nat) (xs : List Int), v = .agg #[.int .i64 m, .int .i64 n, .slice ao len cap] /\ len = xs.length /\ len <= cap /\ bc w (Rows.uptoBulk d) ao xs /\ xs.length + 1 <= Rows.uptoBulk d := by
 obtain ⟨v0, v1, v2, y0, y1, y2, n, rfl, rfl, rfl, h0, h1, h2⟩ := Joins.open_agg3 Tryz.underlying24 (by kernel_rfl) (by kernel_rfl) hv h;obtain ⟨m, e0, -, -⟩ := DataW.trod_int Tryz.underlying3 h0;obtain ⟨k, e1, -, -⟩ := DataW.trod_int Tryz.underlying3 h1;obtain ⟨ao, len, cap, xs, e2, hlen, hcap, hL, hbk⟩ := wJ h2;simp at e0 e1 e2;subst e0 e1 e2;have hle : Rows.uptoBulk y2.1 <= Rows.uptoBulk (.agg [y0.1, y1.1, y2.1]) := by rw [rG]; simp only [Rows.uptoBulkAll]; omega
 refine ⟨m, k, ao, len, cap, xs, rfl, hlen, hcap, fun hp => ?_, by omega⟩;obtain ⟨b, o, e, hlt, hc⟩ := hL hp;exact ⟨b, o, e, hlt, fun i hi => by obtain ⟨q, q0, q1, hq⟩ := hc i hi; exact ⟨q, q0, q1, hq.mono hle⟩⟩
theorem om {r c : Int} {len : Nat} (h : aU r c len = true) : ∃ m n : Nat, r = (m : Int) /\ c = (n : Int) /\ m <= 64 /\ n <= 64 /\ len = m * n := by
 unfold aU cP at h;simp only [Bool.and_eq_true, decide_eq_true_eq, beq_iff_eq] at h;obtain ⟨⟨⟨h1, h2⟩, h3, h4⟩, h5⟩ := h;obtain ⟨m, rfl⟩ := Int.eq_ofNat_of_zero_le h1;obtain ⟨n, rfl⟩ := Int.eq_ofNat_of_zero_le h3;refine ⟨m, n, rfl, rfl, by omega, by omega, ?_⟩;rw [<- Int.natCast_mul] at h5;exact Int.ofNat.inj h5
theorem pB {P : Program} (hl : laidOutB P = true) {W W' : World} {spf : Nat -> Bool} : ∀ {ts : List TypeId} {vs : List Value} {ds : List (DataW H)} {ps : List MemPlace}, (ts.all fun t => P.readableRec t && decide (t < P.types.size)) = true ->
 DataW.TrodAll enc P W 0 (fun _ => true) true ts vs ds ps -> (∀ x ∈ ps, W.sameAt W' x) -> (∀ x ∈ ps, spf x.block = true) -> DataW.TrodAll enc P W' 0 spf true ts vs ds ps := by
 intro ts;induction ts with
 | nil =>
  intro vs ds ps _ h _ _;cases vs <;> cases ds <;> exact h
 | cons t ts ih =>
  intro vs ds ps ha h hs hp;cases vs with
  | nil => exact h.elim
  | cons v vs =>
   cases ds with
   | nil => exact h.elim
   | cons d ds =>
    obtain ⟨p, q, h1, h2, rfl⟩ := h;simp only [List.all_cons, Bool.and_eq_true, decide_eq_true_eq] at ha;exact ⟨p, q, WideElems.Trod_stays hl ha.1.1 ha.1.2 h1 (fun x hx => hs x (List.mem_append_left _ hx)) (fun x hx => hp x (List.mem_append_left _ hx)),
     ih ha.2 h2 (fun x hx => hs x (List.mem_append_right _ hx)) (fun x hx => hp x (List.mem_append_right _ hx)), rfl⟩
theorem xX : laidOutB Tryz.prog = true := by kernel_rfl
theorem law_post {f : Func} {s : ChangeSpec} {W W' : World} {args : Array Value} {ds gs : List (DataW H)} {before : List MemPlace} (ha : (f.params.toList.all fun t => Tryz.prog.readableRec t && decide (t < Tryz.prog.types.size)) = true) (hv : s.vars = []) (hr : f.resultTypes = #[4])
 (hW : DataW.Whole enc Tryz.prog f.params.toList s.vars false W args.toList ds gs before) (h1 : (s.fn H (ds ++ gs)).results = [.lit (.bool true)]) (h2 : (s.fn H (ds ++ gs)).args = ds) (h3 : (s.fn H (ds ++ gs)).vars = []) (hb : Below W.heap.size W W') :
 s.post enc Tryz.prog f false true false false W args (.bool true) W' := by
 have hlt : ∀ p ∈ before, p.block < W.heap.size := fun p hp => hW.lt p hp;have hold : ∀ p ∈ before, (fun b => decide (b < W.heap.size)) p.block = true := fun p hp => by simpa using hlt p hp
 have hW' := hW;obtain ⟨p, q, hA, hV, rfl, hz, hn⟩ := hW;rw [hv] at hV;obtain ⟨rfl, rfl⟩ := trodVars_none hV;have hsame : ∀ x ∈ p, W.sameAt W' x := fun x hx => hb.same (hlt x (List.mem_append_left _ hx));have hargs : ∀ spf : Nat -> Bool, (∀ x ∈ p ++ [], spf x.block = true) -> DataW.TrodAll enc Tryz.prog W' 0 spf true f.params.toList args.toList (s.fn H (ds ++ [])).args p := fun spf hs => by
  rw [h2]; exact pB xX ha hA hsame (fun x hx => hs x (List.mem_append_left _ hx))
 have hres : ∀ (b : Nat) (spf : Nat -> Bool) (hd : Bool), DataW.TrodAll enc Tryz.prog W' b spf hd f.resultTypes.toList ((Value.bool true).resultList f.resultTypes.size) (s.fn H (ds ++ [])).results [] := fun b spf hd => by
  rw [hr, h1]; exact trodAll_cons_mk (shut_bool Tryz.underlying4 _) trodAll_mk0
 have hvars : ∀ spf : Nat -> Bool, DataW.TrodVars enc Tryz.prog W' spf s.vars (s.fn H (ds ++ [])).vars [] := fun spf => by rw [hv, h3]; rfl
 refine ⟨ds, [], p ++ [], [], p, [], hW', hres _ _ _, hargs _ hold, hvars _, World.keptBut_mono (fun x hx => ⟨hx, Or.inr (by simpa using hx)⟩) (hb.frame (· ∈ p ++ [])), fun _ => ?_⟩;have hb1 : Value.okWide Tryz.prog W' .any 0 4 (.bool true) := okWide_bool_mk Tryz.underlying4 true;refine ⟨ok_one hr rfl hb1, _, _, ([] ++ p) ++ [], ⟨[] ++ p, [], trodAll_append (hargs _ (fun _ _ => rfl)) (hres _ _ _), hvars _, rfl, ?_, ?_⟩, ?_⟩
 . intro b off hp;have hin : MemPlace.cell b off ∈ p ++ [] := by simpa using hp
   rw [hb.frozen (hlt _ hin)];exact hz b off hin
 . intro h; cases h
 . intro x hx _;simpa using hx
end
theorem uL {H : Type} {l : List (DataW H)} (hk : Rows.uptoSmall H l = true) : Rows.uptoBulkAll l <= 1048576 := of_decide_eq_true hk
theorem qb {H : Type} {enc : TypeId × Value -> H} {w : World} {base : Nat} {sp : Nat -> Bool} {held : Bool} {r : Reach} {b0 : Nat} {m n : Int} {u : Value} {d : DataW H} {p : List MemPlace} (hv : Value.okWide Tryz.prog w r b0 24 (.agg #[.int .i64 m, .int .i64 n, u])) (h : DataW.Trod enc Tryz.prog w base sp held 24 (.agg #[.int .i64 m, .int .i64 n, u]) d p) :
 (-9223372036854775808 <= m /\ m <= 9223372036854775807) /\ (-9223372036854775808 <= n /\ n <= 9223372036854775807) := by
 obtain ⟨v0, v1, v2, y0, y1, y2, k, e, rfl, rfl, h0, h1, h2⟩ := Joins.open_agg3 Tryz.underlying24 (by kernel_rfl) (by kernel_rfl) hv h;obtain ⟨m', e0, -, q0⟩ := DataW.trod_int Tryz.underlying3 h0;obtain ⟨n', e1, -, q1⟩ := DataW.trod_int Tryz.underlying3 h1;simp at e0 e1 e;obtain ⟨rfl, rfl, rfl⟩ := e;injection e0 with _ e0
 injection e1 with _ e1
 subst e0 e1;simpa [Lit.wf, IntKind.min, IntKind.max, IntKind.signed, IntKind.bits] using And.intro q0 q1
end Go.Proofs.YtbgecfleamckcaaGreat
