/- Part 2 of 8 of the proof that the law ModhnfRoads returns true for every input of bulk at most 1048576 and leaves its arguments as they were. -/
import Derived.RegionTactic
import Derived.Test.YtjjlmfmoihooiaaGreatRows
import Derived.WalkKit
import Derived.ProofKit
import Derived.OpenShut
import Derived.JoinedCond
import Derived.Carry
import Derived.Deep.Slices
import Derived.Lib.SmallJoins
import Derived.Test.YtjjlmfmoihooiaaGreatRoA
set_option linter.all false
set_option maxRecDepth 100000
set_option maxHeartbeats 8000000
namespace Go.Proofs.YtjjlmfmoihooiaaGreat
open Go.RowKit
theorem BG (n : Bool) (a b : Nat) : zi n (a + b) = zi n a + zi n b := by cases n <;> simp [zi] <;> omega
theorem zW {n n2 : Bool} (h : n ≠ n2) {a b : Nat} (hle : b <= a) : zi n (a - b) = zi n a + zi n2 b := by
 cases n <;> cases n2 <;> simp [zi] at h |- <;> omega
theorem Ad {n n2 : Bool} (h : n ≠ n2) {a b : Nat} (hle : a <= b) : zi n2 (b - a) = zi n a + zi n2 b := by
 cases n <;> cases n2 <;> simp [zi] at h |- <;> omega
theorem kt (v u : Value) (x y : Int) (w : World) (hA : ah w 17592186044415 v x) (hB : ah w 17592186044415 u y) :
 Calls Tryz.prog 54 #[v, u] w fun e w' => (∃ v', e = .returned v' /\ ai w' w.heap.size v' (x + y)) /\ Below w.heap.size w w' := by
 obtain ⟨n, ao, len, cap, ws, rfl, hW, hl, hL1, hc, hx⟩ := hA;obtain ⟨n2, ao2, len2, cap2, ws2, rfl, hW2, hl2, hL2, hc2, hx2⟩ := hB;have Hx := H5 hx; clear hx;have Hl := H5 hl; clear hl;have Hx2 := H5 hx2; clear hx2;have Hl2 := H5 hl2; clear hl2;go_enter Tryz.func54, Tryz.ntmps54;by_cases hne : n = n2
 . subst hne;go_wp2;obtain ⟨r1, r2, r3, hb⟩ := fz w #[.bool n, .slice ao len cap] #[.bool n, .slice ao2 len2 cap2] #[.bool false, .slice none 0 0] 37 37 37;have hW' := hW.below hb;have hW2' := hW2.below hb;generalize ((w.alloc (.cells #[.bool n, .slice ao len cap] 37)).alloc (.cells #[.bool n, .slice ao2 len2 cap2] 37)).alloc (.cells #[.bool false, .slice none 0 0] 37) = w2 at *;have e1 : w2.cell? ⟨w.heap.size, 0, none⟩ = some (.bool n) := r1.cell 0;have e2 : w2.cell? ⟨w.heap.size, 1, none⟩ = some (.slice ao len cap) := r1.cell 1;have e4 : w2.cell? ⟨w.heap.size + 1, 1, none⟩ = some (.slice ao2 len2 cap2) := r2.cell 1;have hb2 := r3.lt;have k0 : w.heap.size < w.heap.size + 2 := by omega
   have k1 : w.heap.size + 1 < w.heap.size + 2 := by omega
   have Hr3 := H5 r3;have HW := H5 hW';have HW2 := H5 hW2';clear r1 r2 r3 hW' hW2'
   go_region_held3 (fun w' => w'.cell? ⟨w.heap.size, 0, none⟩ = some (.bool n) /\ w'.cell? ⟨w.heap.size, 1, none⟩ = some (.slice ao len cap) /\ w'.cell? ⟨w.heap.size + 1, 1, none⟩ = some (.slice ao2 len2 cap2))
    (first
     | exact ⟨e1, e2, e4⟩
     | exact ⟨(hb3'.cell k0).trans e1, (hb3'.cell k0).trans e2, (hb3'.cell k1).trans e4⟩
     | exact ⟨(hb5.cell k0).trans e1, (hb5.cell k0).trans e2, (hb5.cell k1).trans e4⟩
     | exact ⟨(((hb5.setCell (Ct _) _).setCell (Ct _) _).cell k0).trans e1, (((hb5.setCell (Ct _) _).setCell (Ct _) _).cell k0).trans e2, (((hb5.setCell (Ct _) _).setCell (Ct _) _).cell k1).trans e4⟩)
    (first
     | (go_at_call 86; refine (Add_c _ _ _ _ _ _ ws ws2 _ (by exact HW.out) (by exact HW2.out) Hl.out Hl2.out Cp Cp).mono ?_; rintro e w3 ⟨⟨ao', cap', rfl, hO⟩, hb3⟩; have hb3' : Below (w.heap.size + 2) w2.drew w3 := hb3.mono (Dg hb2))
     | (go_at_call 50; refine (nk n _ _ _ _).mono ?_; rintro e w4 ⟨rfl, hb4⟩; have hb5 : Below (w.heap.size + 2) w2.drew w4 := (hb3.trans (hb4.mono hb3.size)).mono (Dg hb2); have hr4 := (aa.below (w := w2.drew) Hr3.out hb3 hb2).below hb4 (CK hb2 hb3.size); have hf0 := hr4.free 0; have hf1 := hr4.free 1; have hc0 := hr4.cell 0; have hc1 := hr4.cell 1))
   go_wp2;have hr5 := hr4.lr (.bool (n && decide (0 < ag (ae ws + ae ws2)))) (.slice ao' (ag (ae ws + ae ws2)) cap');have hs2 : w.heap.size <= w2.heap.size := by omega
   have hbf : Below w.heap.size w w4 := (hb.drew.trans (hb3.mono hs2)).trans (hb4.mono (Cw hs2 hb3.size));refine bodyPost_ret (ct (p := 4) (by kernel_rfl) _ _ (w.heap.size + 2) _ _ rfl hr5) rfl ?_;have hO' := (hO.mono (B' := w.heap.size + 3) (by show w.heap.size + 3 <= w2.heap.size; omega)).below hb4;have hI := ai.mk n hO';rw [BG] at hI;rw [Hx.out, Hx2.out];exact ai.done hI Cp hbf
 . have hnb : (n == n2) = false := by simpa using hne
   go_wp2_with fail
   obtain ⟨r1, r2, r3, hb⟩ := fz w #[.bool n, .slice ao len cap] #[.bool n2, .slice ao2 len2 cap2] #[.bool false, .slice none 0 0] 37 37 37;generalize ((w.alloc (.cells #[.bool n, .slice ao len cap] 37)).alloc (.cells #[.bool n2, .slice ao2 len2 cap2] 37)).alloc (.cells #[.bool false, .slice none 0 0] 37) = w2 at *;refine (uS _ _ _ _ _ _ ws ws2 _ (hW.below hb) (hW2.below hb) Hl.out Hl2.out Cp Cp).mono ?_;rintro e w3 ⟨rfl, hb3⟩;have R1 := r1.below hb3 r1.lt;have R2 := r2.below hb3 r2.lt;have R3 := r3.below hb3 r3.lt;have HB : Below w.heap.size w w3 := hb.trans (hb3.mono hb.size);clear r1 r2 r3;have e1 : w3.cell? ⟨w.heap.size, 0, none⟩ = some (.bool n) := R1.cell 0;have e2 : w3.cell? ⟨w.heap.size, 1, none⟩ = some (.slice ao len cap) := R1.cell 1;have e3 : w3.cell? ⟨w.heap.size + 1, 0, none⟩ = some (.bool n2) := R2.cell 0;have e4 : w3.cell? ⟨w.heap.size + 1, 1, none⟩ = some (.slice ao2 len2 cap2) := R2.cell 1;by_cases hlt : ae ws < ae ws2
   . rw [n6 hlt];have HlE := H5 (Dg hlt); clear hlt;have g1 := R1.free 0;have g2 := R1.free 1;have g3 := R2.free 0;have g4 := R2.free 1;go_wp2_with fail
     have S1 := ((R1.lr (.bool n2) (.slice ao2 len2 cap2)).other (p := ⟨w.heap.size + 1, 0, none⟩) (by show w.heap.size ≠ w.heap.size + 1; omega) (.bool n)).other (p := ⟨w.heap.size + 1, 1, none⟩) (by show w.heap.size ≠ w.heap.size + 1; omega) (.slice ao len cap);have S2 := (((R2.other (p := ⟨w.heap.size, 0, none⟩) (by show w.heap.size + 1 ≠ w.heap.size; omega) (.bool n2)).other (p := ⟨w.heap.size, 1, none⟩) (by show w.heap.size + 1 ≠ w.heap.size; omega) (.slice ao2 len2 cap2))).lr (.bool n) (.slice ao len cap);have S3 := (((R3.other (p := ⟨w.heap.size, 0, none⟩) (by show w.heap.size + 2 ≠ w.heap.size; omega) (.bool n2)).other (p := ⟨w.heap.size, 1, none⟩) (by show w.heap.size + 2 ≠ w.heap.size; omega) (.slice ao2 len2 cap2)).other (p := ⟨w.heap.size + 1, 0, none⟩) (by show w.heap.size + 2 ≠ w.heap.size + 1; omega) (.bool n)).other (p := ⟨w.heap.size + 1, 1, none⟩) (by show w.heap.size + 2 ≠ w.heap.size + 1; omega) (.slice ao len cap);have SB := (((HB.setCell (p := ⟨w.heap.size, 0, none⟩) (Ct _) (.bool n2)).setCell (p := ⟨w.heap.size, 1, none⟩) (Ct _) (.slice ao2 len2 cap2)).setCell (p := ⟨w.heap.size + 1, 0, none⟩) (Ev _) (.bool n)).setCell (p := ⟨w.heap.size + 1, 1, none⟩) (Ev _) (.slice ao len cap);clear R1 R2 R3 HB e1 e2 e3 e4 g1 g2 g3 g4 hb3;generalize (((w3.setCell ⟨w.heap.size, 0, none⟩ (.bool n2)).setCell ⟨w.heap.size, 1, none⟩ (.slice ao2 len2 cap2)).setCell ⟨w.heap.size + 1, 0, none⟩ (.bool n)).setCell ⟨w.heap.size + 1, 1, none⟩ (.slice ao len cap) = w3' at *;clear w3;obtain ⟨w3, rfl⟩ : ∃ w3 : World, w3 = w3' := ⟨_, rfl⟩;have R1 := S1;have R2 := S2;have R3 := S3;have HB := SB;clear S1 S2 S3 SB;refine (AY _ _ _ _ _ _ ws2 ws _ (hW2.below HB) (hW.below HB) Hl2.out Hl.out Cp Cp HlE.out).mono ?_;rintro e w4 ⟨⟨ao', cap', rfl, hO⟩, hb4⟩;have R1' := R1.below hb4 R1.lt;have R3' := R3.below hb4 R3.lt;have f1 : w4.cell? ⟨w.heap.size, 0, none⟩ = some (.bool n2) := R1'.cell 0;have k4 := R3'.lt;go_wp2_with fail
     refine (nk n2 _ _ _ _).mono ?_;rintro e w5 ⟨rfl, hb5⟩;have hr5 := R3'.below hb5 R3'.lt;have hf0 := hr5.free 0;have hf1 := hr5.free 1;have hc0 := hr5.cell 0;have hc1 := hr5.cell 1;have hs3 : w.heap.size + 3 <= w3.heap.size := R3.lt;have hbf : Below w.heap.size w w5 := (HB.trans (hb4.mono Cp)).trans (hb5.mono (by have := hb4.size; omega));clear R1 R1' R2 R3 R3';go_wp2;have hr6 := hr5.lr (.bool (n2 && decide (0 < ag (ae ws2 - ae ws)))) (.slice ao' (ag (ae ws2 - ae ws)) cap');refine bodyPost_ret (ct (p := 4) (by kernel_rfl) _ _ (w.heap.size + 2) _ _ rfl hr6) rfl ?_;have hO' := (hO.mono (B' := w.heap.size + 3) hs3).below hb5;have hI := ai.mk n2 hO';rw [Ad hne HlE.out] at hI;rw [Hx.out, Hx2.out];exact ai.done hI Cp hbf
   . have hc' : decide (gN (ae ws) (ae ws2) < 0) = false := by
      unfold gN; rw [if_neg hlt]; split <;> rfl
     have HlE := H5 (Ff hlt); clear hlt;generalize gN (ae ws) (ae ws2) = cm at *;go_wp2_with fail
     refine (AY _ _ _ _ _ _ ws ws2 _ (hW.below HB) (hW2.below HB) Hl.out Hl2.out Cp Cp HlE.out).mono ?_;rintro e w4 ⟨⟨ao', cap', rfl, hO⟩, hb4⟩;have R1' := R1.below hb4 R1.lt;have R3' := R3.below hb4 R3.lt;have f1 : w4.cell? ⟨w.heap.size, 0, none⟩ = some (.bool n) := R1'.cell 0;have k4 := R3'.lt;go_wp2_with fail
     refine (nk n _ _ _ _).mono ?_;rintro e w5 ⟨rfl, hb5⟩;have hr5 := R3'.below hb5 R3'.lt;have hf0 := hr5.free 0;have hf1 := hr5.free 1;have hc0 := hr5.cell 0;have hc1 := hr5.cell 1;have hs3 : w.heap.size + 3 <= w3.heap.size := R3.lt;have hbf : Below w.heap.size w w5 := (HB.trans (hb4.mono Cp)).trans (hb5.mono (by have := hb4.size; omega));clear R1 R1' R2 R3 R3';go_wp2;have hr6 := hr5.lr (.bool (n && decide (0 < ag (ae ws - ae ws2)))) (.slice ao' (ag (ae ws - ae ws2)) cap');refine bodyPost_ret (ct (p := 4) (by kernel_rfl) _ _ (w.heap.size + 2) _ _ rfl hr6) rfl ?_;have hO' := (hO.mono (B' := w.heap.size + 3) hs3).below hb5;have hI := ai.mk n hO';rw [zW hne HlE.out] at hI;rw [Hx.out, Hx2.out];exact ai.done hI Cp hbf
theorem lL (v u : Value) (x y : Int) (w : World) (hA : ah w 17592186044415 v x) (hB : ah w 17592186044415 u y) :
 Calls Tryz.prog 55 #[v, u] w fun e w' => (∃ v', e = .returned v' /\ ai w' w.heap.size v' (x - y)) /\ Below w.heap.size w w' := by
 obtain ⟨n, ao, len, cap, ws, rfl, hW, hl, hL1, hc, hx⟩ := hA;obtain ⟨n2, ao2, len2, cap2, ws2, rfl, hW2, hl2, hL2, hc2, hx2⟩ := hB;have Hx := H5 hx; clear hx;have Hl := H5 hl; clear hl;have Hx2 := H5 hx2; clear hx2;have Hl2 := H5 hl2; clear hl2;go_enter Tryz.func55, Tryz.ntmps55;go_wp2_with fail
 obtain ⟨r1, r2, r3, hb⟩ := fz w #[.bool n, .slice ao len cap] #[.bool n2, .slice ao2 len2 cap2] #[.bool false, .slice none 0 0] 37 37 37;generalize ((w.alloc (.cells #[.bool n, .slice ao len cap] 37)).alloc (.cells #[.bool n2, .slice ao2 len2 cap2] 37)).alloc (.cells #[.bool false, .slice none 0 0] 37) = w2 at *;have hI1 : ah w2 17592186044415 (.agg #[.bool n, .slice ao len cap]) x := ⟨n, ao, len, cap, ws, rfl, hW.below hb, Hl.out, hL1, hc, Hx.out⟩;have hI2 : ah w2 17592186044415 (.agg #[.bool (!n2), .slice ao2 len2 cap2]) (-y) := ⟨!n2, ao2, len2, cap2, ws2, rfl, hW2.below hb, Hl2.out, hL2, hc2, by rw [yh, Hx2.out]⟩;refine (kt _ _ x (-y) _ hI1 hI2).mono ?_;rintro e w3 ⟨⟨v', rfl, hO⟩, hb3⟩;have hs3 : w.heap.size + 3 <= w2.heap.size := r3.lt;have hr4 := r3.below hb3 r3.lt;have hf0 := hr4.free 0;have hf1 := hr4.free 1;have hc0 := hr4.cell 0;have hc1 := hr4.cell 1;have hbf : Below w.heap.size w w3 := hb.trans (hb3.mono hb.size);have HO := H5 hO;obtain ⟨ao', cap', rfl, -⟩ := hO;clear r1 r2 r3;go_wp2;have hr6 := hr4.lr (.bool (decide (x + -y < 0))) (.slice ao' (ag (x + -y).natAbs) cap');refine bodyPost_ret (ct (p := 4) (by kernel_rfl) _ _ (w.heap.size + 2) _ _ rfl hr6) rfl ?_;have hO' := HO.out.mono (B' := w.heap.size + 3) hs3;rw [Int.sub_eq_add_neg];exact ai.done hO' Cp hbf
theorem wZ (w : World) (c1 c2 c3 c4 : Array Value) (t1 t2 t3 t4 : TypeId) : aa ((((w.alloc (.cells c1 t1)).alloc (.cells c2 t2)).alloc (.cells c3 t3)).alloc (.cells c4 t4)) w.heap.size t1 c1.toList /\ aa ((((w.alloc (.cells c1 t1)).alloc (.cells c2 t2)).alloc (.cells c3 t3)).alloc (.cells c4 t4)) (w.heap.size + 1) t2 c2.toList /\
 aa ((((w.alloc (.cells c1 t1)).alloc (.cells c2 t2)).alloc (.cells c3 t3)).alloc (.cells c4 t4)) (w.heap.size + 2) t3 c3.toList /\ aa ((((w.alloc (.cells c1 t1)).alloc (.cells c2 t2)).alloc (.cells c3 t3)).alloc (.cells c4 t4)) (w.heap.size + 3) t4 c4.toList /\
 Below w.heap.size w ((((w.alloc (.cells c1 t1)).alloc (.cells c2 t2)).alloc (.cells c3 t3)).alloc (.cells c4 t4)) := by
 obtain ⟨h1, h2, h3, h4⟩ := fz w c1 c2 c3 t1 t2 t3;have e : (((w.alloc (.cells c1 t1)).alloc (.cells c2 t2)).alloc (.cells c3 t3)).heap.size = w.heap.size + 3 := by simp
 refine ⟨h1.alloc _, h2.alloc _, h3.alloc _, ?_, h4.alloc Cp _⟩;have := aa.new (((w.alloc (.cells c1 t1)).alloc (.cells c2 t2)).alloc (.cells c3 t3)) c4 t4
 rwa [e] at this
def aV (x : Int) : Int := if x < 0 then -1 else if x = 0 then 0 else 1
theorem cO (v : Value) (x : Int) (w : World) (hA : ah w 17592186044415 v x) :
 Calls Tryz.prog 16 #[v] w fun e w' => e = .returned (.int .i64 (aV x)) /\ Below w.heap.size w w' := by
 obtain ⟨n, ao, len, cap, ws, rfl, hW, hl, hL, hc, hx⟩ := hA;have Hx := H5 hx; clear hx;have Hl := H5 hl; clear hl;go_enter Tryz.func16, Tryz.ntmps16;go_wp2_with fail
 have hb : Below w.heap.size w (w.alloc (.cells #[.bool n, .slice ao len cap] 37)) := (Below.refl _ _).alloc (Ct _) _;refine (xQ _ _ _ ws _ (hW.below hb) Hl.out Cp).mono ?_;rintro e w' ⟨⟨k, rfl, hk⟩, rfl⟩;by_cases h0 : k = 0
 . have t1 : ((k : Int) == 0) = true := by rw [h0]; rfl
   have e0 := hk.1 h0;have E0 := H5 e0; clear e0 hk h0;go_wp2;go_ret;refine ⟨?_, hb⟩;rw [Hx.out, E0.out];have : aV (zi n 0) = 0 := by cases n <;> rfl
   rw [this]; rfl
 . have t1 : ((k : Int) == 0) = false := by rw [beq_eq_false_iff_ne]; omega
   have e0 : ae ws ≠ 0 := fun h => h0 (hk.2 h);have E0 := H5 e0; clear e0 hk h0;cases n
   . go_wp2;go_ret;refine ⟨?_, hb⟩;have : aV (zi false (ae ws)) = 1 := by
      have := E0.out;unfold aV zi; simp; omega
     rw [Hx.out, this]; rfl
   . go_wp2;go_ret;refine ⟨?_, hb⟩;have : aV (zi true (ae ws)) = -1 := by
      have := E0.out;unfold aV zi; simp; omega
     rw [Hx.out, this]; rfl
theorem mR {fn : Func} {p q : Tmp} (h : fn.results = #[.cell p 37, .tmp q]) (tmps : Array Value) (w : World) (g : Nat) (a b : Value) (hp : tmps.getD p undef = .pointer (some ⟨g, 0, none⟩)) (hr : aa w g 37 [a, b]) :
 (results fn tmps).run Tryz.prog w = .ok (.tuple #[.agg #[a, b], tmps.getD q undef]) w := by
 have hp' : tmps[p]?.getD undef = .pointer (some ⟨g, 0, none⟩) := by simpa using hp
 simp [results, h, hp', asAddr, run_loadVar_row w g 37 37 #[a, b] (0, 0) _ hr Tryz.underlying37 rfl (by kernel_rfl)]
theorem ah.ag {w : World} {L : Nat} {v : Value} {x : Int} (h : ah w L v x) : ag x.natAbs <= L := by
 obtain ⟨n, ao, len, cap, ws, rfl, hW, hl, hL, hc, hx⟩ := h;rw [hx, ij];exact Cw (ec hW.ok) Cp
theorem wF {x y : Int} (h : y ∣ x) : x.natAbs % y.natAbs = 0 := by
 have := Int.natAbs_dvd_natAbs.2 h;exact Nat.mod_eq_zero_of_dvd this
theorem BS {a b : Bool} {m n : Nat} (hn : n ≠ 0) (h : m % n = 0) : zi (a != b) (m / n) = zi a m / zi b n := by
 obtain ⟨k, rfl⟩ := Nat.dvd_of_mod_eq_zero h;rw [Nat.mul_div_cancel_left _ Cp];have hy : zi b n ≠ 0 := by cases b <;> simp [zi] <;> omega
 have e : zi a (n * k) = zi b n * zi (a != b) k := by
  cases a <;> cases b <;> simp [zi, Dq, Du, Ew]
 rw [e, DH _ hy]
theorem eZ (v u : Value) (x y : Int) (w : World) (hA : ah w 17592186044415 v x) (hB : ah w 17592186044415 u y) (hy : y ≠ 0) (hd : y ∣ x) :
 Calls Tryz.prog 40 #[v, u] w fun e w' => (∃ v', e = .returned (.tuple #[v', .int .i64 0]) /\ ai w' w.heap.size v' (x / y)) /\ Below w.heap.size w w' := by
 obtain ⟨n, ao, len, cap, ws, rfl, hW, hl, hL1, hc, hx⟩ := hA;obtain ⟨n2, ao2, len2, cap2, ws2, rfl, hW2, hl2, hL2, hc2, hx2⟩ := hB;have h1 := wF hd;have h2 : ae ws2 ≠ 0 := fun h => hy (by rw [hx2, h]; cases n2 <;> rfl);rw [hx, hx2, ij, ij] at h1;have H1 := H5 h1; clear h1;have H2 := H5 h2; clear h2;have Hx := H5 hx; clear hx;have Hl := H5 hl; clear hl;have Hx2 := H5 hx2; clear hx2;have Hl2 := H5 hl2; clear hl2;clear hd hy;go_enter Tryz.func40, Tryz.ntmps40;go_wp2_with fail
 obtain ⟨r1, r2, r3, hb⟩ := fz w #[.bool n, .slice ao len cap] #[.bool n2, .slice ao2 len2 cap2] #[.bool false, .slice none 0 0] 37 37 37;generalize ((w.alloc (.cells #[.bool n, .slice ao len cap] 37)).alloc (.cells #[.bool n2, .slice ao2 len2 cap2] 37)).alloc (.cells #[.bool false, .slice none 0 0] 37) = w2 at *;refine (Aa _ _ _ _ _ _ ws ws2 _ (hW.below hb) (hW2.below hb) Hl.out Hl2.out Cp Cp H2.out H1.out).mono ?_;rintro e w3 ⟨⟨ao', cap', rfl, hO⟩, hb3⟩;have R1 := r1.below hb3 r1.lt;have R2 := r2.below hb3 r2.lt;have R3 := r3.below hb3 r3.lt;have e1 : w3.cell? ⟨w.heap.size, 0, none⟩ = some (.bool n) := R1.cell 0;have e3 : w3.cell? ⟨w.heap.size + 1, 0, none⟩ = some (.bool n2) := R2.cell 0;have hs3 : w.heap.size + 3 <= w2.heap.size := r3.lt;have hs4 := hb3.size;clear r1 r2 r3;go_wp2_with fail
 refine (nk (n != n2) _ _ _ _).mono ?_;rintro e w4 ⟨rfl, hb4⟩;have hr4 := R3.below hb4 R3.lt;have hf0 := hr4.free 0;have hf1 := hr4.free 1;have hc0 := hr4.cell 0;have hc1 := hr4.cell 1;have hbf : Below w.heap.size w w4 := (hb.trans (hb3.mono hb.size)).trans (hb4.mono Cp);clear R1 R2 R3;go_wp2;have hr6 := hr4.lr (.bool ((n != n2) && decide (0 < ag (ae ws / ae ws2)))) (.slice ao' (ag (ae ws / ae ws2)) cap');refine bodyPost_ret (mR (p := 4) (q := 5) (by kernel_rfl) _ _ (w.heap.size + 2) _ _ rfl hr6) rfl ?_;have hO' := (hO.mono (B' := w.heap.size + 3) hs3).below hb4;have hI := ai.mk (n != n2) hO';rw [BS H2.out H1.out] at hI;rw [Hx.out, Hx2.out];obtain ⟨⟨v', hv, hI'⟩, hB'⟩ := ai.done (a := .bool ((n != n2) && decide (0 < ag (ae ws / ae ws2)))) (b := .slice ao' (ag (ae ws / ae ws2)) cap') hI (by omega : w.heap.size <= w.heap.size + 2) hbf;refine ⟨⟨v', ?_, hI'⟩, hB'⟩;cases hv;rfl
theorem js (k : Int) (w : World) (h1 : -9223372036854775808 <= k) (h2 : k <= 9223372036854775807) :
 Calls Tryz.prog 21 #[.int .i64 k] w fun e w' => (∃ v', e = .returned v' /\ ai w' w.heap.size v' k) /\ Below w.heap.size w w' := by
 go_enter Tryz.func21, Tryz.ntmps21;by_cases hk : k < 0
 . go_wp2_with fail
   have ev : IntKind.u64.wrap (-IntKind.u64.wrap k) = ((k.natAbs : Nat) : Int) := by simp only [IntKind.wrap_u64]; omega
   rw [ev];obtain ⟨r1, r2, hb⟩ := fR w #[.bool false, .slice none 0 0] #[.int .u64 ((k.natAbs : Nat) : Int)] 37 60;generalize (w.alloc (.cells #[.bool false, .slice none 0 0] 37)).alloc (.cells #[.int .u64 ((k.natAbs : Nat) : Int)] 60) = w2 at *;have hkW : k.natAbs < W := by unfold W; omega
   have hw2 : cX w2 (some ⟨w.heap.size + 1, 0, none⟩) [k.natAbs] := aa.mJ (ws := [k.natAbs]) r2 (Ok.one hkW);have hv1 : ae [k.natAbs] = k.natAbs := by simp [ae]
   have hLe := fa _ 1 1 [k.natAbs] _ hw2 rfl Cp;rw [hv1] at hLe;refine hLe.mono ?_;rintro e w3 ⟨⟨ao', cap', rfl, hO⟩, hb3⟩;have hr3 := r1.below hb3 r1.lt;have hs2 : w.heap.size + 2 <= w2.heap.size := r2.lt;have hs3 := hb3.size;clear r1 r2 hLe;go_wp2_with fail
   refine (nk true _ _ _ _).mono ?_;rintro e w4 ⟨rfl, hb4⟩;have hr4 := hr3.below hb4 hr3.lt;have hf0 := hr4.free 0;have hf1 := hr4.free 1;have hc0 := hr4.cell 0;have hc1 := hr4.cell 1;have hbf : Below w.heap.size w w4 := (hb.trans (hb3.mono hb.size)).trans (hb4.mono Cp);have hO' := (hO.mono (B' := w.heap.size + 1) Cp).below hb4;have hI := ai.mk true hO';have hz : zi true k.natAbs = k := by unfold zi; simp; omega
   rw [hz] at hI;have HI := H5 hI;clear hr3 hz hI hw2 hv1 ev;go_wp2;have hr6 := hr4.lr (.bool (true && decide (0 < ag k.natAbs))) (.slice ao' (ag k.natAbs) cap');refine bodyPost_ret (ct (p := 2) (by kernel_rfl) _ _ w.heap.size _ _ rfl hr6) rfl ?_;exact ai.done HI.out (Ct _) hbf
 . obtain ⟨m, rfl⟩ : ∃ m : Nat, k = (m : Int) := ⟨k.toNat, by omega⟩;go_wp2_with fail
   obtain ⟨r1, r2, hb⟩ := fR w #[.bool false, .slice none 0 0] #[.int .u64 ((m : Nat) : Int)] 37 60;generalize (w.alloc (.cells #[.bool false, .slice none 0 0] 37)).alloc (.cells #[.int .u64 ((m : Nat) : Int)] 60) = w2 at *;have hkW : m < W := by unfold W; omega
   have hw2 : cX w2 (some ⟨w.heap.size + 1, 0, none⟩) [m] := aa.mJ (ws := [m]) r2 (Ok.one hkW);have hv1 : ae [m] = m := by simp [ae]
   have hLe := fa _ 1 1 [m] _ hw2 rfl Cp;rw [hv1] at hLe;refine hLe.mono ?_;rintro e w3 ⟨⟨ao', cap', rfl, hO⟩, hb3⟩;have hr3 := r1.below hb3 r1.lt;have hs2 : w.heap.size + 2 <= w2.heap.size := r2.lt;have hs3 := hb3.size;clear r1 r2 hLe;go_wp2_with fail
   refine (nk false _ _ _ _).mono ?_;rintro e w4 ⟨rfl, hb4⟩;have hr4 := hr3.below hb4 hr3.lt;have hf0 := hr4.free 0;have hf1 := hr4.free 1;have hc0 := hr4.cell 0;have hc1 := hr4.cell 1;have hbf : Below w.heap.size w w4 := (hb.trans (hb3.mono hb.size)).trans (hb4.mono Cp);have hO' := (hO.mono (B' := w.heap.size + 1) Cp).below hb4;have hI := ai.mk false hO';have hz : zi false m = (m : Int) := rfl;rw [hz] at hI;have HI := H5 hI;clear hr3 hz hI hw2 hv1;go_wp2;have hr6 := hr4.lr (.bool (false && decide (0 < ag m))) (.slice ao' (ag m) cap');refine bodyPost_ret (ct (p := 2) (by kernel_rfl) _ _ w.heap.size _ _ rfl hr6) rfl ?_;exact ai.done HI.out (Ct _) hbf
theorem ai.int {w : World} {B L : Nat} {v : Value} {x : Int} (h : ai w B v x) (hL : Go.Proofs.YtjjlmfmoihooiaaGreat.ag x.natAbs <= L) : ah w L v x := h.at_.mono hL
theorem gj (v u t : Value) (x y z : Int) (LA LB : Nat) (w : World) (hA : ah w LA v x) (hB : ah w LB u y) (hC : ah w 17592186044415 t z) (hL : LA + LB <= 17592186044415) :
 Calls Tryz.prog 94 #[v, u, t] w fun e w' => (∃ v', e = .returned v' /\ ai w' w.heap.size v' (x * y + z)) /\ Below w.heap.size w w' := by
 have hwx := hA.ag;have hwy := hB.ag;have hwz : ag (x * y).natAbs <= 17592186044415 := by
  rw [CP]; have := cT x.natAbs y.natAbs; omega
 have Hwz := H5 hwz; clear hwz hwx hwy;obtain ⟨n, ao, len, cap, ws, rfl, hW, hl, hL1, hc, hx⟩ := hA;obtain ⟨n2, ao2, len2, cap2, ws2, rfl, hW2, hl2, hL2, hc2, hx2⟩ := hB;obtain ⟨n3, ao3, len3, cap3, ws3, rfl, hW3, hl3, hL3, hc3, hx3⟩ := hC;have HA : Hid (∀ w', Below w.heap.size w w' -> ah w' LA (.agg #[.bool n, .slice ao len cap]) x) := H5 (fun w' h => ⟨n, ao, len, cap, ws, rfl, hW.below h, hl, hL1, hc, hx⟩);have HB : Hid (∀ w', Below w.heap.size w w' -> ah w' LB (.agg #[.bool n2, .slice ao2 len2 cap2]) y) := H5 (fun w' h => ⟨n2, ao2, len2, cap2, ws2, rfl, hW2.below h, hl2, hL2, hc2, hx2⟩);have HC : Hid (∀ w', Below w.heap.size w w' -> ah w' 17592186044415 (.agg #[.bool n3, .slice ao3 len3 cap3]) z) := H5 (fun w' h => ⟨n3, ao3, len3, cap3, ws3, rfl, hW3.below h, hl3, hL3, hc3, hx3⟩);clear hW hl hL1 hc hx hW2 hl2 hL2 hc2 hx2 hW3 hl3 hL3 hc3 hx3;go_enter Tryz.func94, Tryz.ntmps94;go_wp2;obtain ⟨r1, r2, r3, r4, hb⟩ := wZ w #[.bool n, .slice ao len cap] #[.bool n2, .slice ao2 len2 cap2] #[.bool n3, .slice ao3 len3 cap3] #[.bool false, .slice none 0 0] 37 37 37 37;generalize (((w.alloc (.cells #[.bool n, .slice ao len cap] 37)).alloc (.cells #[.bool n2, .slice ao2 len2 cap2] 37)).alloc (.cells #[.bool n3, .slice ao3 len3 cap3] 37)).alloc (.cells #[.bool false, .slice none 0 0] 37) = w2 at *;have e1 : w2.cell? ⟨w.heap.size, 0, none⟩ = some (.bool n) := r1.cell 0;have e2 : w2.cell? ⟨w.heap.size, 1, none⟩ = some (.slice ao len cap) := r1.cell 1;have e3 : w2.cell? ⟨w.heap.size + 1, 0, none⟩ = some (.bool n2) := r2.cell 0;have e4 : w2.cell? ⟨w.heap.size + 1, 1, none⟩ = some (.slice ao2 len2 cap2) := r2.cell 1;have e5 : w2.cell? ⟨w.heap.size + 2, 0, none⟩ = some (.bool n3) := r3.cell 0;have e6 : w2.cell? ⟨w.heap.size + 2, 1, none⟩ = some (.slice ao3 len3 cap3) := r3.cell 1;have hb2 := r4.lt;have k0 : w.heap.size < w.heap.size + 3 := by omega
 have k1 : w.heap.size + 1 < w.heap.size + 3 := by omega
 have k2 : w.heap.size + 2 < w.heap.size + 3 := by omega
 have Hr4 := H5 r4;have hs2 : w.heap.size <= w2.heap.size := by omega
 have hbd : Below w.heap.size w w2.drew := hb.drew;clear r1 r2 r3 r4
 go_region_held3 (fun w' => w'.cell? ⟨w.heap.size, 0, none⟩ = some (.bool n) /\ w'.cell? ⟨w.heap.size, 1, none⟩ = some (.slice ao len cap) /\ w'.cell? ⟨w.heap.size + 1, 0, none⟩ = some (.bool n2) /\ w'.cell? ⟨w.heap.size + 1, 1, none⟩ = some (.slice ao2 len2 cap2) /\ w'.cell? ⟨w.heap.size + 2, 0, none⟩ = some (.bool n3) /\ w'.cell? ⟨w.heap.size + 2, 1, none⟩ = some (.slice ao3 len3 cap3))
  (first
   | exact ⟨e1, e2, e3, e4, e5, e6⟩
   | exact ⟨(hb3'.cell k0).trans e1, (hb3'.cell k0).trans e2, (hb3'.cell k1).trans e3, (hb3'.cell k1).trans e4, (hb3'.cell k2).trans e5, (hb3'.cell k2).trans e6⟩
   | exact ⟨(hb5.cell k0).trans e1, (hb5.cell k0).trans e2, (hb5.cell k1).trans e3, (hb5.cell k1).trans e4, (hb5.cell k2).trans e5, (hb5.cell k2).trans e6⟩
   | exact ⟨(((hb5.setCell (Ct _) _).setCell (Ct _) _).cell k0).trans e1, (((hb5.setCell (Ct _) _).setCell (Ct _) _).cell k0).trans e2, (((hb5.setCell (Ct _) _).setCell (Ct _) _).cell k1).trans e3, (((hb5.setCell (Ct _) _).setCell (Ct _) _).cell k1).trans e4, (((hb5.setCell (Ct _) _).setCell (Ct _) _).cell k2).trans e5, (((hb5.setCell (Ct _) _).setCell (Ct _) _).cell k2).trans e6⟩)
  (first
   | (go_at_call 23; refine (ib _ _ x y LA LB _ (by exact HA.out _ hbd) (by exact HB.out _ hbd) Cp).mono ?_; rintro e w3 ⟨⟨v3, rfl, hO⟩, hb3⟩; have HO := H5 (hO.int Hwz.out); have hb3' : Below (w.heap.size + 3) w2.drew w3 := hb3.mono (Dg hb2); have hb3w : Below w.heap.size w w3 := hbd.trans (hb3.mono hs2))
   | (go_at_call 54; refine (kt _ _ (x * y) z _ (by exact HO.out) (by exact HC.out _ hb3w)).mono ?_; rintro e w4 ⟨⟨v4, rfl, hO4⟩, hb4⟩; have hb5 : Below (w.heap.size + 3) w2.drew w4 := (hb3.trans (hb4.mono hb3.size)).mono (Dg hb2); have hr4 := (aa.below (w := w2.drew) Hr4.out hb3 hb2).below hb4 (CK hb2 hb3.size); have hf0 := hr4.free 0; have hf1 := hr4.free 1; have hc0 := hr4.cell 0; have hc1 := hr4.cell 1; have HO4 := H5 hO4; obtain ⟨ao', cap', rfl, -⟩ := hO4))
 go_wp2;have hr5 := hr4.lr (.bool (decide (x * y + z < 0))) (.slice ao' (ag (x * y + z).natAbs) cap');have hbf : Below w.heap.size w w4 := hb3w.trans (hb4.mono (Cw hs2 hb3.size));refine bodyPost_ret (ct (p := 6) (by kernel_rfl) _ _ (w.heap.size + 3) _ _ rfl hr5) rfl ?_;have hs3 : w2.heap.size <= w3.heap.size := hb3.size;have hI := HO4.out.mono (B' := w.heap.size + 4) Cp;exact ai.done hI Cp hbf
def aN (cs : List Value) : Prop := ∀ c ∈ cs, ∀ n, c ≠ .int .u64 n
theorem aN.nil : aN [] := fun c h => by cases h
theorem aN.bool {b : Bool} {cs : List Value} (h : aN cs) : aN (.bool b :: cs) := fun c hc n => by
 rcases List.mem_cons.1 hc with rfl | hc
 . simp
 . exact h c hc n
theorem aN.slice {ao : Option Addr} {l k : Nat} {cs : List Value} (h : aN cs) : aN (.slice ao l k :: cs) := fun c hc n => by
 rcases List.mem_cons.1 hc with rfl | hc
 . simp
 . exact h c hc n
theorem aN.two (b : Bool) (ao : Option Addr) (l k : Nat) : aN [.bool b, .slice ao l k] := aN.bool (aN.slice aN.nil)
theorem aN.append {a b : List Value} (ha : aN a) (hb : aN b) : aN (a ++ b) := fun c hc n => (List.mem_append.1 hc).elim (fun h => ha c h n) (fun h => hb c h n)
theorem cX.setRow {w : World} {ao : Option Addr} {ws : List Nat} (h : cX w ao ws) {g : Nat} {t : TypeId} {cs : List Value} (hr : aa w g t cs) (hn : aN cs) (i : Nat) (u : Value) : cX (w.setCell ⟨g, i, none⟩ u) ao ws := by
 refine ⟨h.1, fun hl => ?_⟩;obtain ⟨b, o, rfl, hb, hc⟩ := h.2 hl;have hne : b ≠ g := by
  rintro rfl;have h0 := hc 0 hl;rw [hr.cell] at h0;exact hn _ (Fe h0) _ rfl
 refine ⟨b, o, rfl, by simpa using hb, fun k hk => ?_⟩;rw [World.cell?_setCell_far _ _ _ _ (fun e => hne e.symm)];exact hc k hk
theorem ah.setRow {w : World} {L : Nat} {v : Value} {x : Int} (h : ah w L v x) {g : Nat} {t : TypeId} {cs : List Value} (hr : aa w g t cs) (hn : aN cs) (i : Nat) (u : Value) : ah (w.setCell ⟨g, i, none⟩ u) L v x := by
 obtain ⟨n, ao, len, cap, ws, rfl, hW, hl, hL, hc, hx⟩ := h;exact ⟨n, ao, len, cap, ws, rfl, hW.setRow hr hn i u, hl, hL, hc, hx⟩
theorem db.setRow {w : World} {B : Nat} {ao : Option Addr} {len cap : Nat} {ws : List Nat} (h : db w B ao len cap ws) {g : Nat} {t : TypeId} {cs : List Value} (hr : aa w g t cs) (ht : t ≠ 60) (i : Nat) (u : Value) : db (w.setCell ⟨g, i, none⟩ u) B ao len cap ws := by
 obtain ⟨h1, h2, h3, h4⟩ := h;refine ⟨h1, h2, h3, ?_⟩;rcases h4 with h0 | ⟨g', c, cur, hv, hbb, hg, r⟩
 . exact .inl h0
 . have hne : g' ≠ g := by
    rintro rfl;unfold aa at hr;rw [hg] at hr;simp only [Option.some.injEq, Obj.cells.injEq] at hr;exact ht hr.2.1.symm
   exact .inr ⟨g', c, cur, hv, hbb, by rw [Below.heap_setCell _ _ _ _ hne]; exact hg, r⟩
theorem ai.setRow {w : World} {B : Nat} {v : Value} {x : Int} (h : ai w B v x) {g : Nat} {t : TypeId} {cs : List Value} (hr : aa w g t cs) (ht : t ≠ 60) (i : Nat) (u : Value) : ai (w.setCell ⟨g, i, none⟩ u) B v x := by
 obtain ⟨ao, cap, rfl, hO⟩ := h;exact ⟨ao, cap, rfl, hO.setRow hr ht i u⟩
end Go.Proofs.YtjjlmfmoihooiaaGreat
namespace Go.Proofs.YtjjlmfmoihooiaaGreat
open Go
theorem pG {α} (p q : α -> Bool) (h : ∀ x, q x = true -> p x = true) (y : α) (hp : p y = true) (hq : q y = false) : ∀ l : List α, y ∈ l -> l.countP q < l.countP p
 | [], hm => by cases hm
 | x :: l, hm => by
  have hle : ∀ l : List α, l.countP q <= l.countP p := fun l => List.countP_mono_left (fun x _ => h x);rw [List.countP_cons, List.countP_cons];rcases List.mem_cons.1 hm with rfl | hm
  . rw [hp, hq]; have := hle l; simp; omega
  . have := pG p q h y hp hq l hm;cases hqx : q x
    . simp; omega
    . rw [h x hqx]; simp; omega
def gD (ops : Array Oper) (n : Nat) (L : Nat -> Bool) : Prop := ∀ k < n, L k = true -> ((ops[k]?).map (·.after.all fun e => !Region.binds .any e || L e.on)).getD false = true
theorem gD.add {ops : Array Oper} {n i : Nat} {L L' : Nat -> Bool} (h : gD ops n L) (hi : ((ops[i]?).map (·.after.all fun e => !Region.binds .any e || L e.on)).getD false = true) (hL : ∀ j, L' j = if j = i then true else L j) : gD ops n L' := by
 have mono : ∀ k : Nat, ((ops[k]?).map (·.after.all fun e => !Region.binds .any e || L e.on)).getD false = true -> ((ops[k]?).map (·.after.all fun e => !Region.binds .any e || L' e.on)).getD false = true := by
  intro k hk;cases ho : ops[k]? with
  | none => rw [ho] at hk; simp at hk
  | some o =>
   rw [ho] at hk;simp only [Option.map_some, Option.getD_some] at hk |-;rw [EK] at hk |-;intro m hm;have := hk m hm;simp only [EH] at this |-;refine this.imp id fun h => ?_;rw [hL]; split
   . rfl
   . exact h
 intro k hk hLk;rw [hL] at hLk;by_cases hki : k = i
 . subst hki; exact mono k hi
 . rw [if_neg hki] at hLk; exact mono k (h k hk hLk)
theorem wO {P : Program} {ops : Array Oper} {Q : Exit -> Act -> World -> Prop} {n : Nat} (hn : ops.size = n)
 (hb : ((List.range n).all fun i => ((ops[i]?).map (·.after.all fun e => !Region.binds .any e || decide (e.on < i))).getD false) = true)
 (F : (Nat -> Value) -> Act) (J : (Nat -> Bool) -> (Nat -> Value) -> World -> Prop)
 (hs : ∀ i < n, ∀ L x w, J L x w -> gD ops n L -> L i = false -> ((ops[i]?).map (·.after.all fun e => !Region.binds .any e || L e.on)).getD false = true -> wpOp P ops Q i (fun a' w' => ∃ x', a' = F x' /\ J (fun j => if j = i then true else L j) x' w') (F x) w)
 (hend : ∀ L x w, (∀ i < n, L i = true) -> J L x w -> Q .normal (F x) w) :
 ∀ (fuel : Nat) (listed : Array Bool) (x : Nat -> Value) (w : World), listed.size = n -> (List.range n).countP (fun i => !listed.getD i false) <= fuel -> gD ops n (fun j => listed.getD j false) -> J (fun j => listed.getD j false) x w -> wpAny P .any ops Q fuel listed (F x) w := by
 have hex : ∀ listed : Array Bool, listed.size = n -> Region.ready .any ops listed = [] -> ∀ i < n, listed.getD i false = true := by
  intro listed hsz hr i;induction i using Nat.strongRecOn with
  | _ i ih =>
   intro hi;by_cases h : listed.getD i false = true
   . exact h
   exfalso;have hm : i ∈ Region.ready .any ops listed := by
    simp only [Region.ready, E8, List.mem_range, hn, CO];refine ⟨hi, ?_, ?_⟩
    . simp only [DI] at h |-;rw [Array.getElem?_eq_getElem Cp] at h |-;simpa using h
    . have := List.all_eq_true.1 hb i (List.mem_range.2 hi);cases ho : ops[i]? with
      | none => rw [ho] at this; simp at this
      | some o =>
       rw [ho] at this;simp only [Option.map_some, Option.getD_some] at this |-;rw [EK] at this |-;intro k hk;have hlt := this k hk;simp only [EH, decide_eq_true_eq] at hlt |-;exact hlt.imp id fun hlt => ih _ hlt Cp
   rw [hr] at hm; cases hm
 intro fuel;induction fuel with
 | zero =>
  intro listed x w hsz hf hG hJ;have hr : Region.ready .any ops listed = [] := by
   refine List.eq_nil_iff_forall_not_mem.2 fun i hi => ?_;simp only [Region.ready, E8, List.mem_range, hn, CO] at hi;have : 0 < (List.range n).countP (fun i => !listed.getD i false) := List.countP_pos_iff.2 ⟨i, List.mem_range.2 hi.1, by
    have h1 := hi.2.1;simp only [DI] at h1 |-;rw [Array.getElem?_eq_getElem Cp] at h1 |-;simpa using h1⟩
   omega
  exact ⟨hr, hend _ x w (hex listed hsz hr) hJ⟩
 | succ fuel ih =>
  intro listed x w hsz hf hG hJ;refine ⟨fun hr => hend _ x w (hex listed hsz hr) hJ, fun i hi => ?_⟩;simp only [Region.ready, E8, List.mem_range, hn, CO] at hi;have hfi : listed.getD i false = false := by
   have h1 := hi.2.1;simp only [DI] at h1 |-;rw [Array.getElem?_eq_getElem Cp] at h1 |-;simpa using h1
  refine wpOp_mono ?_ (hs i hi.1 _ x w hJ hG hfi hi.2.2);rintro a' w' ⟨x', rfl, hJ'⟩;have e : (fun j => if j = i then true else listed.getD j false) = fun j => (listed.setIfInBounds i true).getD j false := by
   funext j;by_cases hj : j = i
   . subst hj; simp [DI, Array.getElem?_setIfInBounds, hsz, hi.1]
   . simp [DI, Array.getElem?_setIfInBounds, hj, Ne.symm hj]
  rw [e] at hJ';refine ih _ x' w' (by simp [hsz]) ?_ (hG.add hi.2.2 (fun j => (congrFun e j).symm)) hJ';have := pG (fun i => !listed.getD i false) (fun j => !(listed.setIfInBounds i true).getD j false) (by
   intro j hj;rw [<- congrFun e j] at hj;by_cases hji : j = i
   . simp [hji] at hj
   . simpa [hji] using hj) i (by simp [hfi]) (by rw [<- congrFun e i]; simp) (List.range n) (List.mem_range.2 hi.1)
  omega
theorem uO {P : Program} {ops : Array Oper} {Q : Exit -> Act -> World -> Prop} {n : Nat} {a : Act} {w : World} (hn : ops.size = n)
 (hb : ((List.range n).all fun i => ((ops[i]?).map (·.after.all fun e => !Region.binds .any e || decide (e.on < i))).getD false) = true)
 (F : (Nat -> Value) -> Act) (J : (Nat -> Bool) -> (Nat -> Value) -> World -> Prop) (x0 : Nat -> Value) (ha : a = F x0)
 (h0 : J (fun _ => false) x0 w.drew)
 (hs : ∀ i < n, ∀ L x w, J L x w -> gD ops n L -> L i = false -> ((ops[i]?).map (·.after.all fun e => !Region.binds .any e || L e.on)).getD false = true -> wpOp P ops Q i (fun a' w' => ∃ x', a' = F x' /\ J (fun j => if j = i then true else L j) x' w') (F x) w)
 (hend : ∀ L x w, (∀ i < n, L i = true) -> J L x w -> Q .normal (F x) w) : wpAny P .any ops Q ops.size (Array.replicate ops.size false) a w.drew := by
 subst ha;refine wO hn hb F J hs hend _ _ x0 _ (by simp [hn]) ?_ ?_ ?_
 . exact Cw List.countP_le_length (by simp [hn])
 . intro k _ hk;simp only [DI, Array.getElem?_replicate] at hk;split at hk <;> simp at hk
 . have e : (fun j => (Array.replicate ops.size false).getD j false) = fun _ => false := by
    funext j; simp [DI, Array.getElem?_replicate]; split <;> rfl
   rw [e]; exact h0
theorem gZ {P : Program} {ops : Array Oper} {Q : Exit -> Act -> World -> Prop} {id n : Nat} {a : Act} {w : World} (hm : P.follows .mixedOrders = true) (hn : ops.size = n)
 (hb : ((List.range n).all fun i => ((ops[i]?).map (·.after.all fun e => !Region.binds .any e || decide (e.on < i))).getD false) = true)
 (F : (Nat -> Value) -> Act) (J : (Nat -> Bool) -> (Nat -> Value) -> World -> Prop) (x0 : Nat -> Value) (ha : a = F x0)
 (h0 : J (fun _ => false) x0 w.drew)
 (hs : ∀ i < n, ∀ L x w, J L x w -> gD ops n L -> L i = false -> ((ops[i]?).map (·.after.all fun e => !Region.binds .any e || L e.on)).getD false = true -> wpOp P ops Q i (fun a' w' => ∃ x', a' = F x' /\ J (fun j => if j = i then true else L j) x' w') (F x) w)
 (hend : ∀ L x w, (∀ i < n, L i = true) -> J L x w -> Q .normal (F x) w) : (Code.region id ops true).wp P Q a w := wp_region_any hm (uO hn hb F J x0 ha h0 hs hend)
end Go.Proofs.YtjjlmfmoihooiaaGreat
namespace Go.Proofs.YtjjlmfmoihooiaaGreat
open Go.RowKit
theorem aN.set {cs : List Value} (h : aN cs) (i : Nat) {u : Value} (hu : ∀ n, u ≠ .int .u64 n) : aN (cs.set i u) := fun c hc n => by
 rcases EF hc with hc | rfl
 . exact h c hc n
 . exact hu n
structure AV where
 holds : World -> Value -> Prop
 below : ∀ {w w' : World} {v : Value}, holds w v -> Below w.heap.size w w' -> holds w' v
 ban : TypeId -> Bool
 set : ∀ {w : World} {v : Value} {g : Nat} {t : TypeId} {cs : List Value}, holds w v -> aa w g t cs -> aN cs -> t ≠ 60 -> ban t = false -> ∀ (k : Nat) (u : Value), (∀ n, u ≠ .int .u64 n) -> holds (w.setCell ⟨g, k, none⟩ u) v
def AV.free (holds : World -> Value -> Prop) (below : ∀ {w w' : World} {v : Value}, holds w v -> Below w.heap.size w w' -> holds w' v)
 (set : ∀ {w : World} {v : Value} {g : Nat} {t : TypeId} {cs : List Value}, holds w v -> aa w g t cs -> aN cs -> t ≠ 60 -> ∀ (k : Nat) (u : Value), (∀ n, u ≠ .int .u64 n) -> holds (w.setCell ⟨g, k, none⟩ u) v) : AV :=
 ⟨holds, below, fun _ => false, fun h hr hn ht _ k u hu => set h hr hn ht k u hu⟩
def AV.any : AV := AV.free (fun _ _ => True) (fun _ _ => trivial) (fun _ _ _ _ _ _ _ => trivial)
def AV.val (u : Value) : AV := AV.free (fun _ v => v = u) (fun h _ => h) (fun h _ _ _ _ _ _ => h)
def AV.int (B : Nat) (x : Int) : AV := AV.free (fun w v => ai w B v x) (fun h hb => ai.below h hb) (fun h hr _ ht k u _ => ai.setRow h hr ht k u)
def AV.at_ (L : Nat) (x : Int) : AV := AV.free (fun w v => ah w L v x) (fun h hb => ah.below h hb) (fun h hr hn _ k u _ => ah.setRow h hr hn k u)
def AV.ptr (B : Nat) (t : TypeId) (n : Nat) : AV := AV.free (fun w v => ∃ g cs, v = .pointer (some ⟨g, 0, none⟩) /\ B <= g /\ aa w g t cs /\ aN cs /\ cs.length = n) (fun ⟨g, cs, e, hB, hr, hn, hl⟩ hb => ⟨g, cs, e, hB, hr.below hb hr.lt, hn, hl⟩) (fun {_ _ g' _ _} ⟨g, cs, e, hB, hr, hn, hl⟩ hr' _ _ k u hu => by
 by_cases hg : g = g'
 . subst hg; exact ⟨g, cs.set k u, e, hB, hr.set k u, hn.set k hu, by simpa using hl⟩
 . exact ⟨g, cs, e, hB, hr.other hg u, hn, hl⟩)
structure CV where
 holds : World -> List Value -> Prop
 below : ∀ {w w' : World} {v : List Value}, holds w v -> Below w.heap.size w w' -> holds w' v
 ban : TypeId -> Bool
 set : ∀ {w : World} {v : List Value} {g : Nat} {t : TypeId} {cs : List Value}, holds w v -> aa w g t cs -> aN cs -> t ≠ 60 -> ban t = false -> ∀ (k : Nat) (u : Value), (∀ n, u ≠ .int .u64 n) -> holds (w.setCell ⟨g, k, none⟩ u) v
def CV.free (holds : World -> List Value -> Prop) (below : ∀ {w w' : World} {v : List Value}, holds w v -> Below w.heap.size w w' -> holds w' v)
 (set : ∀ {w : World} {v : List Value} {g : Nat} {t : TypeId} {cs : List Value}, holds w v -> aa w g t cs -> aN cs -> t ≠ 60 -> ∀ (k : Nat) (u : Value), (∀ n, u ≠ .int .u64 n) -> holds (w.setCell ⟨g, k, none⟩ u) v) : CV :=
 ⟨holds, below, fun _ => false, fun h hr hn ht _ k u hu => set h hr hn ht k u hu⟩
def CV.int (B : Nat) (x : Int) : CV := CV.free (fun w cs => ∃ b ao l k, cs = [.bool b, .slice ao l k] /\ ai w B (.agg #[.bool b, .slice ao l k]) x) (fun ⟨b, ao, l, k, e, h⟩ hb => ⟨b, ao, l, k, e, ai.below h hb⟩) (fun ⟨b, ao, l, k, e, h⟩ hr _ ht j u _ => ⟨b, ao, l, k, e, ai.setRow h hr ht j u⟩)
def eG (w : World) (g : Nat) : Nat -> List Value -> World
 | _, [] => w
 | k, u :: us => eG (w.setCell ⟨g, k, none⟩ u) g (k + 1) us
theorem aN.tail {u : Value} {us : List Value} (h : aN (u :: us)) : aN us := fun c hc => h c (CB _ hc)
theorem aN.head {u : Value} {us : List Value} (h : aN (u :: us)) : ∀ n, u ≠ .int .u64 n := h u (CC ..)
theorem aa.eG {g : Nat} {t : TypeId} : ∀ (us : List Value) (k : Nat) {w : World} {cs : List Value}, aa w g t cs -> k + us.length = cs.length -> aa (eG w g k us) g t (cs.take k ++ us)
 | [], k, w, cs, h, hl => by
  rw [DZ, CJ (by simp at hl; omega)]; exact h
 | u :: us, k, w, cs, h, hl => by
  have h1 := aa.eG us (k + 1) (h.set k u) (by simp at hl |-; omega);have e : (cs.set k u).take (k + 1) = cs.take k ++ [u] := by
   simp at hl;rw [Ei (by simp; omega), List.take_set_of_le (Ct _)];simp
  rw [e] at h1;simpa [Go.Proofs.YtjjlmfmoihooiaaGreat.eG] using h1
theorem AV.lF (a : AV) {v : Value} {g : Nat} {t : TypeId} (ht : t ≠ 60) (hb : a.ban t = false) : ∀ (us : List Value) (k : Nat) {w : World} {cs : List Value}, a.holds w v -> aa w g t cs -> aN cs -> aN us -> a.holds (eG w g k us) v
 | [], k, w, cs, h, _, _, _ => h
 | u :: us, k, w, cs, h, hr, hn, hu => AV.lF a ht hb us (k + 1) (a.set h hr hn ht hb k u hu.head) (hr.set k u) (hn.set k hu.head) hu.tail
theorem CV.lF (a : CV) {v : List Value} {g : Nat} {t : TypeId} (ht : t ≠ 60) (hb : a.ban t = false) : ∀ (us : List Value) (k : Nat) {w : World} {cs : List Value}, a.holds w v -> aa w g t cs -> aN cs -> aN us -> a.holds (Go.Proofs.YtjjlmfmoihooiaaGreat.eG w g k us) v
 | [], k, w, cs, h, _, _, _ => h
 | u :: us, k, w, cs, h, hr, hn, hu => CV.lF a ht hb us (k + 1) (a.set h hr hn ht hb k u hu.head) (hr.set k u) (hn.set k hu.head) hu.tail
theorem aa.fS {b g : Nat} {t : TypeId} (hne : b ≠ g) : ∀ (us : List Value) (k : Nat) {w : World} {cs : List Value}, aa w b t cs -> aa (Go.Proofs.YtjjlmfmoihooiaaGreat.eG w g k us) b t cs
 | [], k, w, cs, h => h
 | u :: us, k, w, cs, h => aa.fS hne us (k + 1) (h.other hne u)
theorem lv {B g : Nat} (hg : B <= g) : ∀ (us : List Value) (k : Nat) {w w' : World}, Below B w w' -> Below B w (eG w' g k us)
 | [], k, w, w', h => h
 | u :: us, k, w, w', h => lv hg us (k + 1) (h.setCell (p := ⟨g, k, none⟩) hg u)
theorem mA {g : Nat} {a : Addr} (hne : g ≠ a.block) : ∀ (us : List Value) (k : Nat) {w : World}, (eG w g k us).cell? a = w.cell? a
 | [], k, w => rfl
 | u :: us, k, w => (mA hne us (k + 1)).trans (World.cell?_setCell_far _ _ _ _ hne)
theorem mm {g : Nat} : ∀ (us : List Value) (k : Nat) {w : World}, (eG w g k us).heap.size = w.heap.size
 | [], k, w => rfl
 | u :: us, k, w => (mm us (k + 1)).trans Cq
def fs (L : Nat -> Bool) (i : Nat) : Nat -> Bool := fun j => if j = i then true else L j
def bD (x : Nat -> Value) (d : Nat) (v : Value) : Nat -> Value := fun j => if j = d then v else x j
theorem aH {x : Nat -> Value} {d : Nat} {v : Value} (h : x d = v) : x = bD x d v := by
 funext k; unfold bD; split
 . rename_i e; rw [e, h]
 . rfl
structure RD where
 n : Nat
 dst : Nat -> Nat
 av : Nat -> AV
 tg : List (Nat × Nat × AV)
 bs : List (Value × AV)
 rows : List (Nat × TypeId × List Value)
 nw : List (Nat × Nat × TypeId × CV)
 cells : List (Addr × Value)
 al : List (Nat × Nat)
def RD.okB (d : RD) (t : TypeId) : Bool := (List.range d.n).all (fun i => !(d.av i).ban t) && d.tg.all (fun q => !q.2.2.ban t) && d.bs.all (fun p => !p.2.ban t) && d.nw.all (fun q => !q.2.2.2.ban t)
theorem RD.okB.all {d : RD} {t : TypeId} (h : d.okB t = true) : (∀ i, i < d.n -> (d.av i).ban t = false) /\ (∀ q ∈ d.tg, q.2.2.ban t = false) /\ (∀ p ∈ d.bs, p.2.ban t = false) /\ ∀ q ∈ d.nw, q.2.2.2.ban t = false := by
 unfold RD.okB at h;simp only [CO, List.all_eq_true, DE, List.mem_range] at h;exact ⟨h.1.1.1, h.1.1.2, h.1.2, h.2⟩
structure RD.J (d : RD) (g0 B : Nat) (w0 : World) (L : Nat -> Bool) (x : Nat -> Value) (w : World) : Prop where
 fr : Below g0 w0 w
 size : B <= w.heap.size
 base : ∀ p ∈ d.bs, p.2.holds w p.1
 rows : ∀ p ∈ d.rows, aa w p.1 p.2.1 p.2.2 /\ p.1 < B /\ ∀ t ∈ d.tg, p.1 ≠ t.2.1
 cells : ∀ p ∈ d.cells, w.cell? p.1 = some p.2 /\ p.1.block < B /\ ∀ t ∈ d.tg, p.1.block ≠ t.2.1
 slot : ∀ i, i < d.n -> L i = true -> (d.av i).holds w (x (d.dst i))
 tgt : ∀ t ∈ d.tg, g0 <= t.2.1 /\ t.2.1 < B /\ ∃ n ao l k, aa w t.2.1 37 [.bool n, .slice ao l k] /\ (L t.1 = true -> t.2.2.holds w (.agg #[.bool n, .slice ao l k]))
 apart : ∀ p ∈ d.al, ∀ q ∈ d.al, p.1 ≠ q.1 -> L p.1 = true -> L q.1 = true -> x p.2 ≠ x q.2
 new : ∀ t ∈ d.nw, L t.1 = true -> ∃ g cs, x t.2.1 = .pointer (some ⟨g, 0, none⟩) /\ B <= g /\ aa w g t.2.2.1 cs /\ t.2.2.2.holds w cs
theorem RD.J.grow {d : RD} {g0 B : Nat} {w0 w w' : World} {L : Nat -> Bool} {x : Nat -> Value} (h : d.J g0 B w0 L x w) (i : Nat) (hi : i < d.n) (v : Value)
 (hd : ((List.range d.n).all fun j => d.dst j != d.dst i || j == i) = true) (ht : (d.tg.all fun t => t.1 != i) = true) (hnw : ∀ t ∈ d.nw, t.1 ≠ i /\ (t.2.1 = d.dst i -> L t.1 = false)) (hal : ∀ p ∈ d.al, (p.1 = i ↔ p.2 = d.dst i) /\ (p.1 = i -> ∀ q ∈ d.al, q.1 ≠ i -> L q.1 = true -> v ≠ x q.2)) (hb : Below w.heap.size w w') (hv : (d.av i).holds w' v) (hg : g0 <= w.heap.size) :
 d.J g0 B w0 (fs L i) (bD x (d.dst i) v) w' := by
 refine ⟨h.fr.trans (hb.mono hg), Cw h.size hb.size, fun p hp => AV.below _ (h.base p hp) hb, fun p hp => ⟨(h.rows p hp).1.below hb (h.rows p hp).1.lt, (h.rows p hp).2⟩, fun p hp => ⟨(hb.cell (CK (h.cells p hp).2.1 h.size)).trans (h.cells p hp).1, (h.cells p hp).2⟩, fun j hj hL => ?_, fun t ht' => ?_, fun p hp q hq hpq hLp hLq => ?_, fun t ht' hL => ?_⟩
 . unfold bD;by_cases hji : j = i
   . subst hji; rw [if_pos rfl]; exact hv
   . have := List.all_eq_true.1 hd j (List.mem_range.2 hj);simp only [EH, bne_iff_ne, beq_iff_eq] at this;rw [if_neg (this.resolve_right hji)];unfold fs at hL;rw [if_neg hji] at hL;exact AV.below _ (h.slot j hj hL) hb
 . obtain ⟨h1, h2, a, b, l, k, hr, hc⟩ := h.tgt t ht';refine ⟨h1, h2, a, b, l, k, hr.below hb hr.lt, fun hL => ?_⟩;have hne := List.all_eq_true.1 ht t ht';simp only [bne_iff_ne] at hne;unfold fs at hL;rw [if_neg hne] at hL;exact AV.below _ (hc hL) hb
 . unfold fs at hLp hLq;unfold bD;by_cases hpi : p.1 = i
   . have hqi : q.1 ≠ i := fun e => hpq (hpi.trans e.symm);rw [if_neg hqi] at hLq;rw [if_pos ((hal p hp).1.1 hpi), if_neg (fun e => hqi ((hal q hq).1.2 e))];exact (hal p hp).2 hpi q hq hqi hLq
   . rw [if_neg hpi] at hLp;by_cases hqi : q.1 = i
     . rw [if_pos ((hal q hq).1.1 hqi), if_neg (fun e => hpi ((hal p hp).1.2 e))];exact fun e => (hal q hq).2 hqi p hp hpi hLp e.symm
     . rw [if_neg hqi] at hLq;rw [if_neg (fun e => hpi ((hal p hp).1.2 e)), if_neg (fun e => hqi ((hal q hq).1.2 e))];exact h.apart p hp q hq hpq hLp hLq
 . have hne := hnw t ht';unfold fs at hL;rw [if_neg hne.1] at hL;obtain ⟨g, cs, e, hB, hr, hc⟩ := h.new t ht' hL;refine ⟨g, cs, ?_, hB, hr.below hb hr.lt, CV.below _ hc hb⟩;unfold bD;rw [if_neg (fun e2 => by rw [hne.2 e2] at hL; cases hL)];exact e
theorem RD.J.growB {d : RD} {g0 B : Nat} {w0 w w' : World} {L : Nat -> Bool} {x : Nat -> Value} (h : d.J g0 B w0 L x w) (i : Nat) (hi : i < d.n) (v : Value)
 (hd : ((List.range d.n).all fun j => d.dst j != d.dst i || j == i) = true) (ht : (d.tg.all fun t => t.1 != i) = true) (hk : (d.nw.all (fun t => t.1 != i && t.2.1 != d.dst i) && d.al.all (fun p => p.1 != i && p.2 != d.dst i)) = true) (hb : Below w.heap.size w w') (hv : (d.av i).holds w' v) (hg : g0 <= w.heap.size) :
 d.J g0 B w0 (fs L i) (bD x (d.dst i) v) w' := by
 simp only [CO, List.all_eq_true, bne_iff_ne] at hk;exact h.grow i hi v hd ht (fun t ht => ⟨(hk.1 t ht).1, fun e => absurd e (hk.1 t ht).2⟩) (fun p hp => ⟨⟨fun e => absurd e (hk.2 p hp).1, fun e => absurd e (hk.2 p hp).2⟩, fun e => absurd e (hk.2 p hp).1⟩) hb hv hg
theorem RD.J.fD {d : RD} {g0 B : Nat} {w0 w : World} {L : Nat -> Bool} {x : Nat -> Value} (h : d.J g0 B w0 L x w) (i s : Nat) (t : TypeId) (A : CV) (hi : i < d.n) (hav : d.av i = .any) (hm : (i, s, t, A) ∈ d.nw) (hu1 : ∀ t' ∈ d.nw, t'.1 = i -> t' = (i, s, t, A)) (hap : ∀ t' ∈ d.nw, t'.1 ≠ i -> L t'.1 = true -> x t'.2.1 ≠ x s) (hal : (d.al.all fun t => t.1 != i) = true) (htg : (d.tg.all fun t => t.1 != i) = true) (ht : t ≠ 60)
 {g : Nat} {cs us : List Value} (hx : x s = .pointer (some ⟨g, 0, none⟩)) (hB : B <= g) (hr : aa w g t cs) (hn : aN cs) (hl : us.length = cs.length) (hu : aN us) (hv : A.holds w us) (hg : g0 <= B) (hban : d.okB t = true := by kernel_rfl) :
 d.J g0 B w0 (fs L i) x (eG w g 0 us) := by
 have hO := RD.okB.all hban;have T : ∀ (a : AV) (v : Value), a.ban t = false -> a.holds w v -> a.holds (eG w g 0 us) v := fun a v hb hh => AV.lF a ht hb _ 0 hh hr hn hu;have T' : ∀ (a : CV) (v : List Value), a.ban t = false -> a.holds w v -> a.holds (eG w g 0 us) v := fun a v hb hh => CV.lF a ht hb _ 0 hh hr hn hu;refine ⟨lv Cp _ _ h.fr, by rw [mm]; exact h.size, fun p hp => T _ _ (hO.2.2.1 p hp) (h.base p hp), fun p hp => ⟨aa.fS (by have := (h.rows p hp).2.1; omega) _ _ (h.rows p hp).1, (h.rows p hp).2⟩, fun p hp => ⟨(mA (by have := (h.cells p hp).2.1; omega) _ _).trans (h.cells p hp).1, (h.cells p hp).2⟩, fun j hj hL => ?_, fun t' ht' => ?_, fun p hp q hq hpq hLp hLq => ?_, fun t' ht' hL => ?_⟩
 . by_cases hji : j = i
   . subst hji; rw [hav]; exact trivial
   . unfold fs at hL;rw [if_neg hji] at hL;exact T _ _ (hO.1 j hj) (h.slot j hj hL)
 . obtain ⟨h1, h2, a, b, l', k', hr', hc⟩ := h.tgt t' ht';refine ⟨h1, h2, a, b, l', k', aa.fS Cp _ _ hr', fun hL => ?_⟩;have hne := List.all_eq_true.1 htg t' ht';simp only [bne_iff_ne] at hne;unfold fs at hL;rw [if_neg hne] at hL;exact T _ _ (hO.2.1 t' ht') (hc hL)
 . have h1 := List.all_eq_true.1 hal p hp;have h2 := List.all_eq_true.1 hal q hq;simp only [bne_iff_ne] at h1 h2;unfold fs at hLp hLq;rw [if_neg h1] at hLp;rw [if_neg h2] at hLq;exact h.apart p hp q hq hpq hLp hLq
 . by_cases hti : t'.1 = i
   . obtain rfl := hu1 t' ht' hti;have := aa.eG us 0 hr Cp;exact ⟨g, us, hx, hB, by simpa using this, T' _ _ (hO.2.2.2 _ hm) hv⟩
   . unfold fs at hL;rw [if_neg hti] at hL;obtain ⟨g', cs', e, hB', hr', hc⟩ := h.new t' ht' hL;have hgg : g' ≠ g := by
      rintro rfl;exact hap t' ht' hti hL (e.trans hx.symm)
     exact ⟨g', cs', e, hB', aa.fS hgg _ _ hr', T' _ _ (hO.2.2.2 t' ht') hc⟩
theorem mo {cs : List Value} (h : cs.length = 2) : ∃ a b, cs = [a, b] := by
 match cs, h with
 | [a, b], _ => exact ⟨a, b, rfl⟩
theorem gM {α : Type} {a : α} {l : List α} : a ∈ a :: l := CC ..
theorem jk {α : Type} {a b0 : α} {l : List α} : a ∈ b0 :: a :: l := CB _ gM
theorem r8 {α : Type} {a b0 b1 : α} {l : List α} : a ∈ b0 :: b1 :: a :: l := CB _ jk
theorem wR {α : Type} {a b0 b1 b2 : α} {l : List α} : a ∈ b0 :: b1 :: b2 :: a :: l := CB _ r8
theorem mm4 {α : Type} {a b0 b1 b2 b3 : α} {l : List α} : a ∈ b0 :: b1 :: b2 :: b3 :: a :: l := CB _ wR
theorem mm5 {α : Type} {a b0 b1 b2 b3 b4 : α} {l : List α} : a ∈ b0 :: b1 :: b2 :: b3 :: b4 :: a :: l := CB _ mm4
theorem mm6 {α : Type} {a b0 b1 b2 b3 b4 b5 : α} {l : List α} : a ∈ b0 :: b1 :: b2 :: b3 :: b4 :: b5 :: a :: l := CB _ mm5
theorem mc {α : Type} {a b : α} {l : List α} (h : a ∈ b :: l) : a = b \/ a ∈ l := List.mem_cons.1 h
def cS (a : Act) (x : Nat -> Value) (ds : List Nat) : Act := ds.foldl (fun b d => b.put (some d) (x d)) a
theorem pN : (∀ (a : Act) (x : Nat -> Value), cS a x [] = a) /\ (∀ (a : Act) (x : Nat -> Value) (d : Nat) (ds : List Nat), cS a x (d :: ds) = cS (a.put (some d) (x d)) x ds) /\
 (∀ (l : List Value) (df : List Deferred) (d : Nat) (v : Value), Act.put ⟨l.toArray, df⟩ (some d) v = ⟨(l.set d v).toArray, df⟩) /\ (∀ (x : Nat -> Value) (d : Nat) (v : Value) (j : Nat), bD x d v j = if j = d then v else x j) /\
 (∀ (a b : Value) (l : List Value), (a :: l).set 0 b = b :: l) /\ (∀ (a b : Value) (l : List Value) (n : Nat), (a :: l).set (n + 1) b = a :: l.set n b) :=
 ⟨fun _ _ => rfl, fun _ _ _ _ => rfl, fun l df d v => by simp [Act.put], fun _ _ _ _ => rfl, fun _ _ _ => rfl, fun _ _ _ _ => rfl⟩
attribute [go_sem] pN
theorem aX {P : Program} {ops : Array Oper} {Q : Exit -> Act -> World -> Prop} {i : Nat} {o : Oper} {K : Act -> World -> Prop} {a : Act} {w : World} (ho : ops[i]? = some o)
 (h : ∀ K' : Act -> World -> Prop, (∀ a w, K a w -> K' a w) -> if Region.wanted o (yielded ops a.tmps) = true then Oper.wp P o a w K' Q else K' (a.put o.dst undef) w) : wpOp P ops Q i K a w := wpOp_step ho h
theorem RD.J.pt {d : RD} {g0 B : Nat} {w0 w : World} {L : Nat -> Bool} {x : Nat -> Value} (h : d.J g0 B w0 L x w) (i s : Nat) (v : Value) (hi : Nat.blt i d.n = true) (hs : d.dst i = s) (ha : d.av i = .val v) (hL : L i = true) : x = bD x s v := by
 have e := h.slot i (CR hi) hL;rw [ha, hs] at e;exact aH e
theorem RD.J.gC {d : RD} {g0 B : Nat} {w0 w w' : World} {L : Nat -> Bool} {x : Nat -> Value} (h : d.J g0 B w0 L x w) (i : Nat) (hi : Nat.blt i d.n = true) {v : Value}
 (hk : (((List.range d.n).all fun j => d.dst j != d.dst i || j == i) && (d.tg.all fun t => t.1 != i) && (d.nw.all (fun t => t.1 != i && t.2.1 != d.dst i) && d.al.all (fun p => p.1 != i && p.2 != d.dst i))) = true) (hb : Below w.heap.size w w') (hv : (d.av i).holds w' v) (hg : g0 <= B) :
 d.J g0 B w0 (fs L i) (bD x (d.dst i) v) w' := by
 rw [CO, CO] at hk;exact h.growB i (CR hi) v hk.1.1 hk.1.2 hk.2 hb hv (Cw hg h.size)
theorem RD.J.pC {d : RD} {g0 B : Nat} {w0 w : World} {L : Nat -> Bool} {x : Nat -> Value} (h : d.J g0 B w0 L x w) (i : Nat) (hi : Nat.blt i d.n = true) {v : Value}
 (hk : (((List.range d.n).all fun j => d.dst j != d.dst i || j == i) && (d.tg.all fun t => t.1 != i) && (d.nw.all (fun t => t.1 != i && t.2.1 != d.dst i) && d.al.all (fun p => p.1 != i && p.2 != d.dst i))) = true) (hv : (d.av i).holds w v) (hg : g0 <= B) :
 d.J g0 B w0 (fs L i) (bD x (d.dst i) v) w := h.gC i hi hk (Below.refl _ _) hv hg
theorem RD.J.q {d : RD} {g0 B : Nat} {w0 w : World} {L : Nat -> Bool} {x : Nat -> Value} (h : d.J g0 B w0 L x w) {A a : Act} {ds : List Nat} {i : Nat} {K : Act -> World -> Prop} (hK : ∀ a w, (∃ x', a = cS A x' ds /\ d.J g0 B w0 (fs L i) x' w) -> K a w) {v : Value}
 (hk : (Nat.blt i d.n && (((List.range d.n).all fun j => d.dst j != d.dst i || j == i) && (d.tg.all fun t => t.1 != i) && (d.nw.all (fun t => t.1 != i && t.2.1 != d.dst i) && d.al.all (fun p => p.1 != i && p.2 != d.dst i)))) = true) (hv : (d.av i).holds w v) (ha : a = cS A (bD x (d.dst i) v) ds := by kernel_rfl) (hg : g0 <= B := by omega) : K a w := by
 rw [CO] at hk;exact hK _ _ ⟨_, ha, h.pC i hk.1 hk.2 hv hg⟩
theorem aj {p : Nat -> Prop} {i : Nat} {l : List Nat} (h : p i) (hs : ∀ j ∈ l, p j) : ∀ j ∈ i :: l, p j := fun j hj => by
 rcases List.mem_cons.1 hj with rfl | hj
 . exact h
 . exact hs j hj
theorem lk {p : Nat -> Prop} : ∀ j ∈ ([] : List Nat), p j := fun _ h => by cases h
def dC (ops : Array Oper) (i : Nat) : List Nat := ((ops[i]?).map fun o => (o.after.toList.filter (Region.binds .any)).map (·.on)).getD []
def noD (ops : Array Oper) (i : Nat) : Bool := ((ops[i]?).map fun o => o.after.all fun e => match e.ground with | .data => false | _ => true).getD false
theorem tN {ops : Array Oper} {i : Nat} {L : Nat -> Bool} (_ : ∀ j ∈ dC ops i, L j = true) (_ : noD ops i = true) : True := trivial
theorem eK (d : RD) (ds : List Nat) {P : Program} {ops : Array Oper} {Q : Exit -> Act -> World -> Prop} {id : Nat} {a : Act} {w : World} (g0 : Nat) (hm : P.follows .mixedOrders = true) (hn : ops.size = d.n)
 (hb : ((List.range d.n).all fun i => ((ops[i]?).map (·.after.all fun e => !Region.binds .any e || decide (e.on < i))).getD false) = true)
 (hF : a = cS a (fun k => a.tmps.getD k undef) ds)
 (hbs : ∀ p ∈ d.bs, p.2.holds w.drew p.1) (hrw : ∀ p ∈ d.rows, aa w p.1 p.2.1 p.2.2 /\ p.1 < w.heap.size /\ ∀ t ∈ d.tg, p.1 ≠ t.2.1) (hcl : ∀ p ∈ d.cells, w.cell? p.1 = some p.2 /\ p.1.block < w.heap.size /\ ∀ t ∈ d.tg, p.1.block ≠ t.2.1) (ht : ∀ t ∈ d.tg, g0 <= t.2.1 /\ t.2.1 < w.heap.size /\ ∃ n ao l k, aa w t.2.1 37 [.bool n, .slice ao l k])
 (hs : ∀ i ∈ List.range d.n, ∀ L x w', d.J g0 w.heap.size w.drew L x w' -> L i = false -> (∀ j ∈ dC ops i, L j = true) -> (∀ k < d.n, L k = true -> ∀ j ∈ dC ops k, L j = true) -> wpOp P ops Q i (fun a' w'' => ∃ x', a' = cS a x' ds /\ d.J g0 w.heap.size w.drew (fs L i) x' w'') (cS a x ds) w')
 (hend : ∀ L x w', (∀ i < d.n, L i = true) -> d.J g0 w.heap.size w.drew L x w' -> Q .normal (cS a x ds) w') : (Code.region id ops true).wp P Q a w := by
 have hpre : ∀ (L : Nat -> Bool) (i : Nat), ((ops[i]?).map (·.after.all fun e => !Region.binds .any e || L e.on)).getD false = true -> ∀ j ∈ dC ops i, L j = true := by
  intro L i hp j hj;unfold dC at hj;cases ho : ops[i]? with
  | none => rw [ho] at hj; simp at hj
  | some o =>
   rw [ho] at hp hj;simp only [Option.map_some, Option.getD_some, List.mem_map, E8] at hj hp;obtain ⟨e, ⟨he, hbd⟩, rfl⟩ := hj;rw [EK] at hp;obtain ⟨k, hk, rfl⟩ := Array.mem_iff_getElem.1 (Array.mem_def.2 he);have := hp k hk;rw [hbd] at this;simpa using this
 refine gZ hm hn hb (fun x => cS a x ds) (d.J g0 w.heap.size w.drew) (fun k => a.tmps.getD k undef) hF ?_ (fun i hi L x w' hJ hG hL hp => hs i (List.mem_range.2 hi) L x w' hJ hL (hpre L i hp) (fun k hk hLk => hpre L k (hG k hk hLk))) hend;refine ⟨Below.refl _ _, Ct _, hbs, hrw, hcl, fun i _ h => by simp at h, fun t h => ?_, fun _ _ _ _ _ h => by simp at h, fun _ _ h => by simp at h⟩;obtain ⟨h1, h2, a, b, l, k, hr⟩ := ht t h;exact ⟨h1, h2, a, b, l, k, hr, fun h => by simp at h⟩
theorem bO {α : Type} {Q : α -> Prop} {a : α} {l : List α} (h : Q a) (hs : ∀ p ∈ l, Q p) : ∀ p ∈ a :: l, Q p := fun p hp => by
 rcases List.mem_cons.1 hp with rfl | hp
 . exact h
 . exact hs p hp
theorem bf {α : Type} {Q : α -> Prop} : ∀ p ∈ ([] : List α), Q p := fun _ h => by cases h
section
variable {w w' : World} (hb : Below w.heap.size w w')
include hb
end
section
variable {w : World} {g : Nat} {us : List Value}
variable {t : TypeId} {cs : List Value} (ht : t ≠ 60) (hr : aa w g t cs) (hn : aN cs) (hu : aN us)
include ht hr hn hu
end
theorem cY {ops : Array Oper} (L : Nat -> Bool) (i : Nat) (hp : ((ops[i]?).map (·.after.all fun e => !Region.binds .any e || L e.on)).getD false = true) : ∀ j ∈ dC ops i, L j = true := by
 intro j hj;unfold dC at hj;cases ho : ops[i]? with
 | none => rw [ho] at hj; simp at hj
 | some o =>
  rw [ho] at hp hj;simp only [Option.map_some, Option.getD_some, List.mem_map, E8] at hj hp;obtain ⟨e, ⟨he, hbd⟩, rfl⟩ := hj;rw [EK] at hp;obtain ⟨k, hk, rfl⟩ := Array.mem_iff_getElem.1 (Array.mem_def.2 he);have := hp k hk;rw [hbd] at this;simpa using this
theorem dV (d : RD) (ds : List Nat) {P : Program} {ops : Array Oper} {Q : Exit -> Act -> World -> Prop} {id : Nat} {a : Act} {w : World} (g0 : Nat) (hm : P.follows .mixedOrders = true) (hn : ops.size = d.n + 1)
 (hb : ((List.range (d.n + 1)).all fun i => ((ops[i]?).map (·.after.all fun e => !Region.binds .any e || decide (e.on < i))).getD false) = true)
 (hla : ((List.range d.n).all fun j => (List.range (d.n + 1)).any fun k => decide (j < k) && (dC ops k).contains j) = true)
 (hF : a = cS a (fun k => a.tmps.getD k undef) ds)
 (hbs : ∀ p ∈ d.bs, p.2.holds w.drew p.1) (hrw : ∀ p ∈ d.rows, aa w p.1 p.2.1 p.2.2 /\ p.1 < w.heap.size /\ ∀ t ∈ d.tg, p.1 ≠ t.2.1) (hcl : ∀ p ∈ d.cells, w.cell? p.1 = some p.2 /\ p.1.block < w.heap.size /\ ∀ t ∈ d.tg, p.1.block ≠ t.2.1) (ht : ∀ t ∈ d.tg, g0 <= t.2.1 /\ t.2.1 < w.heap.size /\ ∃ n ao l k, aa w t.2.1 37 [.bool n, .slice ao l k])
 (hs : ∀ i ∈ List.range d.n, ∀ L x w', d.J g0 w.heap.size w.drew L x w' -> L i = false -> (∀ j ∈ dC ops i, L j = true) -> (∀ k < d.n, L k = true -> ∀ j ∈ dC ops k, L j = true) -> wpOp P ops Q i (fun a' w'' => ∃ x', a' = cS a x' ds /\ d.J g0 w.heap.size w.drew (fs L i) x' w'') (cS a x ds) w')
 (hend : ∀ L x w', (∀ i < d.n, L i = true) -> d.J g0 w.heap.size w.drew L x w' -> wpOp P ops Q d.n (fun a' w'' => (∃ x', a' = cS a x' ds) /\ Q .normal a' w'') (cS a x ds) w') : (Code.region id ops true).wp P Q a w := by
 have hdown : ∀ (L : Nat -> Bool), (∀ j ∈ dC ops d.n, L j = true) -> (∀ k < d.n, L k = true -> ∀ j ∈ dC ops k, L j = true) -> ∀ j < d.n, L j = true := by
  intro L hp hg;have key : ∀ m j, d.n - j <= m -> j < d.n -> L j = true := by
   intro m;induction m with
   | zero => intro j h1 h2; omega
   | succ m ih =>
    intro j h1 h2;have := List.all_eq_true.1 hla j (List.mem_range.2 h2);obtain ⟨k, hk, hjk⟩ := List.any_eq_true.1 this;simp only [CO, decide_eq_true_eq, List.contains_iff_mem] at hjk;have hk' := List.mem_range.1 hk;by_cases hkn : k = d.n
    . subst hkn; exact hp j hjk.2
    . exact hg k Cp (ih k Cp Cp) j hjk.2
  exact fun j hj => key (d.n - j) j (Ct _) hj
 refine gZ hm hn hb (fun x => cS a x ds) (fun L x w' => (L d.n = false /\ d.J g0 w.heap.size w.drew L x w') \/ (L d.n = true /\ Q .normal (cS a x ds) w')) (fun k => a.tmps.getD k undef) hF ?_ ?_ ?_
 . refine .inl ⟨rfl, Below.refl _ _, Ct _, hbs, hrw, hcl, fun i _ h => by simp at h, fun t h => ?_, fun _ _ _ _ _ h => by simp at h, fun _ _ h => by simp at h⟩;obtain ⟨h1, h2, a, b, l, k, hr⟩ := ht t h;exact ⟨h1, h2, a, b, l, k, hr, fun h => by simp at h⟩
 . intro i hi L x w' hJ hG hL hp;by_cases hin : i = d.n
   . subst hin;rcases hJ with ⟨_, hJ⟩ | ⟨h, _⟩
     . have hall : ∀ j < d.n, L j = true := hdown L (cY L d.n hp) (fun k hk hLk => cY L k (hG k Cp hLk));refine wpOp_mono ?_ (hend L x w' hall hJ);rintro a' w'' ⟨⟨x', rfl⟩, hQ⟩;exact ⟨x', rfl, .inr ⟨by simp, hQ⟩⟩
     . rw [h] at hL; cases hL
   . have hlt : i < d.n := by omega
     rcases hJ with ⟨h0, hJ⟩ | ⟨h, _⟩
     . refine wpOp_mono ?_ (hs i (List.mem_range.2 hlt) L x w' hJ hL (cY L i hp) (fun k hk hLk => cY L k (hG k Cp hLk)));rintro a' w'' ⟨x', rfl, hJ'⟩;exact ⟨x', rfl, .inl ⟨by show (if d.n = i then true else L d.n) = false; rw [if_neg (fun e => hin e.symm)]; exact h0, hJ'⟩⟩
     . have := hdown L (cY L d.n (hG d.n Cp h)) (fun k hk hLk => cY L k (hG k Cp hLk)) i hlt;rw [this] at hL; cases hL
 . intro L x w' hL hJ;rcases hJ with ⟨h, _⟩ | ⟨_, hQ⟩
   . rw [hL d.n Cp] at h; cases h
   . exact hQ
theorem aN.i64 {x : Int} {cs : List Value} (h : aN cs) : aN (.int .i64 x :: cs) := fun c hc n => by
 rcases List.mem_cons.1 hc with rfl | hc
 . simp
 . exact h c hc n
theorem aN.ptr {a : Option Addr} {cs : List Value} (h : aN cs) : aN (.pointer a :: cs) := fun c hc m => by
 rcases List.mem_cons.1 hc with rfl | hc
 . simp
 . exact h c hc m
abbrev P4 := Bool × Option Addr × Nat × Nat
def av (p : P4) : Value := .agg #[.bool p.1, .slice p.2.1 p.2.2.1 p.2.2.2]
def p0 : P4 := (false, none, 0, 0)
def flat : List P4 -> List Value
 | [] => []
 | p :: ps => .bool p.1 :: .slice p.2.1 p.2.2.1 p.2.2.2 :: flat ps
theorem bG : ∀ ps : List P4, (flat ps).length = 2 * ps.length
 | [] => rfl
 | p :: ps => by simp [flat, bG ps]; omega
theorem jU : ∀ (ps : List P4) (i : Nat) (h : i < ps.length), (flat ps)[i * 2]? = some (.bool (ps[i]).1)
 | p :: ps, 0, _ => rfl
 | p :: ps, i + 1, h => by
  have e : (i + 1) * 2 = i * 2 + 1 + 1 := by omega
  rw [e]; simp only [flat, List.getElem?_cons_succ, List.getElem_cons_succ];exact jU ps i (by simpa using h)
theorem jQ : ∀ (ps : List P4) (i : Nat) (h : i < ps.length), (flat ps)[i * 2 + 1]? = some (.slice (ps[i]).2.1 (ps[i]).2.2.1 (ps[i]).2.2.2)
 | p :: ps, 0, _ => rfl
 | p :: ps, i + 1, h => by
  have e : (i + 1) * 2 + 1 = i * 2 + 1 + 1 + 1 := by omega
  rw [e]; simp only [flat, List.getElem?_cons_succ, List.getElem_cons_succ];exact jQ ps i (by simpa using h)
theorem nH : ∀ (ps : List P4) (i : Nat) (p : P4), ((flat ps).set (i * 2) (.bool p.1)).set (i * 2 + 1) (.slice p.2.1 p.2.2.1 p.2.2.2) = flat (ps.set i p)
 | [], i, p => rfl
 | q :: ps, 0, p => rfl
 | q :: ps, i + 1, p => by
  have e : (i + 1) * 2 = i * 2 + 1 + 1 := by omega
  rw [e]; simp only [flat, ES];rw [nH ps i p]
theorem gH : ∀ ps : List P4, aN (flat ps)
 | [] => aN.nil
 | p :: ps => aN.bool (aN.slice (gH ps))
theorem jF : ∀ (ps qs : List P4), flat (ps ++ qs) = flat ps ++ flat qs
 | [], qs => rfl
 | p :: ps, qs => by simp [flat, jF ps qs]
def aL (w : World) (v : Value) (x : Int) : Prop := ah w (ag x.natAbs) v x /\ ∃ s, v = .agg #[.bool (decide (x < 0)), s]
theorem ai.num {w : World} {B : Nat} {v : Value} {x : Int} (h : ai w B v x) : aL w v x := ⟨h.at_, by obtain ⟨ao, cap, rfl, _⟩ := h; exact ⟨_, rfl⟩⟩
theorem aL.below {w w' : World} {v : Value} {x : Int} (h : aL w v x) (hb : Below w.heap.size w w') : aL w' v x := ⟨ah.below h.1 hb, h.2⟩
theorem aL.setRow {w : World} {v : Value} {x : Int} (h : aL w v x) {g : Nat} {t : TypeId} {cs : List Value} (hr : aa w g t cs) (hn : aN cs) (i : Nat) (u : Value) : aL (w.setCell ⟨g, i, none⟩ u) v x := ⟨ah.setRow h.1 hr hn i u, h.2⟩
theorem aL.int {w : World} {L : Nat} {v : Value} {x : Int} (h : aL w v x) (hL : ag x.natAbs <= L) : ah w L v x := ah.mono h.1 hL
theorem aL.parts {w : World} {v : Value} {x : Int} (h : aL w v x) : ∃ p : P4, v = av p := by
 obtain ⟨n, ao, len, cap, ws, rfl, _⟩ := h.1;exact ⟨(n, ao, len, cap), rfl⟩
theorem ah.parts {w : World} {L : Nat} {v : Value} {x : Int} (h : ah w L v x) : ∃ p : P4, v = av p := by
 obtain ⟨n, ao, len, cap, ws, rfl, _⟩ := h;exact ⟨(n, ao, len, cap), rfl⟩
theorem aN.Av {cs : List Value} (h : aN cs) (i : Nat) (b : Bool) : aN (cs.set i (.bool b)) := h.set i Cq
theorem aN.setS {cs : List Value} (h : aN cs) (i : Nat) (a : Option Addr) (l k : Nat) : aN (cs.set i (.slice a l k)) := h.set i Cq
theorem ai.zero (w : World) (B : Nat) : ai w B (.agg #[.bool false, .slice none 0 0]) 0 := by
 have h : ag (0 : Int).natAbs = 0 := bb;refine ⟨none, 0, by rw [h]; rfl, ?_⟩;rw [h];have : fM (0 : Int).natAbs = [] := ea;rw [this];exact db.nil w B
theorem vS {α : Type} (J : Nat -> α -> Prop) : ∃ μ : α -> Nat, ∀ a n, J n a -> J (μ a) a /\ μ a <= n := by
 have h : ∀ a, ∃ k, ∀ n, J n a -> J k a /\ k <= n := by
  intro a;by_cases he : ∃ n, J n a
  . obtain ⟨n, hn⟩ := he;have key : ∀ n, J n a -> ∃ k, ∀ m, J m a -> J k a /\ k <= m := by
     intro n;induction n using Nat.strongRecOn with
     | _ n ih =>
      intro hn;by_cases hl : ∃ m, m < n /\ J m a
      . obtain ⟨m, hm, hj⟩ := hl; exact ih m hm hj
      . exact ⟨n, fun m hm => ⟨hn, Ff fun hlt => hl ⟨m, hlt, hm⟩⟩⟩
    exact key n hn
  . exact ⟨0, fun n hn => absurd ⟨n, hn⟩ he⟩
 exact ⟨fun a => (h a).choose, fun a n hn => (h a).choose_spec n hn⟩
theorem ai.parts {w : World} {B : Nat} {v : Value} {x : Int} (h : ai w B v x) : ∃ b ao l k, v = .agg #[.bool b, .slice ao l k] := by
 obtain ⟨ao, cap, rfl, _⟩ := h; exact ⟨_, _, _, _, rfl⟩
structure aU (S : Nat -> Prop) (w w' : World) : Prop where
 os : w'.os = w.os
 tape : w'.tape = w.tape
 output : w'.output = w.output
 size : w.heap.size <= w'.heap.size
 block : ∀ k, k < w.heap.size -> ¬ S k -> w'.heap[k]? = w.heap[k]?
theorem aU.refl (S : Nat -> Prop) (w : World) : aU S w w := ⟨rfl, rfl, rfl, Ct _, fun _ _ _ => rfl⟩
theorem aU.trans {S : Nat -> Prop} {a b c : World} (h : aU S a b) (k : aU S b c) : aU S a c :=
 ⟨k.os.trans h.os, k.tape.trans h.tape, k.output.trans h.output, Cw h.size k.size, fun i hi hs => (k.block i (CK hi h.size) hs).trans (h.block i hi hs)⟩
theorem aU.mono {S T : Nat -> Prop} {w w' : World} (h : aU S w w') (hT : ∀ k, k < w.heap.size -> S k -> T k) : aU T w w' :=
 ⟨h.os, h.tape, h.output, h.size, fun k hk ht => h.block k hk (fun hs => ht (hT k hk hs))⟩
theorem aU.bC {S : Nat -> Prop} {w w' : World} (h : Below w.heap.size w w') : aU S w w' := ⟨h.os, h.tape, h.output, h.size, fun k hk _ => h.block k hk⟩
theorem aU.below {S : Nat -> Prop} {w w' w'' : World} (h : aU S w w') (hb : Below w'.heap.size w' w'') : aU S w w'' := h.trans (aU.bC hb)
theorem aU.set {S : Nat -> Prop} {w w' : World} (h : aU S w w') {p : Addr} (hp : S p.block) (u : Value) : aU S w (w'.setCell p u) :=
 h.trans ⟨rfl, rfl, rfl, by simp [World.setCell], fun k _ hs => Below.heap_setCell _ _ _ _ (fun e => hs (e ▸ hp))⟩
theorem aU.lI {S : Nat -> Prop} {w w' : World} (h : aU S w w') {p : Addr} (hp : w.heap.size <= p.block) (u : Value) : aU S w (w'.setCell p u) :=
 ⟨h.os, h.tape, h.output, by simpa [World.setCell] using h.size, fun k hk hs => (Below.heap_setCell _ _ _ _ Cp).trans (h.block k hk hs)⟩
theorem aU.drew {S : Nat -> Prop} {w w' : World} (h : aU S w w') : aU S w w'.drew := ⟨h.os, h.tape, h.output, h.size, h.block⟩
theorem aU.nX {S : Nat -> Prop} {B : Nat} {w w' : World} (h : aU S w w') (hS : ∀ k, S k -> B <= k) (hB : B <= w.heap.size) : Below B w w' :=
 ⟨h.os, h.tape, h.output, h.size, fun k hk => h.block k Cp (fun hs => by have := hS k hs; omega)⟩
theorem aU.row {S : Nat -> Prop} {w w' : World} (h : aU S w w') {b : Nat} {t : TypeId} {cs : List Value} (hr : aa w b t cs) (hb : ¬ S b) : aa w' b t cs := by
 unfold aa at *; rw [h.block b (aa.lt hr) hb]; exact hr
theorem aU.cell {S : Nat -> Prop} {w w' : World} (h : aU S w w') {p : Addr} (hp : p.block < w.heap.size) (hs : ¬ S p.block) : w'.cell? p = w.cell? p :=
 World.cell?_of_block (w := w) (h.block p.block hp hs)
def dX (S : Nat -> Prop) (w : World) : Prop := ∀ g, S g -> ∃ t cs, aa w g t cs /\ aN cs
theorem aU.mJ {S : Nat -> Prop} {w w' : World} (h : aU S w w') (hS : dX S w) {ao : Option Addr} {ws : List Nat} (hw : cX w ao ws) : cX w' ao ws := by
 refine ⟨hw.1, fun hl => ?_⟩;obtain ⟨b, o, rfl, hb, hc⟩ := hw.2 hl;have hns : ¬ S b := by
  intro hs;obtain ⟨t, cs, hr, hn⟩ := hS b hs;have h0 := hc 0 hl;rw [hr.cell] at h0;exact hn _ (Fe h0) _ rfl
 exact ⟨b, o, rfl, CK hb h.size, fun i hi => (h.cell (p := ⟨b, o + i, none⟩) hb hns).trans (hc i hi)⟩
theorem aU.int {S : Nat -> Prop} {w w' : World} (h : aU S w w') (hS : dX S w) {L : Nat} {v : Value} {x : Int} (hx : ah w L v x) : ah w' L v x := by
 obtain ⟨n, ao, len, cap, ws, rfl, hW, hl, hL, hc, he⟩ := hx;exact ⟨n, ao, len, cap, ws, rfl, h.mJ hS hW, hl, hL, hc, he⟩
theorem aU.num {S : Nat -> Prop} {w w' : World} (h : aU S w w') (hS : dX S w) {v : Value} {x : Int} (hx : aL w v x) : aL w' v x := ⟨h.int hS hx.1, hx.2⟩
theorem u3 (w : World) (o : Obj) {q : Nat} (hq : q < w.heap.size) : (w.drew.alloc o).heap[q]? = w.heap[q]? := ((Below.refl w.drew.heap.size w.drew).alloc (Ct _) o).block q hq
def Wl (T : Nat -> Prop) (w : World) : Prop := ∀ g, T g -> ∃ t cs, aa w g t cs /\ aN cs /\ t ≠ 60
theorem Wl.none (w : World) : Wl (fun _ => False) w := fun _ h => h.elim
theorem Wl.bZ {T : Nat -> Prop} {w : World} (h : Wl T w) : dX T w := fun g hg => by obtain ⟨t, cs, a, b, _⟩ := h g hg; exact ⟨t, cs, a, b⟩
inductive En where
 | row (b : Nat) (t : TypeId) (cs : List Value)
 | cell (a : Addr) (v : Value)
 | fact (wl wr : Bool) (S : Nat -> Prop) (F : World -> Prop) (lt : ∀ {w : World}, F w -> ∀ b, S b -> b < w.heap.size) (iJ : ∀ {w w' : World} {T : Nat -> Prop}, F w -> aU T w w' -> (wl = true -> Wl T w) -> (∀ b, S b -> ¬ T b) -> F w')
def En.wl : En -> Bool
 | .fact wl _ _ _ _ _ => wl
 | _ => false
def En.wr : En -> Bool
 | .row .. => true
 | .cell .. => false
 | .fact _ wr _ _ _ _ => wr
def En.F : En -> World -> Prop
 | .row b t cs, w => aa w b t cs
 | .cell a v, w => w.cell? a = some v
 | .fact _ _ _ F _ _, w => F w
def En.S : En -> Nat -> Prop
 | .row b _ _, g => g = b
 | .cell a _, g => g = a.block
 | .fact _ _ S _ _ _, g => S g
theorem qI {w : World} {a : Addr} {v : Value} (h : w.cell? a = some v) : a.block < w.heap.size := by
 rcases Nat.lt_or_ge a.block w.heap.size with h1 | h1
 . exact h1
 . unfold World.cell? at h;rw [Array.getElem?_eq_none h1] at h;cases h
theorem En.lt {e : En} {w : World} (h : e.F w) : ∀ b, e.S b -> b < w.heap.size := by
 cases e with
 | row b t cs => rintro g rfl; exact aa.lt h
 | cell a v => rintro g rfl; exact qI h
 | fact wl wr S F lt iJ => exact lt h
theorem En.iJ {e : En} {w w' : World} {T : Nat -> Prop} (h : e.F w) (hc : aU T w w') (hw : e.wl = true -> Wl T w) (hs : ∀ b, e.S b -> ¬ T b) : e.F w' := by
 cases e with
 | row b t cs => exact hc.row h (hs b rfl)
 | cell a v => exact (hc.cell (qI h) (hs _ rfl)).trans h
 | fact wl wr S F lt iJ => exact iJ h hc hw hs
def Ap (e e' : En) : Prop := (e.wr = true -> ∀ b, e.S b -> ¬ e'.S b) /\ (e'.wr = true -> ∀ b, e'.S b -> ¬ e.S b)
theorem Ap.symm {e e' : En} (h : Ap e e') : Ap e' e := ⟨h.2, h.1⟩
structure Fr (S0 : Nat -> Prop) (w0 w : World) (es : List En) : Prop where
 bs : aU S0 w0 w
 all : ∀ e ∈ es, e.F w
 sep : es.Pairwise Ap
 own : ∀ e ∈ es, e.wr = true -> ∀ b, e.S b -> S0 b \/ w0.heap.size <= b
section
variable {S0 : Nat -> Prop} {w0 w w' : World} {es : List En}
theorem Fr.perm {es' : List En} (h : Fr S0 w0 w es) (p : es.Perm es') : Fr S0 w0 w es' :=
 ⟨h.bs, fun e he => h.all e (p.mem_iff.2 he), (p.pairwise_iff (fun {_ _} h => h.symm)).1 h.sep, fun e he => h.own e (p.mem_iff.2 he)⟩
theorem Fr.sub {es' : List En} (h : Fr S0 w0 w es) (p : es'.Sublist es) : Fr S0 w0 w es' :=
 ⟨h.bs, fun e he => h.all e (p.subset he), h.sep.sublist p, fun e he => h.own e (p.subset he)⟩
theorem Fr.r9 {T : Nat -> Prop} (h : Fr S0 w0 w es) (hc : aU T w w') (hT : ∀ e ∈ es, e.wl = true -> Wl T w) (h0 : ∀ b, T b -> S0 b \/ w0.heap.size <= b) (hk : ∀ e ∈ es, ∀ b, e.S b -> ¬ T b) : Fr S0 w0 w' es :=
 ⟨⟨hc.os.trans h.bs.os, hc.tape.trans h.bs.tape, hc.output.trans h.bs.output, Cw h.bs.size hc.size, fun k hk' hs => (hc.block k (CK hk' h.bs.size) (fun ht => (h0 k ht).elim hs Cp)).trans (h.bs.block k hk' hs)⟩,
  fun e he => En.iJ (h.all e he) hc (hT e he) (hk e he), h.sep, h.own⟩
theorem Fr.grow (h : Fr S0 w0 w es) (hb : Below w.heap.size w w') : Fr S0 w0 w' es := h.r9 (T := fun _ => False) (.bC hb) (fun _ _ _ => Wl.none _) (fun _ h => h.elim) (fun _ _ _ _ h => h)
theorem Fr.drew (h : Fr S0 w0 w es) : Fr S0 w0 w.drew es := h.grow ((Below.refl _ _).drew)
theorem Fr.size (h : Fr S0 w0 w es) : w0.heap.size <= w.heap.size := h.bs.size
theorem Fr.cons (h : Fr S0 w0 w es) {e : En} (he : e.F w) (hap : ∀ e' ∈ es, Ap e e') (ho : e.wr = true -> ∀ b, e.S b -> S0 b \/ w0.heap.size <= b) : Fr S0 w0 w (e :: es) :=
 ⟨h.bs, fun x hx => (List.mem_cons.1 hx).elim (fun q => q ▸ he) (h.all x), List.pairwise_cons.2 ⟨hap, h.sep⟩, fun x hx => (List.mem_cons.1 hx).elim (fun q => q ▸ ho) (h.own x)⟩
theorem Fr.new (h : Fr S0 w0 w es) (hb : Below w.heap.size w w') {e : En} (he : e.F w') (hS : ∀ b, e.S b -> w.heap.size <= b) : Fr S0 w0 w' (e :: es) :=
 (h.grow hb).cons he (fun e' he' => ⟨fun _ b h1 h2 => by have := hS b h1; have := En.lt (h.all e' he') b h2; omega, fun _ b h1 h2 => by have := hS b h2; have := En.lt (h.all e' he') b h1; omega⟩) (fun _ b hb => .inr (Cw h.size (hS b hb)))
theorem Fr.pure (h : Fr S0 w0 w es) {e : En} (he : e.F w) (hS : ∀ b, ¬ e.S b) : Fr S0 w0 w (e :: es) :=
 h.cons he (fun e' he' => ⟨fun _ b h1 => (hS b h1).elim, fun _ b _ h2 => hS b h2⟩) (fun _ b hb => (hS b hb).elim)
theorem Fr.bU {T : Nat -> Prop} {e e' : En} (h : Fr S0 w0 w (e :: es)) (hw : e.wr = true) (hc : aU T w w') (hT : ∀ x ∈ es, x.wl = true -> Wl T w) (h1 : ∀ b, T b -> e.S b) (h2 : e'.F w') (h3 : ∀ b, e'.S b -> e.S b \/ w.heap.size <= b) : Fr S0 w0 w' (e' :: es) := by
 have hp := List.pairwise_cons.1 h.sep;have hm := (h.sub (List.sublist_cons_self ..)).r9 hc hT (fun b hb => h.own e (CC ..) hw b (h1 b hb)) (fun x hx b hb ht => (hp.1 x hx).1 hw b (h1 b ht) hb);refine hm.cons h2 (fun x hx => ⟨fun _ b hb hx' => ?_, fun _ b hx' hb => ?_⟩) (fun _ b hb => ?_)
 . rcases h3 b hb with h4 | h4
   . exact (hp.1 x hx).1 hw b h4 hx'
   . have := En.lt (h.all x (CB _ hx)) b hx'; omega
 . rcases h3 b hb with h4 | h4
   . exact (hp.1 x hx).1 hw b h4 hx'
   . have := En.lt (h.all x (CB _ hx)) b hx'; omega
 . rcases h3 b hb with h4 | h4
   . exact h.own e (CC ..) hw b h4
   . exact .inr (Cw h.size h4)
end
def qy (w : World) (b : Nat) : Nat -> List Value -> World
 | _, [] => w
 | k, u :: us => qy (w.setCell ⟨b, k, none⟩ u) b (k + 1) us
def j0 : List Value -> Nat -> List Value -> List Value
 | cs, _, [] => cs
 | cs, k, u :: us => j0 (cs.set k u) (k + 1) us
theorem aa.qy {b : Nat} {t : TypeId} : ∀ (us : List Value) (k : Nat) {w : World} {cs : List Value}, aa w b t cs -> aa (qy w b k us) b t (j0 cs k us)
 | [], _, _, _, h => h
 | _ :: us, k, _, _, h => aa.qy us (k + 1) (h.set k _)
theorem aU.qy {b : Nat} : ∀ (us : List Value) (k : Nat) {w w' : World}, aU (· = b) w w' -> aU (· = b) w (qy w' b k us)
 | [], _, _, _, h => h
 | _ :: us, k, _, _, h => aU.qy us (k + 1) (h.set (p := ⟨b, k, none⟩) rfl _)
inductive Up (e e' : En) : Nat -> List En -> List En -> Prop where
 | z {l : List En} : Up e e' 0 (e :: l) (e' :: l)
 | s {x : En} {k : Nat} {l l' : List En} (h : Up e e' k l l') : Up e e' (k + 1) (x :: l) (x :: l')
section
variable {e e' : En}
theorem Up.set {k : Nat} {l l' : List En} (h : Up e e' k l l') : l' = l.set k e' /\ l[k]? = some e := by
 induction h with
 | z => exact ⟨rfl, rfl⟩
 | s _ ih => exact ⟨by rw [ih.1]; rfl, by simpa using ih.2⟩
theorem Up.other {k : Nat} {l l' : List En} (h : Up e e' k l l') {r : Nat} (hr : r ≠ k) : l'[r]? = l[r]? := by
 rw [h.set.1, List.getElem?_set_ne (fun e => hr e.symm)]
theorem Up.perm {k : Nat} {l l' : List En} (h : Up e e' k l l') : ∃ m, l.Perm (e :: m) /\ l'.Perm (e' :: m) := by
 induction h with
 | @z l => exact ⟨l, .refl _, .refl _⟩
 | @s x k l l' h ih =>
  obtain ⟨m, h1, h2⟩ := ih;exact ⟨x :: m, (h1.cons x).trans (.swap ..), (h2.cons x).trans (.swap ..)⟩
theorem Up.right {k : Nat} {l l' : List En} (h : Up e e' k l l') (g : List En) : ∃ m, (g ++ l).Perm (e :: m) /\ (g ++ l').Perm (e' :: m) := by
 obtain ⟨m, h1, h2⟩ := h.perm;exact ⟨g ++ m, (h1.append_left g).trans DP, (h2.append_left g).trans DP⟩
theorem Up.left {k : Nat} {l l' : List En} (h : Up e e' k l l') (g : List En) : ∃ m, (l ++ g).Perm (e :: m) /\ (l' ++ g).Perm (e' :: m) := by
 obtain ⟨m, h1, h2⟩ := h.perm;exact ⟨m ++ g, h1.append_right g, h2.append_right g⟩
end
theorem Fr.st {S0 : Nat -> Prop} {w0 w : World} {es es' m : List En} {b : Nat} {t : TypeId} {cs : List Value} (h : Fr S0 w0 w es) (us : List Value) (k : Nat) (hu : (aN cs /\ t ≠ 60) \/ ∀ e ∈ es, e.wl = false)
 (h1 : es.Perm (.row b t cs :: m)) (h2 : es'.Perm (.row b t (j0 cs k us) :: m)) : Fr S0 w0 (qy w b k us) es' := by
 have h0 := h.perm h1;have hr : aa w b t cs := h0.all _ (CC ..);refine Fr.perm (h0.bU rfl (e' := .row b t (j0 cs k us)) (T := (· = b)) ((aU.refl _ w).qy us k) (fun x hx hw => ?_) (fun _ h => h) (hr.qy us k) (fun _ h => .inl h)) h2.symm;rcases hu with ⟨hn, ht⟩ | hu
 . rintro g rfl; exact ⟨t, cs, hr, hn, ht⟩
 . rw [hu x (h1.mem_iff.2 (CB _ hx))] at hw; cases hw
def lq : Nat -> List En -> List Nat -> List En
 | _, [], _ => []
 | i, e :: l, X => if X.contains i then lq (i + 1) l X else e :: lq (i + 1) l X
theorem lM : ∀ (l : List En) (i : Nat), lq i l [] = l
 | [], _ => rfl
 | e :: l, i => by simp [lq, lM l (i + 1)]
theorem mj (X : List Nat) : ∀ (E0 E : List En) (i : Nat), (∀ r, i + r ∉ X -> E[r]? = E0[r]?) -> (lq i E0 X).Sublist E
 | [], E, i, _ => List.nil_sublist _
 | e :: l, E, i, h => by
  have ht : ∀ r, i + 1 + r ∉ X -> E.tail[r]? = l[r]? := fun r hr => by
   have := h (r + 1) (by rw [show i + (r + 1) = i + 1 + r by omega]; exact hr);rw [List.getElem?_tail];simpa using this
  have ih := mj X l E.tail (i + 1) ht;unfold lq;split
  . exact ih.trans (List.tail_sublist _)
  . rename_i hc;have h0 := h 0 (by simpa using hc);cases E with
    | nil => simp at h0
    | cons x E =>
     simp at h0;subst h0;exact ih.cons_cons _
def bY : Op -> Bool
 | .move _ | .assign _ | .pick .. | .load .. | .nilCheck _ | .binOp .. | .unOp .. | .convert .. | .slice .. | .fieldAddr .. | .field .. | .indexAddr .. | .index .. | .extract .. | .build .. => true
 | .call c => match c.callee with | .builtin .len | .builtin .cap | .builtin .min | .builtin .max => true | _ => false
 | _ => false
def dD : Op -> Bool
 | .alloc _ | .box .. | .buildSlice .. | .makeSlice .. => true
 | _ => false
def qM : Op -> Bool
 | .load .. | .convert .. => true
 | _ => false
def tF (W j : Nat) : Nat := (W >>> (64 * j)) % 18446744073709551616
def s4 (W : Nat) (l : List Nat) : Nat := l.foldr (fun k s => s ||| (1 <<< k ||| tF W k)) 0
def zO (o : Oper) : List Nat := (o.after.toList.filter (Region.binds .any)).map (·.on)
def oL : List Oper -> Nat -> Nat -> Nat
 | [], _, W => W
 | o :: l, j, W => oL l (j + 1) (W ||| (s4 W (zO o) <<< (64 * j)))
def pre (ops : Array Oper) (i j : Nat) : Bool := (tF (oL ops.toList 0 0) j).testBit i
def opD (ops : Array Oper) (i : Nat) : Bool := ((ops[i]?).map fun o => bY o.op).getD true
def uc : Nat -> Nat -> List Nat
 | 0, _ => []
 | k + 1, j => j :: uc k (j + 1)
def opL (ops : Array Oper) (i : Nat) : Bool := ((ops[i]?).map fun o => qM o.op).getD false
def apt (ops : Array Oper) (i j : Nat) : Bool := match ops[i]?, ops[j]? with | some x, some y => x.apart ops y | _, _ => true
def l4 (ops : Array Oper) (n : Nat) : Bool := Region.noSelect ops && ((List.range n).all fun i => ((ops[i]?).map (·.after.all fun e => !Region.binds .any e || decide (e.on < i))).getD false) && (List.range n).all fun j =>
 tF (oL ops.toList 0 0) j == s4 (oL ops.toList 0 0) (dC ops j) &&
 (List.range j).all fun i => pre ops i j || (apt ops i j && (opD ops j || opD ops i || ((ops[j]?).map fun o => dD o.op).getD false))
def fU (ops : Array Oper) (hd : List (List Nat)) (j : Nat) (K : List Nat) : Bool := (List.range ops.size).all fun i => i == j || pre ops i j || !opL ops i || K.all fun r => (hd.getD i []).contains r
structure RC where
 P : Program
 ops : Array Oper
 Q : Exit -> Act -> World -> Prop
 S0 : Nat -> Prop
 w0 : World
 E0 : List En
 hd : List (List Nat)
def RC.V (C : RC) (j : Nat) (o : Oper) (w : World) : Prop := qM o.op = true -> Fr C.S0 C.w0 w (lq 0 C.E0 (C.hd.getD j []))
def jH (P : Program) (ops : Array Oper) (o : Oper) (v : Value) (a : Act) (w : World) : Prop :=
 (Region.wanted o (yielded ops a.tmps) = true /\ ((execOp a.eval o).run P w = .ok (.value v) w \/ ((execOp a.eval o).run P w = .ok .skip w /\ v = undef))) \/
 (Region.wanted o (yielded ops a.tmps) = false /\ v = undef)
def km (C : RC) (o : Oper) (a : Act) (mk : Nat -> Value) (t : TypeId) (cs : List Value) : Prop :=
 Region.wanted o (yielded C.ops a.tmps) = true /\ ∀ w, (execOp a.eval o).run C.P w = .ok (.value (mk w.heap.size)) (w.alloc (.cells cs.toArray t (0, 0)))
def om (P : Program) (K : Value -> World -> Prop) : Result Next -> Prop
 | .ok (.value v) w' => K v w'
 | .ok .skip w' => K undef w'
 | .ok (.enter f args) w' => Calls P f args w' fun e w'' => ∃ v, e = .returned v /\ K v w''
 | .ok (.row row args) w' => Rows P row args w' K
 | _ => False
theorem om.mono {P : Program} {K K' : Value -> World -> Prop} (hK : ∀ v w, K v w -> K' v w) {r : Result Next} (h : om P K r) : om P K' r := by
 cases r with
 | halt x w' => exact h
 | ok n w' =>
  cases n with
  | value v => exact hK _ _ h
  | skip => exact hK _ _ h
  | enter f args => exact Calls.mono h fun e w'' ⟨v, hv, hk⟩ => ⟨v, hv, hK _ _ hk⟩
  | row row args => exact Rows.mono h fun v w'' hk => hK _ _ hk
  | _ => exact h.elim
def kW (C : RC) (o : Oper) (a : Act) (G E : List En) {α : Type} (mk : α -> Value) (G' E' : α -> List En) : Prop :=
 ∀ X w, (∀ e ∈ X, e.wl = false) -> Fr C.S0 C.w0 w (X ++ (G ++ E)) -> if Region.wanted o (yielded C.ops a.tmps) = true then om C.P (fun v w' => ∃ p, v = mk p /\ Fr C.S0 C.w0 w' (X ++ (G' p ++ E' p))) ((execOp a.eval o).run C.P w) else ∃ p, undef = mk p /\ Fr C.S0 C.w0 w (X ++ (G' p ++ E' p))
def RW (C : RC) : List Nat -> List En -> List En -> Act -> Prop
 | [], G, E, a => ∀ w, Fr C.S0 C.w0 w (G ++ E) -> C.Q .normal a w
 | j :: l, G, E, a => ∃ o, C.ops[j]? = some o /\
  ((bY o.op = true /\ ∃ v, (∀ w, C.V j o w -> jH C.P C.ops o v a w) /\ RW C l G E (a.put o.dst v)) \/
   (bY o.op = false /\ dD o.op = true /\ ∃ mk t cs, km C o a mk t cs /\ ∀ g, RW C l (.row g t cs :: G) E (a.put o.dst (mk g))) \/
   (bY o.op = false /\ dD o.op = false /\ ∃ (α : Type) (mk : α -> Value) (G' E' : α -> List En) (K : List Nat), Nonempty α /\ kW C o a G E mk G' E' /\ fU C.ops C.hd j K = true /\
    (∀ p r, r ∉ K -> (E' p)[r]? = E[r]?) /\ ∀ p, RW C l (G' p) (E' p) (a.put o.dst (mk p))))
theorem RW.perm {C : RC} : ∀ (l : List Nat) {G G' E : List En} {a : Act}, G.Perm G' -> RW C l G E a -> RW C l G' E a
 | [], G, G', E, a, hp, h => fun w hw => h w (hw.perm (hp.symm.append_right E))
 | j :: l, G, G', E, a, hp, h => by
  obtain ⟨o, ho, h⟩ := h;refine ⟨o, ho, ?_⟩;rcases h with ⟨hk, v, hg, hr⟩ | ⟨hk, hk2, mk, t, cs, hn, hr⟩ | ⟨hk, hk2, α, mk, G1, E1, K, hne, hc, hK, hE, hr⟩
  . exact .inl ⟨hk, v, hg, RW.perm l hp hr⟩
  . exact .inr (.inl ⟨hk, hk2, mk, t, cs, hn, fun g => RW.perm l (hp.cons _) (hr g)⟩)
  . exact .inr (.inr ⟨hk, hk2, α, mk, G1, E1, K, hne, fun X w hX hw => hc X w hX (hw.perm ((hp.symm.append_right E).append_left X)), hK, hE, hr⟩)
section
variable {C : RC} {a : Act} {o x : Oper}
theorem eJ (hs : ∀ cs b, o.op ≠ .select cs b) {d : Option Tmp} (h : ∀ e, d = some e -> e ∉ o.looksAt C.ops) (u v : Value) (w : World) : jH C.P C.ops o v (a.put d u) w ↔ jH C.P C.ops o v a w := by
 unfold jH;rw [execOp_put o hs a d u h, wanted_put o a d u h]
theorem jH.uniq {v v' : Value} {w : World} (h : jH C.P C.ops o v a w) (h' : jH C.P C.ops o v' a w) : v = v' := by
 unfold jH at *;rcases h with ⟨h1, h2⟩ | ⟨h1, h2⟩ <;> rcases h' with ⟨h3, h4⟩ | ⟨h3, h4⟩
 . rcases h2 with h2 | ⟨h2, e⟩ <;> rcases h4 with h4 | ⟨h4, e'⟩
   . rw [h2] at h4; cases h4; rfl
   . rw [h2] at h4; cases h4
   . rw [h2] at h4; cases h4
   . rw [e, e']
 . rw [h1] at h3; cases h3
 . rw [h1] at h3; cases h3
 . rw [h2, h4]
theorem pO (hs : ∀ cs b, o.op ≠ .select cs b) {d : Option Tmp} (h : ∀ e, d = some e -> e ∉ o.looksAt C.ops) (u : Value) {mk : Nat -> Value} {t : TypeId} {cs : List Value} (hn : km C o a mk t cs) : km C o (a.put d u) mk t cs := by
 unfold km at *;rw [execOp_put o hs a d u h, wanted_put o a d u h];exact hn
theorem gJ (hs : ∀ cs b, o.op ≠ .select cs b) {d : Option Tmp} (h : ∀ e, d = some e -> e ∉ o.looksAt C.ops) (u : Value) {mk : Nat -> Value} {t : TypeId} {cs : List Value} (hn : km C o (a.put d u) mk t cs) : km C o a mk t cs := by
 unfold km at *;rw [execOp_put o hs a d u h, wanted_put o a d u h] at hn;exact hn
theorem jA (hs : ∀ cs b, o.op ≠ .select cs b) {d : Option Tmp} (h : ∀ e, d = some e -> e ∉ o.looksAt C.ops) (u : Value) {G E : List En} {α : Type} {mk : α -> Value} {G' E' : α -> List En} : kW C o (a.put d u) G E mk G' E' ↔ kW C o a G E mk G' E' := by
 unfold kW;rw [execOp_put o hs a d u h, wanted_put o a d u h]
end
theorem om.wp {P : Program} {ops : Array Oper} {Q : Exit -> Act -> World -> Prop} {i : Nat} {o : Oper} {a : Act} {w : World} {K : Value -> World -> Prop} {K' : Act -> World -> Prop} (hi : ops[i]? = some o)
 (h : if Region.wanted o (yielded ops a.tmps) = true then om P K ((execOp a.eval o).run P w) else K undef w) (hK : ∀ v w', K v w' -> K' (a.put o.dst v) w') : wpOp P ops Q i K' a w := by
 unfold wpOp;simp only [hi];split
 . rename_i hw;rw [if_pos hw] at h;refine .inl ?_;unfold Oper.wp;generalize (execOp a.eval o).run P w = r at *;cases r with
   | halt x w' => exact h.elim
   | ok n w' =>
    cases n with
    | value v => exact hK _ _ h
    | skip => exact hK _ _ h
    | enter f args =>
     refine Calls.mono h fun e w'' he => ?_;obtain ⟨v, rfl, hv⟩ := he;exact hK _ _ hv
    | row row args => exact Rows.mono h fun v w'' he => hK _ _ he
    | _ => exact h.elim
 . rename_i hw;rw [if_neg hw] at h;exact hK _ _ h
theorem u5 {C : RC} {x y : Oper} (h : x.apart C.ops y = true) : (∀ d, x.dst = some d -> d ∉ y.looksAt C.ops) /\ (∀ d, x.dst = some d -> y.dst ≠ some d) /\ (∀ d, y.dst = some d -> d ∉ x.looksAt C.ops) := Oper.apart_spec h
theorem RW.aS {C : RC} (hs : Region.noSelect C.ops = true) {j : Nat} {o : Oper} (ho : C.ops[j]? = some o) (hk : bY o.op = true) {w1 : World} (hw1 : C.V j o w1) (l2 : List Nat) :
 ∀ (l1 : List Nat) {G E : List En} {a : Act}, RW C (l1 ++ j :: l2) G E a -> (∀ i ∈ l1, ∀ x, C.ops[i]? = some x -> x.apart C.ops o = true) -> ∃ v, (∀ w, C.V j o w -> jH C.P C.ops o v a w) /\ RW C (l1 ++ l2) G E (a.put o.dst v)
 | [], G, E, a, h, _ => by
  obtain ⟨o', ho', h⟩ := h;rw [ho] at ho'; cases ho';rcases h with ⟨_, v, hg, hr⟩ | ⟨h, _⟩ | ⟨h, _⟩
  . exact ⟨v, hg, hr⟩
  . rw [hk] at h; cases h
  . rw [hk] at h; cases h
 | i :: l1, G, E, a, h, hap => by
  obtain ⟨x, hx, h⟩ := h;obtain ⟨h1, h2, h3⟩ := u5 (hap i (CC ..) x hx);have hso := Region.noSelect_spec hs j o (ho := ho);have hsx := Region.noSelect_spec hs i x (ho := hx);have hap' := fun k hk => hap k (CB _ hk);have sw : ∀ (u v : Value), (a.put x.dst u).put o.dst v = (a.put o.dst v).put x.dst u := fun u v => Act.put_comm a u v h2;rcases h with ⟨hxk, u, hg, hr⟩ | ⟨hxk, hxk2, mk, t, cs, hn, hr⟩ | ⟨hxk, hxk2, α, mk, G1, E1, K, hne, hc, hK, hE, hr⟩
  . obtain ⟨v, hv, hr'⟩ := RW.aS hs ho hk hw1 l2 l1 hr hap';exact ⟨v, fun w hw => (eJ hso h1 u v w).1 (hv w hw), x, hx, .inl ⟨hxk, u, fun w hw => (eJ hsx h3 v u w).2 (hg w hw), by rw [<- sw]; exact hr'⟩⟩
  . have ih := fun g => RW.aS hs ho hk hw1 l2 l1 (hr g) hap';obtain ⟨v, hv, _⟩ := ih 0;have hv0 := fun w hw => (eJ hso h1 (mk 0) v w).1 (hv w hw);refine ⟨v, hv0, x, hx, .inr (.inl ⟨hxk, hxk2, mk, t, cs, pO hsx h3 v hn, fun g => ?_⟩)⟩;obtain ⟨v', hv', hr'⟩ := ih g;obtain rfl := jH.uniq (hv0 w1 hw1) ((eJ hso h1 (mk g) v' w1).1 (hv' w1 hw1));rw [<- sw]; exact hr'
  . have ih := fun p => RW.aS hs ho hk hw1 l2 l1 (hr p) hap';obtain ⟨p0⟩ := hne;obtain ⟨v, hv, _⟩ := ih p0;have hv0 := fun w hw => (eJ hso h1 (mk p0) v w).1 (hv w hw);refine ⟨v, hv0, x, hx, .inr (.inr ⟨hxk, hxk2, α, mk, G1, E1, K, ⟨p0⟩, (jA hsx h3 v).2 hc, hK, hE, fun p => ?_⟩)⟩;obtain ⟨v', hv', hr'⟩ := ih p;obtain rfl := jH.uniq (hv0 w1 hw1) ((eJ hso h1 (mk p) v' w1).1 (hv' w1 hw1));rw [<- sw]; exact hr'
theorem RW.new {C : RC} (hs : Region.noSelect C.ops = true) {j : Nat} {o : Oper} (ho : C.ops[j]? = some o) (hk : bY o.op = false) (hk2 : dD o.op = true) (l2 : List Nat) :
 ∀ (l1 : List Nat) {G E : List En} {a : Act}, RW C (l1 ++ j :: l2) G E a -> (∀ i ∈ l1, ∀ x, C.ops[i]? = some x -> x.apart C.ops o = true) -> ∃ mk t cs, km C o a mk t cs /\ ∀ g, RW C (l1 ++ l2) (.row g t cs :: G) E (a.put o.dst (mk g))
 | [], G, E, a, h, _ => by
  obtain ⟨o', ho', h⟩ := h;rw [ho] at ho'; cases ho';rcases h with ⟨h, _⟩ | ⟨_, _, h⟩ | ⟨_, h, _⟩
  . rw [hk] at h; cases h
  . exact h
  . rw [hk2] at h; cases h
 | i :: l1, G, E, a, h, hap => by
  obtain ⟨x, hx, h⟩ := h;obtain ⟨h1, h2, h3⟩ := u5 (hap i (CC ..) x hx);have hso := Region.noSelect_spec hs j o (ho := ho);have hsx := Region.noSelect_spec hs i x (ho := hx);have hap' := fun k hk => hap k (CB _ hk);have sw : ∀ (u v : Value), (a.put x.dst u).put o.dst v = (a.put o.dst v).put x.dst u := fun u v => Act.put_comm a u v h2;have un : ∀ {mk mk' : Nat -> Value} {t t' : TypeId} {cs cs' : List Value}, km C o a mk t cs -> km C o a mk' t' cs' -> t = t' /\ cs = cs' /\ ∀ g, (∃ w : World, w.heap.size = g) -> mk g = mk' g := by
   intro mk mk' t t' cs cs' h h';have key : ∀ w : World, t = t' /\ cs = cs' /\ mk w.heap.size = mk' w.heap.size := by
    intro w;have e := (h.2 w).symm.trans (h'.2 w);simp only [Result.ok.injEq, Next.value.injEq] at e;have e2 : (w.heap.push (.cells cs.toArray t (0, 0))).back? = (w.heap.push (.cells cs'.toArray t' (0, 0))).back? := congrArg (fun u : World => u.heap.back?) e.2;simp only [Array.back?_push, Option.some.injEq, Obj.cells.injEq] at e2;exact ⟨e2.2.1, by simpa using e2.1, e.1⟩
   exact ⟨(key C.w0).1, (key C.w0).2.1, fun g ⟨w, hw⟩ => hw ▸ (key w).2.2⟩
  have hex : ∀ g, ∃ w : World, w.heap.size = g := fun g => ⟨{ C.w0 with heap := Array.replicate g default }, by simp⟩;rcases h with ⟨hxk, u, hg, hr⟩ | ⟨hxk, hxk2, mk, t, cs, hn, hr⟩ | ⟨hxk, hxk2, α, mk, G1, E1, K, hne, hc, hK, hE, hr⟩
  . obtain ⟨mk, t, cs, hn, hr'⟩ := RW.new hs ho hk hk2 l2 l1 hr hap';have hn' := gJ hso h1 u hn;exact ⟨mk, t, cs, hn', fun g => ⟨x, hx, .inl ⟨hxk, u, fun w hw => (eJ hsx h3 _ u w).2 (hg w hw), by rw [<- sw]; exact hr' g⟩⟩⟩
  . have ih := fun g => RW.new hs ho hk hk2 l2 l1 (hr g) hap';obtain ⟨mk0, t0, cs0, hn0, _⟩ := ih 0;have hn0' := gJ hso h1 _ hn0;refine ⟨mk0, t0, cs0, hn0', fun g => ⟨x, hx, .inr (.inl ⟨hxk, hxk2, mk, t, cs, pO hsx h3 _ hn, fun g' => ?_⟩)⟩⟩;obtain ⟨mk1, t1, cs1, hn1, hr1⟩ := ih g';obtain ⟨rfl, rfl, hm⟩ := un hn0' (gJ hso h1 _ hn1);rw [<- sw, hm g (hex g)];exact RW.perm _ (.swap ..) (hr1 g)
  . have ih := fun p => RW.new hs ho hk hk2 l2 l1 (hr p) hap';obtain ⟨p0⟩ := hne;obtain ⟨mk0, t0, cs0, hn0, _⟩ := ih p0;have hn0' := gJ hso h1 _ hn0;refine ⟨mk0, t0, cs0, hn0', fun g => ⟨x, hx, .inr (.inr ⟨hxk, hxk2, α, mk, fun p => .row g t0 cs0 :: G1 p, E1, K, ⟨p0⟩, ?_, hK, hE, fun p => ?_⟩)⟩⟩
    . intro X w hX hw;have hp : ∀ G2 E2 : List En, (X ++ ((.row g t0 cs0 :: G2) ++ E2)).Perm ((.row g t0 cs0 :: X) ++ (G2 ++ E2)) := fun G2 E2 => DP;have := (jA hsx h3 (mk0 g)).2 hc (.row g t0 cs0 :: X) w (fun e he => (List.mem_cons.1 he).elim (fun q => q ▸ rfl) (hX e)) (hw.perm (hp G E));split
      . rename_i hwt;rw [if_pos hwt] at this;exact this.mono fun v w' ⟨p, e, hf⟩ => ⟨p, e, hf.perm (hp _ _).symm⟩
      . rename_i hwt;rw [if_neg hwt] at this;obtain ⟨p, e, hf⟩ := this;exact ⟨p, e, hf.perm (hp _ _).symm⟩
    . obtain ⟨mk1, t1, cs1, hn1, hr1⟩ := ih p;obtain ⟨rfl, rfl, hm⟩ := un hn0' (gJ hso h1 _ hn1);rw [<- sw, hm g (hex g)];exact hr1 g
theorem RW.chain {C : RC} (hs : Region.noSelect C.ops = true) {j : Nat} {o : Oper} (ho : C.ops[j]? = some o) (hk : bY o.op = false) (hk2 : dD o.op = false) (l2 : List Nat) :
 ∀ (l1 : List Nat) {G E : List En} {a : Act}, RW C (l1 ++ j :: l2) G E a -> (∀ i ∈ l1, ∀ x, C.ops[i]? = some x -> x.apart C.ops o = true /\ bY x.op = true) ->
  ∃ (α : Type) (mk : α -> Value) (G' E' : α -> List En) (K : List Nat), Nonempty α /\ kW C o a G E mk G' E' /\ fU C.ops C.hd j K = true /\ (∀ p r, r ∉ K -> (E' p)[r]? = E[r]?) /\ ∀ p, RW C (l1 ++ l2) (G' p) (E' p) (a.put o.dst (mk p))
 | [], G, E, a, h, _ => by
  obtain ⟨o', ho', h⟩ := h;rw [ho] at ho'; cases ho';rcases h with ⟨h, _⟩ | ⟨_, h, _⟩ | ⟨_, _, h⟩
  . rw [hk] at h; cases h
  . rw [hk2] at h; cases h
  . exact h
 | i :: l1, G, E, a, h, hap => by
  obtain ⟨x, hx, h⟩ := h;obtain ⟨hap0, hxd⟩ := hap i (CC ..) x hx;obtain ⟨h1, h2, h3⟩ := u5 hap0;have hso := Region.noSelect_spec hs j o (ho := ho);have hsx := Region.noSelect_spec hs i x (ho := hx);rcases h with ⟨hxk, u, hg, hr⟩ | ⟨h, _⟩ | ⟨h, _⟩
  . obtain ⟨α, mk, G1, E1, K, hne, hc, hK, hE, hr'⟩ := RW.chain hs ho hk hk2 l2 l1 hr (fun k hk => hap k (CB _ hk));exact ⟨α, mk, G1, E1, K, hne, (jA hso h1 u).1 hc, hK, hE, fun p => ⟨x, hx, .inl ⟨hxk, u, fun w hw => (eJ hsx h3 _ u w).2 (hg w hw), by rw [<- Act.put_comm a u _ h2]; exact hr' p⟩⟩⟩
  . rw [hxd] at h; cases h
  . rw [hxd] at h; cases h
theorem jO : ∀ (k j i : Nat), i ∈ uc k j ↔ j <= i /\ i < j + k
 | 0, j, i => by simp [uc]
 | k + 1, j, i => by
  unfold uc;rw [Di, jO k (j + 1) i];omega
theorem kD : ∀ (k j : Nat), (uc k j).Pairwise (· < ·)
 | 0, _ => .nil
 | k + 1, j => List.pairwise_cons.2 ⟨fun i hi => by have := (jO k (j + 1) i).1 hi; omega, kD k (j + 1)⟩
theorem rT (W i : Nat) : ∀ l : List Nat, (s4 W l).testBit i = true -> ∃ k ∈ l, k = i \/ (tF W k).testBit i = true
 | [], h => by simp [s4] at h
 | k :: l, h => by
  unfold s4 at h;simp only [List.foldr_cons, Nat.testBit_or, EH] at h;rcases h with h | h | h
  . obtain ⟨q, hq, h⟩ := rT W i l h;exact ⟨q, CB _ hq, h⟩
  . refine ⟨k, CC .., .inl ?_⟩;rw [Nat.one_shiftLeft, Nat.testBit_two_pow] at h;simpa using h
  . exact ⟨k, CC .., .inr h⟩
theorem sr {ops : Array Oper} {n : Nat} (hc : ∀ j < n, tF (oL ops.toList 0 0) j = s4 (oL ops.toList 0 0) (dC ops j)) (hlt : ∀ j < n, ∀ k ∈ dC ops j, k < j) {L : Nat -> Bool} (hg : ∀ k < n, L k = true -> ∀ j ∈ dC ops k, L j = true) :
 ∀ (j : Nat), j < n -> (∀ k ∈ dC ops j, L k = true) -> ∀ i, pre ops i j = true -> L i = true := by
 intro j;induction j using Nat.strongRecOn with
 | _ j ih =>
  intro hj hp i hij;unfold pre at hij;rw [hc j hj] at hij;obtain ⟨k, hk, rfl | hik⟩ := rT _ i _ hij
  . exact hp _ hk
  . exact ih k (hlt j hj k hk) (Nat.lt_trans (hlt j hj k hk) hj) (hg k (Nat.lt_trans (hlt j hj k hk) hj) (hp k hk)) i hik
theorem BB {ops : Array Oper} {n : Nat} (hc : ∀ j < n, tF (oL ops.toList 0 0) j = s4 (oL ops.toList 0 0) (dC ops j)) (hlt : ∀ j < n, ∀ k ∈ dC ops j, k < j) {i j : Nat} (hj : j < n) (h : pre ops i j = true) : i < j := by
 have := sr hc hlt (L := fun i => decide (i < j)) (fun k hk hLk q hq => by
  simp only [decide_eq_true_eq] at hLk |-;exact Nat.lt_trans (hlt k hk q hq) hLk) j hj (fun k hk => by simpa using hlt j hj k hk) i h
 simpa using this
def uf (df : List Deferred) (x : Nat -> Value) : Act := ⟨match x 0 with | .tuple t => t | _ => #[], df⟩
theorem uL (a : Act) : uf a.defers (fun _ => .tuple a.tmps) = a := rfl
theorem rz (a : Act) (d : Option Tmp) (v : Value) : (a.put d v).defers = a.defers := by cases d <;> rfl
theorem nL (df : List Deferred) (x : Nat -> Value) (d : Option Tmp) (v : Value) : ∃ x', (uf df x).put d v = uf df x' :=
 ⟨fun _ => .tuple ((uf df x).put d v).tmps, by
  have h := uL ((uf df x).put d v);rw [rz] at h;exact h.symm⟩
structure RSt (C : RC) (n : Nat) (L : Nat -> Bool) (a : Act) (w : World) (l : List Nat) (G E : List En) (Kt : List Nat) : Prop where
 sub : l.Sublist (uc n 0)
 mem : ∀ i, i < n -> (i ∈ l ↔ L i = false)
 rw_ : RW C l G E a
 fr : Fr C.S0 C.w0 w (G ++ E)
 iJ : ∀ r, r ∉ Kt -> E[r]? = C.E0[r]?
 hid : ∀ i ∈ l, opL C.ops i = true -> ∀ r ∈ Kt, r ∈ C.hd.getD i []
theorem np {ops : Array Oper} {n : Nat} (hok : l4 ops n = true) : Region.noSelect ops = true /\ ((List.range n).all fun i => ((ops[i]?).map (·.after.all fun e => !Region.binds .any e || decide (e.on < i))).getD false) = true /\
 (∀ j < n, tF (oL ops.toList 0 0) j = s4 (oL ops.toList 0 0) (dC ops j)) /\ (∀ j < n, ∀ i < j, pre ops i j = true \/ (apt ops i j = true /\ (opD ops j = true \/ opD ops i = true \/ ((ops[j]?).map fun o => dD o.op).getD false = true))) /\ ∀ j < n, ∀ k ∈ dC ops j, k < j := by
 unfold l4 at hok;simp only [CO] at hok;obtain ⟨⟨hs, hb⟩, hok⟩ := hok;have hok0 : ∀ j < n, _ := fun j hj => List.all_eq_true.1 hok j (List.mem_range.2 hj);simp only [CO, beq_iff_eq] at hok0;refine ⟨hs, hb, fun j hj => (hok0 j hj).1, fun j hj i hi => ?_, fun j hj k hk => ?_⟩
 . have := List.all_eq_true.1 (hok0 j hj).2 i (List.mem_range.2 hi);simp only [EH, CO, or_assoc] at this;exact this
 . have := List.all_eq_true.1 hb j (List.mem_range.2 hj);unfold dC at hk;cases ho : ops[j]? with
   | none => rw [ho] at hk; simp at hk
   | some o =>
    rw [ho] at this hk;simp only [Option.map_some, Option.getD_some, List.mem_map, E8] at hk this;obtain ⟨e, ⟨he, hbd⟩, rfl⟩ := hk;rw [EK] at this;obtain ⟨q, hq, rfl⟩ := Array.mem_iff_getElem.1 (Array.mem_def.2 he);have := this q hq;rw [hbd] at this;simpa using this
theorem rgA1 (C : RC) {n : Nat} {a : Act} {w : World} (hn : C.ops.size = n) (hok : l4 C.ops n = true) (H : Fr C.S0 C.w0 w C.E0) (h : RW C (uc n 0) [] C.E0 a) : wpAny C.P .any C.ops C.Q C.ops.size (Array.replicate C.ops.size false) a w.drew := by
 obtain ⟨hs, hb, hc, hok1, hlt⟩ := np hok;refine uO hn hb (uf a.defers) (fun L x w' => ∃ l G E Kt, RSt C n L (uf a.defers x) w' l G E Kt) (fun _ => .tuple a.tmps) (uL a).symm ?_ ?_ ?_
 . exact ⟨uc n 0, [], C.E0, [], .refl _, fun i hi => by simp [jO, hi], h, H.drew, fun _ _ => rfl, fun _ _ _ _ hr => by cases hr⟩
 . rintro j hj L x w' ⟨l, G, E, Kt, S⟩ hG hL hp;have hp := cY L j hp;have hG' : ∀ k < n, L k = true -> ∀ i ∈ dC C.ops k, L i = true := fun k hk hLk => cY L k (hG k hk hLk);have hpd := sr hc hlt hG' j hj hp;have hjl := (S.mem j hj).2 hL;obtain ⟨l1, l2, rfl⟩ := List.append_of_mem hjl;have hsort := (kD n 0).sublist S.sub;have hin : ∀ i ∈ l1 ++ j :: l2, i < n := fun i hi => by have := (jO n 0 i).1 (S.sub.subset hi); omega
   have h1 : ∀ i ∈ l1, i < j := fun i hi => (List.pairwise_append.1 hsort).2.2 i hi j (CC ..);have h2 : ∀ i ∈ l2, j < i := fun i hi => (List.pairwise_cons.1 (List.pairwise_append.1 hsort).2.1).1 i hi;have hnp : ∀ i ∈ l1 ++ j :: l2, pre C.ops i j = false := fun i hi => by
    cases hq : pre C.ops i j with
    | false => rfl
    | true =>
     have e1 := hpd i hq;rw [(S.mem i (hin i hi)).1 hi] at e1; cases e1
   obtain ⟨o, ho⟩ : ∃ o, C.ops[j]? = some o := ⟨_, Array.getElem?_eq_getElem Cp⟩;have hap : ∀ i ∈ l1, ∀ x, C.ops[i]? = some x -> x.apart C.ops o = true /\ (bY o.op = true \/ bY x.op = true \/ dD o.op = true) := by
    intro i hi x hx;rcases hok1 j hj i (h1 i hi) with h | h
    . rw [hnp i (DV _ hi)] at h; cases h
    . simpa [apt, opD, ho, hx] using h
   have hsub : (l1 ++ l2).Sublist (l1 ++ j :: l2) := List.Sublist.append_left (List.sublist_cons_self ..) l1;have hmem : ∀ i, i < n -> (i ∈ l1 ++ l2 ↔ (if i = j then true else L i) = false) := by
    intro i hi;by_cases hij : i = j
    . subst hij;simp only [if_true, List.mem_append];constructor
      . rintro (h | h)
        . exact absurd (h1 _ h) (DA _)
        . exact absurd (h2 _ h) (DA _)
      . intro h; cases h
    . rw [if_neg hij, <- S.mem i hi];simp [hij]
   cases hk : bY o.op with
   | true =>
    have hw1 : C.V j o w' := by
     intro hl;refine S.fr.sub ((mj _ C.E0 E 0 fun r hr => S.iJ r fun hk' => hr ?_).trans (DN ..));rw [Db];exact S.hid j hjl (by simp [opL, ho, hl]) r hk'
    obtain ⟨v, hv, hr⟩ := RW.aS hs ho hk hw1 l2 l1 S.rw_ (fun i hi x hx => (hap i hi x hx).1);refine om.wp (K := fun u w2 => u = v /\ w2 = w') ho ?_ ?_
    . rcases hv w' hw1 with ⟨e1, e2⟩ | ⟨e1, e2⟩
      . rw [if_pos e1];rcases e2 with e2 | ⟨e2, e3⟩
        . rw [e2]; exact ⟨rfl, rfl⟩
        . rw [e2, e3]; exact ⟨rfl, rfl⟩
      . rw [if_neg (by rw [e1]; decide), e2]; exact ⟨rfl, rfl⟩
    . rintro u w2 ⟨rfl, rfl⟩;obtain ⟨x', hx'⟩ := nL a.defers x o.dst u;exact ⟨x', hx', l1 ++ l2, G, E, Kt, hsub.trans S.sub, hmem, by rw [<- hx']; exact hr, S.fr, S.iJ, fun i hi => S.hid i (hsub.subset hi)⟩
   | false =>
    cases hk2 : dD o.op with
    | true =>
     obtain ⟨mk, t, cs, hnw, hr⟩ := RW.new hs ho hk hk2 l2 l1 S.rw_ (fun i hi x hx => (hap i hi x hx).1);refine om.wp (K := fun u w2 => u = mk w'.heap.size /\ w2 = w'.alloc (.cells cs.toArray t (0, 0))) ho ?_ ?_
     . rw [if_pos hnw.1, hnw.2 w']; exact ⟨rfl, rfl⟩
     . rintro u w2 ⟨rfl, rfl⟩;obtain ⟨x', hx'⟩ := nL a.defers x o.dst (mk w'.heap.size);refine ⟨x', hx', l1 ++ l2, _, E, Kt, hsub.trans S.sub, hmem, by rw [<- hx']; exact hr _, ?_, S.iJ, fun i hi => S.hid i (hsub.subset hi)⟩;exact S.fr.new (e := .row w'.heap.size t cs) ((Below.refl _ _).alloc (Ct _) _) (by have := aa.new w' cs.toArray t; simpa [En.F] using this) (by rintro b rfl; exact Ct _)
    | false =>
     obtain ⟨α, mk, G1, E1, K, hne, hc, hK, hE, hr⟩ := RW.chain hs ho hk hk2 l2 l1 S.rw_ (fun i hi x hx => by
      obtain ⟨q1, q2⟩ := hap i hi x hx;rw [hk, hk2] at q2;exact ⟨q1, by simpa using q2⟩)
     refine om.wp (K := fun u w2 => ∃ p, u = mk p /\ Fr C.S0 C.w0 w2 (G1 p ++ E1 p)) ho (hc [] w' (fun _ h => (DQ h).elim) S.fr) ?_;rintro u w2 ⟨p, rfl, hf⟩;obtain ⟨x', hx'⟩ := nL a.defers x o.dst (mk p);refine ⟨x', hx', l1 ++ l2, G1 p, E1 p, K ++ Kt, hsub.trans S.sub, hmem, by rw [<- hx']; exact hr p, hf, fun r hr' => ?_, fun i hi hid r hr' => ?_⟩
     . rw [hE p r (fun h => hr' (DV _ h))];exact S.iJ r (fun h => hr' (DS _ h))
     . rcases List.mem_append.1 hr' with hr' | hr'
       . unfold fU at hK;have := List.all_eq_true.1 hK i (List.mem_range.2 (by rw [hn]; exact hin i (hsub.subset hi)));simp only [EH, beq_iff_eq, DE, List.all_eq_true, List.contains_iff_mem] at this;have hij : i ≠ j := fun e => by
          subst e;rcases List.mem_append.1 hi with h | h
          . exact absurd (h1 _ h) (DA _)
          . exact absurd (h2 _ h) (DA _)
         rcases this with ((h | h) | h) | h
         . exact absurd h hij
         . rw [hnp i (hsub.subset hi)] at h; cases h
         . rw [hid] at h; cases h
         . exact h r hr'
       . exact S.hid i (hsub.subset hi) hid r hr'
 . rintro L x w' hL ⟨l, G, E, Kt, S⟩;have : l = [] := by
    cases l with
    | nil => rfl
    | cons i l =>
     have hi := (jO n 0 i).1 (S.sub.subset (CC ..));have := (S.mem i Cp).1 (CC ..);rw [hL i Cp] at this; cases this
   subst this;exact S.rw_ w' S.fr
theorem rgA (C : RC) {id n : Nat} {a : Act} {w : World} (hm : C.P.follows .mixedOrders = true) (hn : C.ops.size = n) (hok : l4 C.ops n = true) (H : Fr C.S0 C.w0 w C.E0) (h : RW C (uc n 0) [] C.E0 a) : (Code.region id C.ops true).wp C.P C.Q a w := wp_region_any hm (rgA1 C hn hok H h)
theorem rgB (C : RC) {n : Nat} (hn : C.ops.size = n) (hok : l4 C.ops n = true) : ∀ (l : List Nat) {G E : List En} {Kt : List Nat} {a : Act} {w : World}, l.Pairwise (· < ·) -> (∀ i ∈ l, i < n) -> RW C l G E a -> Fr C.S0 C.w0 w (G ++ E) -> (∀ r, r ∉ Kt -> E[r]? = C.E0[r]?) -> (∀ i ∈ l, opL C.ops i = true -> ∀ r ∈ Kt, r ∈ C.hd.getD i []) -> wpOps C.P C.ops C.Q l a w
 | [], G, E, Kt, a, w, _, _, h, hf, _, _ => h w hf
 | j :: l, G, E, Kt, a, w, hsrt, hin, h, hf, hkp, hid => by
  obtain ⟨hs, hb, hc, hok1, hlt⟩ := np hok;rw [wpOps_cons];obtain ⟨o, ho, h⟩ := h;have hjn := hin j (CC ..);have hs2 := List.pairwise_cons.1 hsrt;have hin' := fun i hi => hin i (CB _ hi);have hid' := fun i hi => hid i (CB _ hi);rcases h with ⟨hk, v, hv, hr⟩ | ⟨hk, hk2, mk, t, cs, hnw, hr⟩ | ⟨hk, hk2, α, mk, G1, E1, K, hne, hcn, hK, hE, hr⟩
  . have hw1 : C.V j o w := by
     intro hl;refine hf.sub ((mj _ C.E0 E 0 fun r hr => hkp r fun hk' => hr ?_).trans (DN ..));rw [Db];exact hid j (CC ..) (by simp [opL, ho, hl]) r hk'
    refine om.wp (K := fun u w2 => u = v /\ w2 = w) ho ?_ ?_
    . rcases hv w hw1 with ⟨e1, e2⟩ | ⟨e1, e2⟩
      . rw [if_pos e1];rcases e2 with e2 | ⟨e2, e3⟩
        . rw [e2]; exact ⟨rfl, rfl⟩
        . rw [e2, e3]; exact ⟨rfl, rfl⟩
      . rw [if_neg (by rw [e1]; decide), e2]; exact ⟨rfl, rfl⟩
    . rintro u w2 ⟨rfl, rfl⟩;exact rgB C hn hok l hs2.2 hin' hr hf hkp hid'
  . refine om.wp (K := fun u w2 => u = mk w.heap.size /\ w2 = w.alloc (.cells cs.toArray t (0, 0))) ho ?_ ?_
    . rw [if_pos hnw.1, hnw.2 w]; exact ⟨rfl, rfl⟩
    . rintro u w2 ⟨rfl, rfl⟩;exact rgB C hn hok l hs2.2 hin' (hr _) (hf.new (e := .row w.heap.size t cs) ((Below.refl _ _).alloc (Ct _) _) (by have := aa.new w cs.toArray t; simpa [En.F] using this) (by rintro b rfl; exact Ct _)) hkp hid'
  . refine om.wp (K := fun u w2 => ∃ p, u = mk p /\ Fr C.S0 C.w0 w2 (G1 p ++ E1 p)) ho (hcn [] w (fun _ h => (DQ h).elim) hf) ?_;rintro u w2 ⟨p, rfl, hf'⟩;refine rgB C hn hok l (Kt := K ++ Kt) hs2.2 hin' (hr p) hf' (fun r hr' => ?_) (fun i hi hdi r hr' => ?_)
    . rw [hE p r (fun h => hr' (DV _ h))];exact hkp r (fun h => hr' (DS _ h))
    . rcases List.mem_append.1 hr' with hr' | hr'
      . unfold fU at hK;have := List.all_eq_true.1 hK i (List.mem_range.2 (by rw [hn]; exact hin' i hi));simp only [EH, beq_iff_eq, DE, List.all_eq_true, List.contains_iff_mem] at this;have hij := hs2.1 i hi;rcases this with ((h | h) | h) | h
        . omega
        . have := BB hc hlt hjn h; omega
        . rw [hdi] at h; cases h
        . exact h r hr'
      . exact hid' i hi hdi r hr'
theorem rgB1 (C : RC) {n : Nat} {a : Act} {w : World} (hn : C.ops.size = n) (hok : l4 C.ops n = true) (H : Fr C.S0 C.w0 w C.E0) (h : RW C (uc n 0) [] C.E0 a) : wpOps C.P C.ops C.Q (List.range C.ops.size) a w := by
 have e : ∀ k j, uc k j = List.range' j k := by
  intro k;induction k with
  | zero => intro j; rfl
  | succ k ih => intro j; rw [uc, ih, List.range'_succ]
 rw [hn, List.range_eq_range', <- e];exact rgB C hn hok _ (kD n 0) (fun i hi => by have := (jO n 0 i).1 hi; omega) h H (Kt := []) (fun _ _ => rfl) (fun _ _ _ _ hr => by cases hr)
theorem rgC (C : RC) {id n : Nat} {d : Bool} {a : Act} {w : World} (hm : C.P.follows .mixedOrders = true) (hn : C.ops.size = n) (hok : l4 C.ops n = true) (H : Fr C.S0 C.w0 w C.E0) (h : RW C (uc n 0) [] C.E0 a) : (Code.region id C.ops d).wp C.P C.Q a w := by
 cases d with
 | true => exact rgA C hm hn hok H h
 | false => exact wp_region (rgB1 C hn hok H h)
def gi (xs : List Int) (i : Nat) : Int := xs.getD i 0
def gp (ps : List P4) (i : Nat) : P4 := ps.getD i p0
def rn (ps : List P4) (tl : List Value) : List Value := flat ps ++ tl
def bX (w : World) (ps : List P4) (xs : List Int) : Prop := ps.length = xs.length /\ ∀ i, i < ps.length -> aL w (av (gp ps i)) (gi xs i)
def aQ (w : World) (L : Nat) (ao : Option Addr) (xs : List Int) : Prop :=
 0 < xs.length -> ∃ b o, ao = some ⟨b, o, none⟩ /\ b < w.heap.size /\ ∀ i (h : i < xs.length), ∃ p : P4, w.cell? ⟨b, o + i * 2, none⟩ = some (.bool p.1) /\ w.cell? ⟨b, o + i * 2 + 1, none⟩ = some (.slice p.2.1 p.2.2.1 p.2.2.2) /\ ah w L (av p) xs[i]
def fq (w : World) (ao : Option Addr) (xs : List Int) : Prop :=
 0 < xs.length -> ∃ b o, ao = some ⟨b, o, none⟩ /\ b < w.heap.size /\ ∀ i (h : i < xs.length), ∃ p : P4, w.cell? ⟨b, o + i * 2, none⟩ = some (.bool p.1) /\ w.cell? ⟨b, o + i * 2 + 1, none⟩ = some (.slice p.2.1 p.2.2.1 p.2.2.2) /\ aL w (av p) xs[i]
def qD (ao : Option Addr) (k cap : Nat) (ps : List P4) (w : World) : Prop := ps.length = k /\ k <= cap /\ ((ao = none /\ cap = 0) \/ ∃ b tl, ao = some ⟨b, 0, none⟩ /\ aN tl /\ aa w b 37 (rn ps tl) /\ (rn ps tl).length = cap * 2)
def mL (te : TypeId) (sz : Nat) (ao : Option Addr) (k cap : Nat) (cs : List Value) (w : World) : Prop := cs.length = k * sz /\ k <= cap /\ ((ao = none /\ cap = 0) \/ ∃ b tl, ao = some ⟨b, 0, none⟩ /\ aN tl /\ aa w b te (cs ++ tl) /\ (cs ++ tl).length = cap * sz)
def En.mJ (ao : Option Addr) (ws : List Nat) : En := .fact false false (fun g => 0 < ws.length /\ ∃ o, ao = some ⟨g, o, none⟩) (fun w => cX w ao ws) (fun h b ⟨hl, o, e⟩ => by
 obtain ⟨b', o', e', hb, _⟩ := h.2 hl;rw [e] at e'; cases e'; exact hb)
 (fun {w w' T} h hc _ hs => ⟨h.1, fun hl => by
  obtain ⟨b, o, e, hb, hcl⟩ := h.2 hl;exact ⟨b, o, e, CK hb hc.size, fun i hi => (hc.cell (p := ⟨b, o + i, none⟩) hb (hs b ⟨hl, o, e⟩)).trans (hcl i hi)⟩⟩)
abbrev En.ns (ps : List P4) (xs : List Int) : En := .fact true false (fun _ => False) (fun w => bX w ps xs) (fun _ _ h => h.elim) (fun h hc hT _ => ⟨h.1, fun i a => hc.num (hT rfl).bZ (h.2 i a)⟩)
abbrev En.ls (L : Nat) (ao : Option Addr) (xs : List Int) : En := .fact true false (fun g => 0 < xs.length /\ ∃ o, ao = some ⟨g, o, none⟩) (fun w => aQ w L ao xs) (fun h b ⟨hl, o, e⟩ => by
 obtain ⟨b', o', e', hb, _⟩ := h hl;rw [e] at e'; cases e'; exact hb)
 (fun {w w' T} h hc hT hs hl => by
  obtain ⟨b, o, e, hb, hcl⟩ := h hl;refine ⟨b, o, e, CK hb hc.size, fun i hi => ?_⟩;obtain ⟨p, h0, h1, hn⟩ := hcl i hi;exact ⟨p, (hc.cell (p := ⟨b, o + i * 2, none⟩) hb (hs b ⟨hl, o, e⟩)).trans h0, (hc.cell (p := ⟨b, o + i * 2 + 1, none⟩) hb (hs b ⟨hl, o, e⟩)).trans h1, hc.int (hT rfl).bZ hn⟩)
abbrev En.jf (ao : Option Addr) (k cap : Nat) (ps : List P4) : En := .fact false true (fun g => ∃ o, ao = some ⟨g, o, none⟩) (qD ao k cap ps)
 (fun ⟨_, _, h⟩ b ⟨o, e⟩ => by
  rcases h with ⟨h, _⟩ | ⟨b', tl, h, _, hr, _⟩
  . rw [e] at h; cases h
  . rw [e] at h; cases h; exact hr.lt)
 (fun ⟨h1, h2, h⟩ hc _ hs => ⟨h1, h2, h.imp id fun ⟨b, tl, e, hn, hr, hl⟩ => ⟨b, tl, e, hn, hc.row hr (hs b ⟨0, e⟩), hl⟩⟩)
abbrev En.ia (L k : Nat) (ps : List P4) (xs : List Int) : En := .fact true false (fun _ => False) (fun w => ∀ i, i < k -> ah w L (av (gp ps i)) (gi xs i)) (fun _ _ h => h.elim) (fun h hc hT _ i hi => hc.int (hT rfl).bZ (h i hi))
abbrev En.jn (ao : Option Addr) (xs : List Int) : En := .fact true false (fun g => 0 < xs.length /\ ∃ o, ao = some ⟨g, o, none⟩) (fun w => fq w ao xs) (fun h b ⟨hl, o, e⟩ => by
 obtain ⟨b', o', e', hb, _⟩ := h hl;rw [e] at e'; cases e'; exact hb)
 (fun {w w' T} h hc hT hs hl => by
  obtain ⟨b, o, e, hb, hcl⟩ := h hl;refine ⟨b, o, e, CK hb hc.size, fun i hi => ?_⟩;obtain ⟨p, h0, h1, hn⟩ := hcl i hi;exact ⟨p, (hc.cell (p := ⟨b, o + i * 2, none⟩) hb (hs b ⟨hl, o, e⟩)).trans h0, (hc.cell (p := ⟨b, o + i * 2 + 1, none⟩) hb (hs b ⟨hl, o, e⟩)).trans h1, hc.num (hT rfl).bZ hn⟩)
abbrev En.pr (A : Prop) : En := .fact false false (fun _ => False) (fun _ => A) (fun _ _ h => h.elim) (fun h _ _ _ => h)
abbrev En.lg (te : TypeId) (sz : Nat) (ao : Option Addr) (k cap : Nat) (cs : List Value) : En := .fact false true (fun g => ∃ o, ao = some ⟨g, o, none⟩) (mL te sz ao k cap cs)
 (fun ⟨_, _, h⟩ b ⟨o, e⟩ => by
  rcases h with ⟨h, _⟩ | ⟨b', tl, h, _, hr, _⟩
  . rw [e] at h; cases h
  . rw [e] at h; cases h; exact hr.lt)
 (fun ⟨h1, h2, h⟩ hc _ hs => ⟨h1, h2, h.imp id fun ⟨b, tl, e, hn, hr, hl⟩ => ⟨b, tl, e, hn, hc.row hr (hs b ⟨0, e⟩), hl⟩⟩)
abbrev En.Bd (L : Nat) (hs : List (Option Addr × Nat)) (R : List (List Int)) : En := .fact true false (fun g => ∃ t, t < R.length /\ 0 < (R.getD t []).length /\ ∃ o, (hs.getD t (none, 0)).1 = some ⟨g, o, none⟩) (fun w => ∀ t, t < R.length -> aQ w L (hs.getD t (none, 0)).1 (R.getD t []))
 (fun h b ⟨t, ht, hl, o, e⟩ => by
  obtain ⟨b', o', e', hb, _⟩ := h t ht hl;rw [e] at e'; cases e'; exact hb)
 (fun {w w' T} h hc hT hs t ht hl => by
  obtain ⟨b, o, e, hb, hcl⟩ := h t ht hl;refine ⟨b, o, e, CK hb hc.size, fun i hi => ?_⟩;obtain ⟨p, h0, h1, hn⟩ := hcl i hi;exact ⟨p, (hc.cell (p := ⟨b, o + i * 2, none⟩) hb (hs b ⟨t, ht, hl, o, e⟩)).trans h0, (hc.cell (p := ⟨b, o + i * 2 + 1, none⟩) hb (hs b ⟨t, ht, hl, o, e⟩)).trans h1, hc.int (hT rfl).bZ hn⟩)
def Aj (x : Nat) (gs : List Nat) (E : List (List Int)) (w : World) : Prop := ∀ t, t < E.length -> t ≠ x -> ∃ (ps : List P4) (tl : List Value), aN tl /\ aa w (gs.getD t 0) 37 (rn ps tl) /\ bX w ps (E.getD t [])
abbrev En.jm (x : Nat) (gs : List Nat) (E : List (List Int)) : En := .fact true true (fun g => ∃ t, t < E.length /\ t ≠ x /\ g = gs.getD t 0) (Aj x gs E)
 (fun h b ⟨t, ht, hx, e⟩ => by
  obtain ⟨ps, tl, _, hr, _⟩ := h t ht hx;rw [e]; exact hr.lt)
 (fun h hc hT hs t ht hx => by
  obtain ⟨ps, tl, hn, hr, h1, h2⟩ := h t ht hx;exact ⟨ps, tl, hn, hc.row hr (hs _ ⟨t, ht, hx, rfl⟩), h1, fun i a => hc.num (hT rfl).bZ (h2 i a)⟩)
def uX (ao : Option Addr) (cs : List Value) (w : World) : Prop := 0 < cs.length -> ∃ b, ao = some ⟨b, 0, none⟩ /\ b < w.heap.size /\ ∀ (i : Nat) v, cs[i]? = some v -> w.cell? ⟨b, i, none⟩ = some v
abbrev En.rl (ao : Option Addr) (cs : List Value) : En := .fact false false (fun g => 0 < cs.length /\ ∃ o, ao = some ⟨g, o, none⟩) (uX ao cs)
 (fun h b ⟨hl, o, e⟩ => by
  obtain ⟨b', e', hb, _⟩ := h hl;rw [e] at e'; cases e'; exact hb)
 (fun {w w' T} h hc _ hs hl => by
  obtain ⟨b, e, hb, hcl⟩ := h hl;exact ⟨b, e, CK hb hc.size, fun i v hv => (hc.cell (p := ⟨b, i, none⟩) hb (hs b ⟨hl, 0, e⟩)).trans (hcl i v hv)⟩)
def dy : List (Nat × Value) -> Operand -> Value
 | _, .const v => v
 | _, .global g => .pointer (some ⟨g, 0, none⟩)
 | _, .func f => .func (.func f) #[] #[]
 | [], .tmp _ => undef
 | (s, v) :: l, .tmp t => if t = s then v else dy l (.tmp t)
theorem cQ : (∀ ls v, dy ls (.const v) = v) /\ (∀ ls g, dy ls (.global g) = .pointer (some ⟨g, 0, none⟩)) /\ (∀ ls f, dy ls (.func f) = .func (.func f) #[] #[]) /\ (∀ s v l t, dy ((s, v) :: l) (.tmp t) = if t = s then v else dy l (.tmp t)) :=
 ⟨fun ls _ => by cases ls <;> rfl, fun ls _ => by cases ls <;> rfl, fun ls _ => by cases ls <;> rfl, fun _ _ _ _ => rfl⟩
attribute [go_sem] cQ
def cl (p : P4) : List Value := [.bool p.1, .slice p.2.1 p.2.2.1 p.2.2.2]
def fe (ls : List (Nat × Value)) : Operand -> Bool
 | .tmp t => ls.any fun p => p.1 == t
 | _ => true
def ew (ls : List (Nat × Value)) (op : Op) : Bool := op.operands.toList.all (fe ls) && match op with | .select .. => false | _ => true
structure ko (ds : List Deferred) (n : Nat) (ls : List (Nat × Value)) (a : Act) : Prop where
 df : a.defers = ds
 sz : a.tmps.size = n
 vs : ∀ p ∈ ls, a.tmps[p.1]? = some (dy ls (.tmp p.1))
abbrev Sl := ko []
theorem ko.tmp {ds : List Deferred} {n : Nat} {ls : List (Nat × Value)} {a : Act} (h : ko ds n ls a) {t : Nat} (ht : fe ls (.tmp t) = true) : a.tmps[t]? = some (dy ls (.tmp t)) := by
 unfold fe at ht;obtain ⟨p, hp, hpt⟩ := List.any_eq_true.1 ht;simp only [beq_iff_eq] at hpt;subst hpt;exact h.vs p hp
theorem ko.ev {ds : List Deferred} {n : Nat} {ls : List (Nat × Value)} {a : Act} (h : ko ds n ls a) {x : Operand} (hx : fe ls x = true) : a.eval x = dy ls x := by
 cases x with
 | const v => rw [cQ.1]; rfl
 | global g => rw [cQ.2.1]; rfl
 | func f => rw [cQ.2.2.1]; rfl
 | tmp t => simp [Act.eval, h.tmp hx]
theorem ko.exec {ds : List Deferred} {n : Nat} {ls : List (Nat × Value)} {a : Act} (h : ko ds n ls a) {o : Oper} (hc : ew ls o.op = true) : execOp a.eval o = execOp (dy ls) o := by
 unfold ew at hc;rw [CO] at hc;refine execOp_congr o (fun cs b e => ?_) fun x hx => h.ev (List.all_eq_true.1 hc.1 x (Array.mem_toList_iff.2 hx));have := hc.2;rw [e] at this;cases this
theorem ko.put {ds : List Deferred} {n : Nat} {ls : List (Nat × Value)} {a : Act} (h : ko ds n ls a) {s : Nat} (hs : s < n) (v : Value) : ko ds n ((s, v) :: ls) (a.put (some s) v) := by
 refine ⟨h.df, by simp [Act.put, h.sz], fun p hp => ?_⟩;have hsz : s < a.tmps.size := by rw [h.sz]; exact hs
 by_cases he : p.1 = s
 . rw [he];simp [Act.put, dy, hsz]
 . rw [cQ.2.2.2, if_neg he];rcases List.mem_cons.1 hp with rfl | hp
   . exact absurd rfl he
   . simp only [Act.put, Array.getElem?_setIfInBounds_ne (fun e => he e.symm)];exact h.vs p hp
theorem ko.Cj {ds : List Deferred} {n : Nat} {ls : List (Nat × Value)} {a : Act} (h : ko ds n ls a) (v : Value) : ko ds n ls (a.put none v) := h
theorem ko.sub {ds : List Deferred} {n : Nat} {ls ls' : List (Nat × Value)} {a : Act} (h : ko ds n ls a) (hk : ∀ p ∈ ls', fe ls (.tmp p.1) = true /\ dy ls (.tmp p.1) = dy ls' (.tmp p.1)) : ko ds n ls' a :=
 ⟨h.df, h.sz, fun p hp => by rw [h.tmp (hk p hp).1, (hk p hp).2]⟩
theorem ai.r9 {T : Nat -> Prop} {w w' : World} {B : Nat} {v : Value} {x : Int} (hx : ai w B v x) (h : aU T w w') (hS : Wl T w) : ai w' B v x := by
 obtain ⟨ao, cap, rfl, h1, h2, h3, h4⟩ := hx;refine ⟨ao, cap, rfl, h1, h2, h3, ?_⟩;rcases h4 with h0 | ⟨g, c, cur, hv, hbb, hg, r⟩
 . exact .inl h0
 . refine .inr ⟨g, c, cur, hv, hbb, ?_, r⟩;rw [h.block g (Array.getElem?_eq_some_iff.1 hg).1 (fun hs => by
    obtain ⟨t, cs, hr, _, ht⟩ := hS g hs;unfold aa at hr;rw [hg] at hr;simp only [Option.some.injEq, Obj.cells.injEq] at hr;exact ht hr.2.1.symm)]
   exact hg
def En.own (B : Nat) (v : Value) (x : Int) : En := .fact true false (fun _ => False) (fun w => ai w B v x) (fun _ _ h => h.elim) (fun h hc hT _ => ai.r9 h hc (hT rfl))
def En.at (L : Nat) (v : Value) (x : Int) : En := .fact true false (fun _ => False) (fun w => ah w L v x) (fun _ _ h => h.elim) (fun h hc hT _ => hc.int (hT rfl).bZ h)
def En.num (v : Value) (x : Int) : En := .fact true false (fun _ => False) (fun w => aL w v x) (fun _ _ h => h.elim) (fun h hc hT _ => hc.num (hT rfl).bZ h)
def En.ow (B : Nat) (ao : Option Addr) (m cap : Nat) : En := .fact true false (fun _ => False) (fun w => db w B ao (ag m) cap (fM m)) (fun _ _ h => h.elim) (fun {w w' T} h hc hT _ => by
 have := ai.r9 (ai.mk false h) hc (hT rfl);obtain ⟨ao', cap', e, ho⟩ := this;rw [ij] at e ho;cases e;exact ho)
def fV (w : World) : List En -> Prop
 | [] => True
 | .row b _ cs :: l => (∀ i, w.cell? ⟨b, i, none⟩ = cs[i]?) /\ fV w l
 | .cell a v :: l => w.cell? a = some v /\ fV w l
 | .fact .. :: l => fV w l
theorem tT (w : World) : (∀ b t cs l, fV w (.row b t cs :: l) = ((∀ i, w.cell? ⟨b, i, none⟩ = cs[i]?) /\ fV w l)) /\ (∀ a v l, fV w (.cell a v :: l) = (w.cell? a = some v /\ fV w l)) /\ (∀ B v x l, fV w (.own B v x :: l) = fV w l) /\ (∀ B v x l, fV w (.at B v x :: l) = fV w l) /\ (∀ v x l, fV w (.num v x :: l) = fV w l) /\ (∀ B a m k l, fV w (.ow B a m k :: l) = fV w l) /\ fV w [] = True /\ (∀ l, fV w ([] ++ l) = fV w l) /\ (∀ e l l', fV w ((e :: l) ++ l') = fV w (e :: (l ++ l'))) /\ (∀ a ws l, fV w (.mJ a ws :: l) = fV w l) /\ (∀ ps xs l, fV w (.ns ps xs :: l) = fV w l) /\ (∀ L a xs l, fV w (.ls L a xs :: l) = fV w l) /\ (∀ a k c ps l, fV w (.jf a k c ps :: l) = fV w l) /\ (∀ L k ps xs l, fV w (.ia L k ps xs :: l) = fV w l) /\ (∀ a xs l, fV w (.jn a xs :: l) = fV w l) /\ (∀ A l, fV w (.pr A :: l) = fV w l) /\ (∀ t s a k c cs l, fV w (.lg t s a k c cs :: l) = fV w l) /\ (∀ L h R l, fV w (.Bd L h R :: l) = fV w l) /\ (∀ x g E l, fV w (.jm x g E :: l) = fV w l) /\ ∀ a cs l, fV w (.rl a cs :: l) = fV w l :=
 ⟨fun _ _ _ _ => rfl, fun _ _ _ => rfl, fun _ _ _ _ => rfl, fun _ _ _ _ => rfl, fun _ _ _ => rfl, fun _ _ _ _ _ => rfl, rfl, fun _ => rfl, fun _ _ _ => rfl, fun _ _ _ => rfl, fun _ _ _ => rfl, fun _ _ _ _ => rfl, fun _ _ _ _ _ => rfl, fun _ _ _ _ _ => rfl, fun _ _ _ => rfl, fun _ _ => rfl, fun _ _ _ _ _ _ _ => rfl, fun _ _ _ _ => rfl, fun _ _ _ _ => rfl, fun _ _ _ => rfl⟩
theorem fV.of (w : World) : ∀ es : List En, (∀ e ∈ es, e.F w) -> fV w es
 | [], _ => trivial
 | .row b t cs :: l, h => ⟨aa.cell (h _ (CC ..)), fV.of w l fun e he => h e (CB _ he)⟩
 | .cell a v :: l, h => ⟨h _ (CC ..), fV.of w l fun e he => h e (CB _ he)⟩
 | .fact .. :: l, h => fV.of w l fun e he => h e (CB _ he)
section
variable {S0 : Nat -> Prop} {w0 w : World} {es : List En}
theorem Fr.c (h : Fr S0 w0 w es) : fV w es := fV.of w es h.all
variable {e0 e1 e2 e3 e4 e5 e6 e7 e8 e9 e10 e11 e12 e13 e14 e15 e16 : En}
theorem Fr.m0 (h : Fr S0 w0 w (e0 :: es)) : e0.F w := h.all _ (CC ..)
theorem Fr.tl (h : Fr S0 w0 w (e0 :: es)) : Fr S0 w0 w es := h.sub (List.sublist_cons_self ..)
theorem Fr.m1 (h : Fr S0 w0 w (e0 :: e1 :: es)) : e1.F w := h.tl.m0
theorem Fr.m2 (h : Fr S0 w0 w (e0 :: e1 :: e2 :: es)) : e2.F w := h.tl.m1
theorem Fr.m3 (h : Fr S0 w0 w (e0 :: e1 :: e2 :: e3 :: es)) : e3.F w := h.tl.m2
theorem Fr.m4 (h : Fr S0 w0 w (e0 :: e1 :: e2 :: e3 :: e4 :: es)) : e4.F w := h.tl.m3
theorem Fr.m5 (h : Fr S0 w0 w (e0 :: e1 :: e2 :: e3 :: e4 :: e5 :: es)) : e5.F w := h.tl.m4
theorem Fr.m6 (h : Fr S0 w0 w (e0 :: e1 :: e2 :: e3 :: e4 :: e5 :: e6 :: es)) : e6.F w := h.tl.m5
theorem Fr.m7 (h : Fr S0 w0 w (e0 :: e1 :: e2 :: e3 :: e4 :: e5 :: e6 :: e7 :: es)) : e7.F w := h.tl.m6
theorem Fr.m8 (h : Fr S0 w0 w (e0 :: e1 :: e2 :: e3 :: e4 :: e5 :: e6 :: e7 :: e8 :: es)) : e8.F w := h.tl.m7
theorem Fr.m9 (h : Fr S0 w0 w (e0 :: e1 :: e2 :: e3 :: e4 :: e5 :: e6 :: e7 :: e8 :: e9 :: es)) : e9.F w := h.tl.m8
theorem Fr.m10 (h : Fr S0 w0 w (e0 :: e1 :: e2 :: e3 :: e4 :: e5 :: e6 :: e7 :: e8 :: e9 :: e10 :: es)) : e10.F w := h.tl.m9
theorem Fr.m11 (h : Fr S0 w0 w (e0 :: e1 :: e2 :: e3 :: e4 :: e5 :: e6 :: e7 :: e8 :: e9 :: e10 :: e11 :: es)) : e11.F w := h.tl.m10
theorem Fr.m12 (h : Fr S0 w0 w (e0 :: e1 :: e2 :: e3 :: e4 :: e5 :: e6 :: e7 :: e8 :: e9 :: e10 :: e11 :: e12 :: es)) : e12.F w := h.tl.m11
end
def dY (ds : List Deferred) (C : RC) (n : Nat) (l : List Nat) (G E : List En) (ls : List (Nat × Value)) : Prop := ∀ a, ko ds n ls a -> RW C l G E a
def fg (ds : List Deferred) (P : Program) (n : Nat) (S0 : Nat -> Prop) (w0 : World) (c : Code) (Q : Exit -> Act -> World -> Prop) (ls : List (Nat × Value)) (es : List En) : Prop := ∀ a w, ko ds n ls a -> Fr S0 w0 w es -> c.wp P Q a w
def nG (ds : List Deferred) (n : Nat) (S0 : Nat -> Prop) (w0 : World) (Q : Exit -> Act -> World -> Prop) (e : Exit) (ls : List (Nat × Value)) (es : List En) : Prop := ∀ a w, ko ds n ls a -> Fr S0 w0 w es -> Q e a w
abbrev RWs := dY []
abbrev CW := fg []
abbrev QW := nG []
inductive Rm (e : En) : List En -> List En -> Prop where
 | z {l : List En} : Rm e (e :: l) l
 | s {x : En} {l l' : List En} (h : Rm e l l') : Rm e (x :: l) (x :: l')
inductive Pk : List En -> List En -> Prop where
 | n {l : List En} : Pk l []
 | c {e : En} {l l1 r : List En} (h : Rm e l l1) (k : Pk l1 r) : Pk l (e :: r)
theorem Rm.perm {e : En} {l l' : List En} (h : Rm e l l') : l.Perm (e :: l') := by
 induction h with
 | z => exact .refl _
 | @s x l l' h ih => exact (ih.cons x).trans (.swap ..)
theorem Pk.perm {l r : List En} (h : Pk l r) : ∃ m, l.Perm (r ++ m) := by
 induction h with
 | n => exact ⟨_, .refl _⟩
 | c h _ ih =>
  obtain ⟨m, hm⟩ := ih;exact ⟨m, h.perm.trans (hm.cons _)⟩
theorem Fr.pick {S0 : Nat -> Prop} {w0 w : World} {es es' : List En} (h : Fr S0 w0 w es) (k : Pk es es') : Fr S0 w0 w es' := by
 obtain ⟨m, hm⟩ := k.perm;exact (h.perm hm).sub (List.sublist_append_left ..)
section
variable {P : Program} {ops : Array Oper} {Q : Exit -> Act -> World -> Prop} {ds : List Deferred} {S0 : Nat -> Prop} {w0 : World} {E0 : List En} {hd : List (List Nat)} {n j s : Nat} {l : List Nat} {G E : List En} {ls : List (Nat × Value)} {op : Op} {ty : TypeId} {pos : String} {af : Array Edge} {v : Value}
theorem zm {o : Oper} {y : Nat -> Option Bool} {A B : Prop} (hg : o.guard = none) (h : A) : if Region.wanted o y = true then A else B := by
 rw [if_pos (by simp [Region.wanted, hg])]; exact h
theorem dW (k : dY ds ⟨P, ops, Q, S0, w0, E0, []⟩ n l G E ((s, v) :: ls))
 (ho : ops[j]? = some ⟨some s, op, ty, pos, af, none⟩ := by rfl) (hk : (bY op && ew ls op && Nat.blt s n) = true := by kernel_rfl)
 (hr : ∀ w, (qM op = true -> Fr S0 w0 w E0) -> (execOp (dy ls) ⟨some s, op, ty, pos, af, none⟩).run P w = .ok (.value v) w := by intro w H; (first | (have c := (H rfl).c; try simp only [tT, cl, Dp, Dt] at c) | skip); clear H; go_simp <;> with_reducible rfl) : dY ds ⟨P, ops, Q, S0, w0, E0, []⟩ n (j :: l) G E ls := fun a ha => by
 simp only [CO] at hk;refine ⟨_, ho, .inl ⟨hk.1.1, v, fun w hw => .inl ⟨rfl, .inl ?_⟩, k _ (ha.put (CR hk.2) v)⟩⟩;rw [ha.exec hk.1.2];exact hr w fun hl => by simpa [lM] using hw hl
theorem dH (k : dY ds ⟨P, ops, Q, S0, w0, E0, hd⟩ n l G E ((s, v) :: ls))
 (ho : ops[j]? = some ⟨some s, op, ty, pos, af, none⟩ := by rfl) (hk : (bY op && ew ls op && Nat.blt s n) = true := by kernel_rfl)
 (hr : ∀ w, (qM op = true -> Fr S0 w0 w (lq 0 E0 (hd.getD j []))) -> (execOp (dy ls) ⟨some s, op, ty, pos, af, none⟩).run P w = .ok (.value v) w := by intro w H; (first | (have c := (H rfl).c; try simp only [lq, List.getD_cons_zero, List.getD_cons_succ, List.getD_nil, List.contains_cons, List.contains_nil, Nat.reduceBEq, Nat.reduceAdd, Bool.or_false, Bool.false_or, Bool.or_true, Bool.true_or, Bool.false_eq_true, ↓reduceIte, tT, cl, Dp, Dt] at c) | skip); clear H; go_simp <;> with_reducible rfl) : dY ds ⟨P, ops, Q, S0, w0, E0, hd⟩ n (j :: l) G E ls := fun a ha => by
 simp only [CO] at hk;refine ⟨_, ho, .inl ⟨hk.1.1, v, fun w hw => .inl ⟨rfl, .inl ?_⟩, k _ (ha.put (CR hk.2) v)⟩⟩;rw [ha.exec hk.1.2];exact hr w hw
theorem aW {t : TypeId} {cs : List Value} (k : ∀ g, dY ds ⟨P, ops, Q, S0, w0, E0, hd⟩ n l (.row g t cs :: G) E ((s, .pointer (some ⟨g, 0, none⟩)) :: ls))
 (ho : ops[j]? = some ⟨some s, op, ty, pos, af, none⟩ := by rfl) (hk : (!bY op && dD op && ew ls op && Nat.blt s n) = true := by kernel_rfl)
 (hr : ∀ w, (execOp (dy ls) ⟨some s, op, ty, pos, af, none⟩).run P w = .ok (.value (.pointer (some ⟨w.heap.size, 0, none⟩))) (w.alloc (.cells cs.toArray t (0, 0))) := by intro w; (try simp only [av]); go_simp <;> with_reducible rfl) : dY ds ⟨P, ops, Q, S0, w0, E0, hd⟩ n (j :: l) G E ls := fun a ha => by
 simp only [CO, DE] at hk;refine ⟨_, ho, .inr (.inl ⟨hk.1.1.1, hk.1.1.2, fun g => .pointer (some ⟨g, 0, none⟩), t, cs, ⟨rfl, fun w => ?_⟩, fun g => k g _ (ha.put (CR hk.2) _)⟩)⟩;rw [ha.exec hk.1.2];exact hr w
def Nw (w w' : World) (es : List En) : Prop := Below w.heap.size w w' /\ (∀ e ∈ es, e.F w' /\ ∀ b, e.S b -> w.heap.size <= b) /\ es.Pairwise Ap
theorem Nw.fr {w w' : World} {es E : List En} (h : Nw w w' es) (hf : Fr S0 w0 w E) : Fr S0 w0 w' (es ++ E) := by
 obtain ⟨hb, he, hp⟩ := h;induction es with
 | nil => exact hf.grow hb
 | cons e es ih =>
  have hp' := List.pairwise_cons.1 hp;have h1 := ih (fun x hx => he x (CB _ hx)) hp'.2;obtain ⟨h2, h3⟩ := he e (CC ..);refine h1.cons h2 (fun e' he' => ?_) (fun _ b hb => .inr (Cw hf.size (h3 b hb)));rcases List.mem_append.1 he' with he' | he'
  . exact hp'.1 e' he'
  . exact ⟨fun _ b h4 h5 => by have := h3 b h4; have := En.lt (hf.all e' he') b h5; omega, fun _ b h4 h5 => by have := h3 b h5; have := En.lt (hf.all e' he') b h4; omega⟩
theorem cG {α : Type} {mk : α -> Value} {ens : α -> List En} {f : FuncId} {args : Array Value} (c : ∀ w, Fr S0 w0 w (G ++ E) -> Calls P f args w fun e w' => ∃ p, e = .returned (mk p) /\ Nw w w' (ens p))
 (k : ∀ p, dY ds ⟨P, ops, Q, S0, w0, E0, hd⟩ n l (ens p ++ G) E ((s, mk p) :: ls))
 (ho : ops[j]? = some ⟨some s, op, ty, pos, af, none⟩ := by rfl) (hk : (!bY op && !dD op && ew ls op && Nat.blt s n) = true := by kernel_rfl)
 (hr : ∀ w, (execOp (dy ls) ⟨some s, op, ty, pos, af, none⟩).run P w = .ok (.enter f args) w := by intro w; (try simp only [av]); go_simp <;> with_reducible rfl) (hne : Nonempty α := by infer_instance)
 (hst : fU ops hd j [] = true := by kernel_rfl) : dY ds ⟨P, ops, Q, S0, w0, E0, hd⟩ n (j :: l) G E ls := fun a ha => by
 simp only [CO, DE] at hk;refine ⟨_, ho, .inr (.inr ⟨hk.1.1.1, hk.1.1.2, α, mk, fun p => ens p ++ G, fun _ => E, [], hne, fun X w hX hw => ?_, hst, fun _ _ _ => rfl, fun p => k p _ (ha.put (CR hk.2) _)⟩)⟩;refine zm rfl ?_;show om P _ ((execOp a.eval _).run P w);rw [ha.exec hk.1.2, hr w];refine (c w (hw.sub (DN ..))).mono ?_;rintro e w' ⟨p, rfl, hn⟩;refine ⟨_, rfl, p, rfl, (hn.fr hw).perm ?_⟩;rw [EL];exact (EB (ens p) X (G ++ E))
theorem cN {f : FuncId} {args : Array Value} {x : Int} (c : ∀ w, Fr S0 w0 w (G ++ E) -> Calls P f args w fun e w' => (∃ v, e = .returned v /\ ai w' w.heap.size v x) /\ Below w.heap.size w w')
 (k : ∀ p : P4, dY ds ⟨P, ops, Q, S0, w0, E0, hd⟩ n l (.own w0.heap.size (av p) x :: G) E ((s, .agg #[.bool p.1, .slice p.2.1 p.2.2.1 p.2.2.2]) :: ls))
 (ho : ops[j]? = some ⟨some s, op, ty, pos, af, none⟩ := by rfl) (hk : (!bY op && !dD op && ew ls op && Nat.blt s n) = true := by kernel_rfl)
 (hr : ∀ w, (execOp (dy ls) ⟨some s, op, ty, pos, af, none⟩).run P w = .ok (.enter f args) w := by intro w; (try simp only [av]); go_simp <;> with_reducible rfl)
 (hst : fU ops hd j [] = true := by kernel_rfl) : dY ds ⟨P, ops, Q, S0, w0, E0, hd⟩ n (j :: l) G E ls := by
 refine cG (mk := av) (ens := fun p => [.own w0.heap.size (av p) x]) (fun w hw => (c w hw).mono ?_) k ho hk hr ⟨p0⟩ hst;rintro e w' ⟨⟨v, rfl, hv⟩, hb⟩;obtain ⟨b, ao, l', k', rfl⟩ := ai.parts hv;exact ⟨(b, ao, l', k'), rfl, hb, fun e he => by
  rcases List.mem_singleton.1 he with rfl;exact ⟨ai.mono hv hw.size, fun _ h => h.elim⟩, CM ..⟩
theorem cV {f : FuncId} {args : Array Value} (c : ∀ w, Fr S0 w0 w (G ++ E) -> Calls P f args w fun e w' => e = .returned v /\ Below w.heap.size w w')
 (k : dY ds ⟨P, ops, Q, S0, w0, E0, hd⟩ n l G E ((s, v) :: ls))
 (ho : ops[j]? = some ⟨some s, op, ty, pos, af, none⟩ := by rfl) (hk : (!bY op && !dD op && ew ls op && Nat.blt s n) = true := by kernel_rfl)
 (hr : ∀ w, (execOp (dy ls) ⟨some s, op, ty, pos, af, none⟩).run P w = .ok (.enter f args) w := by intro w; (try simp only [av]); go_simp <;> with_reducible rfl)
 (hst : fU ops hd j [] = true := by kernel_rfl) : dY ds ⟨P, ops, Q, S0, w0, E0, hd⟩ n (j :: l) G E ls := by
 refine cG (α := Unit) (mk := fun _ => v) (ens := fun _ => []) (fun w hw => (c w hw).mono ?_) (fun _ => k) ho hk hr ⟨()⟩ hst;rintro e w' ⟨rfl, hb⟩;exact ⟨(), rfl, hb, fun e he => (DQ he).elim, .nil⟩
theorem Up.left' {e e' : En} {i : Nat} {g g' : List En} (h : Up e e' i g g') (X l : List En) : ∃ m, (X ++ (g ++ l)).Perm (e :: m) /\ (X ++ (g' ++ l)).Perm (e' :: m) := by
 obtain ⟨m, h1, h2⟩ := h.left l;exact ⟨X ++ m, (h1.append_left X).trans DP, (h2.append_left X).trans DP⟩
theorem Up.right' {e e' : En} {i : Nat} {l l' : List En} (h : Up e e' i l l') (X g : List En) : ∃ m, (X ++ (g ++ l)).Perm (e :: m) /\ (X ++ (g ++ l')).Perm (e' :: m) := by
 obtain ⟨m, h1, h2⟩ := h.right g;exact ⟨X ++ m, (h1.append_left X).trans DP, (h2.append_left X).trans DP⟩
theorem sW {b k i : Nat} {t : TypeId} {cs us cs' : List Value} {ad x : Operand} {sty : TypeId} {E' : List En}
 (k' : dY ds ⟨P, ops, Q, S0, w0, E0, hd⟩ n l G E' ls)
 (ho : ops[j]? = some ⟨none, .store sty ad x, ty, pos, af, none⟩ := by rfl) (hk : ew ls (.store sty ad x) = true := by kernel_rfl)
 (ha : dy ls ad = .pointer (some ⟨b, k, none⟩) := by (simp only [cQ, Nat.reduceEqDiff, ↓reduceIte]) <;> rfl)
 (hv : (dy ls x).cells = us.toArray := by (simp only [cQ, Nat.reduceEqDiff, ↓reduceIte, av, Value.cells]) <;> rfl)
 (hE : Up (.row b t cs) (.row b t cs') i E E' := by repeat first | exact .z | apply Up.s)
 (hU : j0 cs k us = cs' := by first | ((simp only [cl, Dp, Dt, j0, List.set_cons_zero, ES, Nat.reduceAdd]) <;> rfl) | rfl)
 (hu : aN cs /\ t ≠ 60 := by exact ⟨by first | exact gH _ | repeat (first | exact aN.nil | exact gH _ | apply aN.bool | apply aN.slice | apply aN.i64 | apply aN.ptr | apply aN.append | unfold cl), by decide⟩)
 (hr : ∀ w, aa w b t cs -> (execOp (dy ls) ⟨none, .store sty ad x, ty, pos, af, none⟩).run P w = .ok .skip (qy w b k us) := by intro w h; have c := h.cell; have f := h.free; (try simp only [cl, Dp, Dt] at c); go_simp <;> rfl)
 (hst : fU ops hd j [i] = true := by kernel_rfl) : dY ds ⟨P, ops, Q, S0, w0, E0, hd⟩ n (j :: l) G E ls := fun a hA => by
 refine ⟨_, ho, .inr (.inr ⟨rfl, rfl, Unit, fun _ => undef, fun _ => G, fun _ => E', [i], ⟨()⟩, fun X w hX hw => ?_, hst, fun _ r hr => hE.other (by simpa using hr), fun _ => k' _ (hA.Cj _)⟩)⟩;subst hU;obtain ⟨m, h1, h2⟩ := hE.right' X G;have hrow : aa w b t cs := (hw.perm h1).all _ (CC ..);refine zm rfl ?_;show om P _ ((execOp a.eval _).run P w);rw [hA.exec (o := ⟨none, .store sty ad x, ty, pos, af, none⟩) hk, hr w hrow];exact ⟨(), rfl, hw.st us k (.inl hu) h1 h2⟩
theorem sG {b k i : Nat} {t : TypeId} {cs us cs' : List Value} {ad x : Operand} {sty : TypeId} {G' : List En}
 (k' : dY ds ⟨P, ops, Q, S0, w0, E0, hd⟩ n l G' E ls)
 (ho : ops[j]? = some ⟨none, .store sty ad x, ty, pos, af, none⟩ := by rfl) (hk : ew ls (.store sty ad x) = true := by kernel_rfl)
 (ha : dy ls ad = .pointer (some ⟨b, k, none⟩) := by (simp only [cQ, Nat.reduceEqDiff, ↓reduceIte]) <;> rfl)
 (hv : (dy ls x).cells = us.toArray := by (simp only [cQ, Nat.reduceEqDiff, ↓reduceIte, av, Value.cells]) <;> rfl)
 (hE : Up (.row b t cs) (.row b t cs') i G G' := by repeat first | exact .z | apply Up.s)
 (hU : j0 cs k us = cs' := by first | ((simp only [cl, Dp, Dt, j0, List.set_cons_zero, ES, Nat.reduceAdd]) <;> rfl) | rfl)
 (hu : aN cs /\ t ≠ 60 := by exact ⟨by first | exact gH _ | repeat (first | exact aN.nil | exact gH _ | apply aN.bool | apply aN.slice | apply aN.i64 | apply aN.ptr | apply aN.append | unfold cl), by decide⟩)
 (hr : ∀ w, aa w b t cs -> (execOp (dy ls) ⟨none, .store sty ad x, ty, pos, af, none⟩).run P w = .ok .skip (qy w b k us) := by intro w h; have c := h.cell; have f := h.free; (try simp only [cl, Dp, Dt] at c); go_simp <;> rfl)
 (hst : fU ops hd j [] = true := by kernel_rfl) : dY ds ⟨P, ops, Q, S0, w0, E0, hd⟩ n (j :: l) G E ls := fun a hA => by
 refine ⟨_, ho, .inr (.inr ⟨rfl, rfl, Unit, fun _ => undef, fun _ => G', fun _ => E, [], ⟨()⟩, fun X w hX hw => ?_, hst, fun _ _ _ => rfl, fun _ => k' _ (hA.Cj _)⟩)⟩;subst hU;obtain ⟨m, h1, h2⟩ := hE.left' X E;have hrow : aa w b t cs := (hw.perm h1).all _ (CC ..);refine zm rfl ?_;show om P _ ((execOp a.eval _).run P w);rw [hA.exec (o := ⟨none, .store sty ad x, ty, pos, af, none⟩) hk, hr w hrow];exact ⟨(), rfl, hw.st us k (.inl hu) h1 h2⟩
theorem eW {D : List En} (k : nG ds n S0 w0 Q .normal ls D) (hD : G ++ E = D := by (try simp only [Dp, Dt, j0, List.set_cons_zero, ES]); rfl) : dY ds ⟨P, ops, Q, S0, w0, E0, hd⟩ n [] G E ls := fun a ha w hw => k a w ha (hD ▸ hw)
variable {es : List En} {Qx : Exit -> Act -> World -> Prop}
theorem rW {id m : Nat} {d : Bool} (hd : List (List Nat)) (k : dY ds ⟨P, ops, Q, S0, w0, es, hd⟩ n (uc m 0) [] es ls) (hm : P.follows .mixedOrders = true := by kernel_rfl) (hn : ops.size = m := by rfl) (hok : l4 ops m = true := by kernel_rfl) : fg ds P n S0 w0 (.region id ops d) Q ls es :=
 fun a w ha hw => rgC ⟨P, ops, Q, S0, w0, es, hd⟩ hm hn hok hw (k a ha)
theorem Bj {x y : Code} (k : fg ds P n S0 w0 x (Exit.then (y.wp P Q) Q) ls es) : fg ds P n S0 w0 (.seq x y) Q ls es := fun a w ha hw => wp_seq (k a w ha hw)
theorem AR (k : nG ds n S0 w0 Q .normal ls es) : fg ds P n S0 w0 .skip Q ls es := fun a w ha hw => wp_skip (k a w ha hw)
theorem retW (k : nG ds n S0 w0 Q .ret ls es) : fg ds P n S0 w0 .ret Q ls es := fun a w ha hw => wp_ret (k a w ha hw)
theorem exitW {id : Nat} (k : nG ds n S0 w0 Q (.exit id) ls es) : fg ds P n S0 w0 (.exit id) Q ls es := fun a w ha hw => wp_exit (k a w ha hw)
theorem Cc {id : Nat} {c : Code} (k : fg ds P n S0 w0 c (Exit.inBlock id Q) ls es) : fg ds P n S0 w0 (.block id c) Q ls es := fun a w ha hw => wp_block (k a w ha hw)
theorem yl {y : Code} (k : fg ds P n S0 w0 y Q ls es) : nG ds n S0 w0 (Exit.then (y.wp P Q) Qx) .normal ls es := k
theorem AX {K : Act -> World -> Prop} {id : Nat} (k : nG ds n S0 w0 Q (.exit id) ls es) : nG ds n S0 w0 (Exit.then K Q) (.exit id) ls es := k
theorem thenR {K : Act -> World -> Prop} (k : nG ds n S0 w0 Q .ret ls es) : nG ds n S0 w0 (Exit.then K Q) .ret ls es := k
theorem inbN {id : Nat} (k : nG ds n S0 w0 Q .normal ls es) : nG ds n S0 w0 (Exit.inBlock id Q) .normal ls es := k
theorem inbR {id : Nat} (k : nG ds n S0 w0 Q .ret ls es) : nG ds n S0 w0 (Exit.inBlock id Q) .ret ls es := k
theorem inbE {id : Nat} (k : nG ds n S0 w0 Q .normal ls es) : nG ds n S0 w0 (Exit.inBlock id Q) (.exit id) ls es := fun a w ha hw => by
 show if id = id then _ else _;rw [if_pos rfl]; exact k a w ha hw
theorem jY {Z R : Prop} (k : R) (h : R -> Z := by
 intro k;repeat (first | refine Bj ?_ | refine AR ?_ | refine yl ?_ | refine Cc ?_ | refine exitW ?_ | refine retW ?_ | refine AX ?_ | refine thenR ?_ | refine inbN ?_ | refine inbR ?_ | refine inbE ?_ | refine inbX Cr ?_)
 exact k) : Z := h k
theorem ld {b : Bool} {c : Operand} {x y : Code} (h1 : b = true -> fg ds P n S0 w0 x Q ls es) (h2 : b = false -> fg ds P n S0 w0 y Q ls es) (hc : fe ls c = true := by kernel_rfl) (hb : dy ls c = .bool b := by (simp only [cQ, Nat.reduceEqDiff, ↓reduceIte]) <;> rfl) : fg ds P n S0 w0 (.cond c x y) Q ls es :=
 fun a w ha hw => wp_cond_split (t := b) ((ha.ev hc).trans hb) (fun h => h1 h a w ha hw) (fun h => h2 h a w ha hw)
theorem nM {c : Operand} {x y : Code} (k : fg ds P n S0 w0 x Q ls es) (hc : fe ls c = true := by kernel_rfl) (hb : dy ls c = .bool true := by (simp only [cQ, Nat.reduceEqDiff, ↓reduceIte]) <;> first | rfl | simp [*]) : fg ds P n S0 w0 (.cond c x y) Q ls es :=
 ld (b := true) (fun _ => k) (fun h => by cases h) hc hb
theorem kf {c : Operand} {x y : Code} (k : fg ds P n S0 w0 y Q ls es) (hc : fe ls c = true := by kernel_rfl) (hb : dy ls c = .bool false := by (simp only [cQ, Nat.reduceEqDiff, ↓reduceIte]) <;> first | rfl | simp [*]) : fg ds P n S0 w0 (.cond c x y) Q ls es :=
 ld (b := false) (fun h => by cases h) (fun _ => k) hc hb
theorem cF {X : Type} {c : Code} (I : X -> Prop) (m : X -> Nat) (lx : X -> List (Nat × Value)) (ex : X -> List En) (x0 : X) (h0 : I x0) 
 (round : ∀ x, I x -> fg ds P n S0 w0 c (Exit.then (fun a w => ∃ y, (I y /\ m y < m x) /\ ko ds n (lx y) a /\ Fr S0 w0 w (ex y)) Q) (lx x) (ex x)) (hs : ∀ a, ko ds n ls a -> ko ds n (lx x0) a := by intro a h; refine h.sub ?_; simp [fe, cQ]) (he : ∀ w, Fr S0 w0 w es -> Fr S0 w0 w (ex x0) := by intro w h; first | exact h | exact h.pick (by repeat (first | exact Pk.n | refine Pk.c (by repeat (first | exact Rm.z | apply Rm.s)) ?_))) : fg ds P n S0 w0 (.loop c) Q ls es := fun a w ha hw => by
 obtain ⟨μ, hμ⟩ := vS (α := Act × World) (fun k p => ∃ x, I x /\ m x = k /\ ko ds n (lx x) p.1 /\ Fr S0 w0 p.2 (ex x));refine wp_loop (fun a w => ∃ x, I x /\ ko ds n (lx x) a /\ Fr S0 w0 w (ex x)) (fun a w => μ (a, w)) ⟨x0, h0, hs a ha, he w hw⟩ ?_;rintro a w ⟨x, hx, h1, h2⟩;obtain ⟨⟨x', hx', hm, h1', h2'⟩, hle⟩ := hμ (a, w) (m x) ⟨x, hx, rfl, h1, h2⟩;refine Code.wp_mono ?_ (round x' hx' a w h1' h2');intro e a2 w2 hq;cases e with
 | normal =>
  obtain ⟨y, ⟨hy, hlt⟩, h3, h4⟩ := hq;refine ⟨⟨y, hy, h3, h4⟩, CT (hμ (a2, w2) (m y) ⟨y, hy, rfl, h3, h4⟩).2 ?_⟩;show m y < μ (a, w);rw [<- hm]; exact hlt
 | _ => exact hq
theorem cD {X : Type} {I : X -> Prop} {k : Nat} {m : X -> Nat} {lx : X -> List (Nat × Value)} {ex : X -> List En} (y : X) (h : I y /\ m y < k) (hs : ∀ a, ko ds n ls a -> ko ds n (lx y) a := by intro a h; refine h.sub ?_; simp [fe, cQ]) (he : ∀ w, Fr S0 w0 w es -> Fr S0 w0 w (ex y) := by intro w h; first | exact h | exact h.pick (by repeat (first | exact Pk.n | refine Pk.c (by repeat (first | exact Rm.z | apply Rm.s)) ?_))) : nG ds n S0 w0 (Exit.then (fun a w => ∃ y, (I y /\ m y < k) /\ ko ds n (lx y) a /\ Fr S0 w0 w (ex y)) Q) .normal ls es :=
 fun a w ha hw => ⟨y, h, hs a ha, he w hw⟩
theorem xn {X : Type} {x y : Code} (I : X -> Prop) (lx : X -> List (Nat × Value)) (ex : X -> List En) (h1 : fg ds P n S0 w0 x (Exit.then (fun a w => ∃ z, I z /\ ko ds n (lx z) a /\ Fr S0 w0 w (ex z)) Q) ls es) (h2 : ∀ z, I z -> fg ds P n S0 w0 y Q (lx z) (ex z)) : fg ds P n S0 w0 x (Exit.then (y.wp P Q) Q) ls es := fun a w ha hw => by
 refine Code.wp_mono ?_ (h1 a w ha hw);intro e a2 w2 hq;cases e with
 | normal =>
  obtain ⟨z, hz, h3, h4⟩ := hq;exact h2 z hz a2 w2 h3 h4
 | _ => exact hq
theorem oh {X : Type} {I : X -> Prop} {lx : X -> List (Nat × Value)} {ex : X -> List En} (z : X) (h : I z) (hs : ∀ a, ko ds n ls a -> ko ds n (lx z) a := by intro a h; refine h.sub ?_; simp [fe, cQ]) (he : ∀ w, Fr S0 w0 w es -> Fr S0 w0 w (ex z) := by intro w h; first | exact h | exact h.pick (by repeat (first | exact Pk.n | refine Pk.c (by repeat (first | exact Rm.z | apply Rm.s)) ?_))) : nG ds n S0 w0 (Exit.then (fun a w => ∃ z, I z /\ ko ds n (lx z) a /\ Fr S0 w0 w (ex z)) Q) .normal ls es :=
 fun a w ha hw => ⟨z, h, hs a ha, he w hw⟩
def rB : Nat -> List Value -> List (Nat × Value)
 | _, [] => []
 | k, v :: l => (k, v) :: rB (k + 1) l
theorem nQ : ∀ (vs : List Value) (k : Nat) (p : Nat × Value), p ∈ rB k vs -> k <= p.1 /\ vs[p.1 - k]? = some p.2 /\ dy (rB k vs) (.tmp p.1) = p.2
 | [], _, _, h => by cases h
 | v :: vs, k, p, h => by
  unfold rB at h |-;rcases List.mem_cons.1 h with rfl | h
  . exact ⟨Ct _, by simp, by rw [cQ.2.2.2, if_pos rfl]⟩
  . obtain ⟨h1, h2, h3⟩ := nQ vs (k + 1) p h;have hne : p.1 ≠ k := by omega
    refine ⟨by omega, ?_, by rw [cQ.2.2.2, if_neg hne]; exact h3⟩;rw [show p.1 - k = (p.1 - (k + 1)) + 1 by omega];simpa using h2
theorem bN {f : FuncId} {fn : Func} {c : Code} {vs : List Value} {w : World} {R : Ending -> World -> Prop} (hf : P.funcs[f]? = some fn) (H : Fr S0 w w es) (k : CW P fn.ntmps S0 w c (bodyPost P fn R) ls es) (hb : fn.body = some c := by rfl) (hl : rB 0 vs = ls := by (try simp only [rB, Nat.reduceAdd, av]); rfl) (hn : Nat.ble vs.length fn.ntmps = true := by kernel_rfl) : Calls P f vs.toArray w R := by
 have hn := CR hn;subst hl;refine calls_of_wp hf hb (k _ w ⟨rfl, by simp; omega, fun p hp => ?_⟩ H);obtain ⟨_, h1, h2⟩ := nQ vs 0 p hp;rw [h2];have hlt := (List.getElem?_eq_some_iff.1 h1).1;rw [Nat.sub_zero] at h1 hlt;simp only [Array.getElem?_append, List.size_toArray, hlt, if_true, List.getElem?_toArray];exact h1
end
theorem Fr.below {w0 w : World} {es : List En} (h : Fr (fun _ => False) w0 w es) : Below w0.heap.size w0 w := h.bs.nX (fun _ h => h.elim) (Ct _)
theorem Fr.nil (S0 : Nat -> Prop) (w : World) : Fr S0 w w [] := ⟨aU.refl _ _, fun _ h => (DQ h).elim, List.Pairwise.nil, fun _ h => (DQ h).elim⟩
theorem Fr.i {S0 : Nat -> Prop} {w0 w : World} {es : List En} (h : Fr S0 w0 w es) {L : Nat} {v : Value} {x : Int} (hx : ah w L v x) : Fr S0 w0 w (.at L v x :: es) := h.pure hx (fun _ h => h)
def fm (P : Program) (ls : List (Nat × Value)) (w : World) (r : ResultVar) (v : Value) : Prop := match r with
 | .tmp t => fe ls (.tmp t) = true /\ dy ls (.tmp t) = v
 | .cell t ty => fe ls (.tmp t) = true /\ ∃ ad, dy ls (.tmp t) = .pointer (some ad) /\ (loadVar ty ad).run P w = .ok v w
section
variable {P : Program} {S0 : Nat -> Prop} {w0 : World} {n : Nat} {ls : List (Nat × Value)} {es : List En} {fn : Func} {R : Ending -> World -> Prop}
theorem fm.run {a : Act} {w : World} {r : ResultVar} {v : Value} (h : Sl n ls a) (hr : fm P ls w r v) : (∃ t, r = .tmp t /\ a.tmps[t]? = some v) \/ ∃ t ty ad, r = .cell t ty /\ a.tmps[t]? = some (.pointer (some ad)) /\ (loadVar ty ad).run P w = .ok v w := by
 cases r with
 | tmp t => exact .inl ⟨t, rfl, (h.tmp hr.1).trans (by rw [hr.2])⟩
 | cell t ty =>
  obtain ⟨h1, ad, h2, h3⟩ := hr;exact .inr ⟨t, ty, ad, rfl, (h.tmp h1).trans (by rw [h2]), h3⟩
theorem dZ {r : ResultVar} (k : ∀ w, Fr S0 w0 w es -> ∃ v, fm P ls w r v /\ R (.returned v) w) (h : fn.results = #[r] := by rfl) : QW n S0 w0 (bodyPost P fn R) .ret ls es := fun a w ha hw => by
 obtain ⟨v, h1, hR⟩ := k w hw;refine bodyPost_ret (v := v) ?_ ha.df hR;rcases h1.run ha with ⟨t, rfl, e⟩ | ⟨t, ty, ad, rfl, e, e'⟩ <;> simp [results, h, asAddr, *]
theorem fk {r r' : ResultVar} (k : ∀ w, Fr S0 w0 w es -> ∃ v v', fm P ls w r v /\ fm P ls w r' v' /\ R (.returned (.tuple #[v, v'])) w) (h : fn.results = #[r, r'] := by rfl) : QW n S0 w0 (bodyPost P fn R) .ret ls es := fun a w ha hw => by
 obtain ⟨v, v', h1, h2, hR⟩ := k w hw;refine bodyPost_ret (v := .tuple #[v, v']) ?_ ha.df hR;rcases h1.run ha with ⟨t, rfl, e⟩ | ⟨t, ty, ad, rfl, e, e'⟩ <;> rcases h2.run ha with ⟨t2, rfl, f⟩ | ⟨t2, ty2, ad2, rfl, f, f'⟩ <;> simp [results, h, asAddr, *]
theorem tD {r r' r2 : ResultVar} (k : ∀ w, Fr S0 w0 w es -> ∃ v v' v2, fm P ls w r v /\ fm P ls w r' v' /\ fm P ls w r2 v2 /\ R (.returned (.tuple #[v, v', v2])) w) (h : fn.results = #[r, r', r2] := by rfl) : QW n S0 w0 (bodyPost P fn R) .ret ls es := fun a w ha hw => by
 obtain ⟨v, v', v2, h1, h2, h3, hR⟩ := k w hw;refine bodyPost_ret (v := .tuple #[v, v', v2]) ?_ ha.df hR;rcases h1.run ha with ⟨t, rfl, e⟩ | ⟨t, ty, ad, rfl, e, e'⟩ <;> rcases h2.run ha with ⟨t2, rfl, f⟩ | ⟨t2, ty2, ad2, rfl, f, f'⟩ <;> rcases h3.run ha with ⟨t3, rfl, g⟩ | ⟨t3, ty3, ad3, rfl, g, g'⟩ <;> simp [results, h, asAddr, *]
end
theorem jh {ls : List (Nat × Value)} {w : World} {t b : Nat} {x y : Value} (h : aa w b 37 [x, y]) (h1 : fe ls (.tmp t) = true := by kernel_rfl) (h2 : dy ls (.tmp t) = .pointer (some ⟨b, 0, none⟩) := by (simp only [cQ, Nat.reduceEqDiff, ↓reduceIte]) <;> rfl) : fm Tryz.prog ls w (.cell t 37) (.agg #[x, y]) :=
 ⟨h1, _, h2, run_loadVar_row w b 37 37 #[x, y] (0, 0) _ h Tryz.underlying37 rfl (by kernel_rfl)⟩
theorem dT {P : Program} {ls : List (Nat × Value)} {w : World} {t : Nat} {v : Value} (h1 : fe ls (.tmp t) = true := by kernel_rfl) (h2 : dy ls (.tmp t) = v := by (simp only [cQ, Nat.reduceEqDiff, ↓reduceIte]) <;> rfl) : fm P ls w (.tmp t) v := ⟨h1, h2⟩
section
variable {P : Program} {ops : Array Oper} {Q : Exit -> Act -> World -> Prop} {ds : List Deferred} {S0 : Nat -> Prop} {w0 : World} {E0 : List En} {hd : List (List Nat)} {n j s : Nat} {l : List Nat} {G E : List En} {ls : List (Nat × Value)} {op : Op} {ty : TypeId} {pos : String} {af : Array Edge} {v : Value} {f : FuncId} {args : Array Value}
theorem uz {x : Int} {z : Value} (c : ∀ w, Fr S0 w0 w (G ++ E) -> Calls P f args w fun e w' => (∃ v, e = .returned (.tuple #[v, z]) /\ ai w' w.heap.size v x) /\ Below w.heap.size w w')
 (k : ∀ p : P4, dY ds ⟨P, ops, Q, S0, w0, E0, hd⟩ n l (.own w0.heap.size (av p) x :: G) E ((s, .tuple #[.agg #[.bool p.1, .slice p.2.1 p.2.2.1 p.2.2.2], z]) :: ls))
 (ho : ops[j]? = some ⟨some s, op, ty, pos, af, none⟩ := by rfl) (hk : (!bY op && !dD op && ew ls op && Nat.blt s n) = true := by kernel_rfl)
 (hr : ∀ w, (execOp (dy ls) ⟨some s, op, ty, pos, af, none⟩).run P w = .ok (.enter f args) w := by intro w; (try simp only [av]); go_simp <;> with_reducible rfl)
 (hst : fU ops hd j [] = true := by kernel_rfl) : dY ds ⟨P, ops, Q, S0, w0, E0, hd⟩ n (j :: l) G E ls := by
 refine cG (mk := fun p => .tuple #[av p, z]) (ens := fun p => [.own w0.heap.size (av p) x]) (fun w hw => (c w hw).mono ?_) k ho hk hr ⟨p0⟩ hst;rintro e w' ⟨⟨v, rfl, hv⟩, hb⟩;obtain ⟨b, ao, l', k', rfl⟩ := ai.parts hv;exact ⟨(b, ao, l', k'), rfl, hb, fun e he => by
  rcases List.mem_singleton.1 he with rfl;exact ⟨ai.mono hv hw.size, fun _ h => h.elim⟩, CM ..⟩
theorem cN2 {x y : Int} {z : Value} (c : ∀ w, Fr S0 w0 w (G ++ E) -> Calls P f args w fun e w' => (∃ v v', e = .returned (.tuple #[v, v', z]) /\ ai w' w.heap.size v x /\ ai w' w.heap.size v' y) /\ Below w.heap.size w w')
 (k : ∀ p q : P4, dY ds ⟨P, ops, Q, S0, w0, E0, hd⟩ n l (.own w0.heap.size (av p) x :: .own w0.heap.size (av q) y :: G) E ((s, .tuple #[.agg #[.bool p.1, .slice p.2.1 p.2.2.1 p.2.2.2], .agg #[.bool q.1, .slice q.2.1 q.2.2.1 q.2.2.2], z]) :: ls))
 (ho : ops[j]? = some ⟨some s, op, ty, pos, af, none⟩ := by rfl) (hk : (!bY op && !dD op && ew ls op && Nat.blt s n) = true := by kernel_rfl)
 (hr : ∀ w, (execOp (dy ls) ⟨some s, op, ty, pos, af, none⟩).run P w = .ok (.enter f args) w := by intro w; (try simp only [av]); go_simp <;> with_reducible rfl)
 (hst : fU ops hd j [] = true := by kernel_rfl) : dY ds ⟨P, ops, Q, S0, w0, E0, hd⟩ n (j :: l) G E ls := by
 refine cG (α := P4 × P4) (mk := fun p => .tuple #[av p.1, av p.2, z]) (ens := fun p => [.own w0.heap.size (av p.1) x, .own w0.heap.size (av p.2) y]) (fun w hw => (c w hw).mono ?_) (fun p => k p.1 p.2) ho hk hr ⟨(p0, p0)⟩ hst;rintro e w' ⟨⟨v, v', rfl, hv, hv'⟩, hb⟩;obtain ⟨b, ao, l', k', rfl⟩ := ai.parts hv;obtain ⟨b2, ao2, l2, k2, rfl⟩ := ai.parts hv';exact ⟨((b, ao, l', k'), (b2, ao2, l2, k2)), rfl, hb, fun e he => by
  rcases List.mem_cons.1 he with rfl | he
  . exact ⟨ai.mono hv hw.size, fun _ h => h.elim⟩
  . rcases List.mem_singleton.1 he with rfl;exact ⟨ai.mono hv' hw.size, fun _ h => h.elim⟩, List.pairwise_cons.2 ⟨fun e he => by
    rcases List.mem_singleton.1 he with rfl;exact ⟨(fun h => nomatch h), (fun h => nomatch h)⟩, CM ..⟩⟩
end
theorem RW.more {C : RC} : ∀ (l : List Nat) {G G2 E : List En} {a : Act}, (∀ X w, (∀ e ∈ X, e.wl = false) -> Fr C.S0 C.w0 w (X ++ (G ++ E)) -> Fr C.S0 C.w0 w (X ++ (G2 ++ E))) -> RW C l G2 E a -> RW C l G E a
 | [], G, G2, E, a, H, h => fun w hw => h w (H [] w (fun _ h => (DQ h).elim) hw)
 | j :: l, G, G2, E, a, H, h => by
  obtain ⟨o, ho, h⟩ := h;refine ⟨o, ho, ?_⟩;rcases h with ⟨hk, v, hg, hr⟩ | ⟨hk, hk2, mk, t, cs, hn, hr⟩ | ⟨hk, hk2, α, mk, G1, E1, K, hne, hc, hK, hE, hr⟩
  . exact .inl ⟨hk, v, hg, RW.more l H hr⟩
  . exact .inr (.inl ⟨hk, hk2, mk, t, cs, hn, fun g => RW.more l (G2 := .row g t cs :: G2) (fun X w hX hw => (H (.row g t cs :: X) w (fun e he => (List.mem_cons.1 he).elim (fun q => q ▸ rfl) (hX e)) (hw.perm DP)).perm (DP (l₁ := X) (l₂ := G2 ++ E)).symm) (hr g)⟩)
  . exact .inr (.inr ⟨hk, hk2, α, mk, G1, E1, K, hne, fun X w hX hw => hc X w hX (H X w hX hw), hK, hE, hr⟩)
section
variable {P : Program} {ops : Array Oper} {Q : Exit -> Act -> World -> Prop} {ds : List Deferred} {S0 : Nat -> Prop} {w0 : World} {E0 : List En} {hd : List (List Nat)} {n j s sg g : Nat} {l : List Nat} {G E : List En} {ls : List (Nat × Value)} {op : Op} {ty : TypeId} {pos : String} {af : Array Edge} {v : Value} {f : FuncId} {args : Array Value} {want : Bool}
theorem je {e : En} (he : ∀ w, Fr S0 w0 w (G ++ E) -> e.F w) (k : dY ds ⟨P, ops, Q, S0, w0, E0, hd⟩ n l (e :: G) E ls) (hS : ∀ b, ¬ e.S b := by intro b h; exact h) : dY ds ⟨P, ops, Q, S0, w0, E0, hd⟩ n l G E ls := fun a ha =>
 RW.more l (fun X w hX hw => (hw.pure (he w (hw.sub (DN ..))) hS).perm (DP (l₁ := X) (l₂ := G ++ E)).symm) (k a ha)
theorem cNo {x : Int} (c : ∀ w, Fr S0 w0 w (G ++ E) -> Calls P f args w fun e w' => (∃ v, e = .returned v /\ ai w' w0.heap.size v x) /\ Below w.heap.size w w')
 (k : ∀ p : P4, dY ds ⟨P, ops, Q, S0, w0, E0, hd⟩ n l (.own w0.heap.size (av p) x :: G) E ((s, .agg #[.bool p.1, .slice p.2.1 p.2.2.1 p.2.2.2]) :: ls))
 (ho : ops[j]? = some ⟨some s, op, ty, pos, af, none⟩ := by rfl) (hk : (!bY op && !dD op && ew ls op && Nat.blt s n) = true := by kernel_rfl)
 (hr : ∀ w, (execOp (dy ls) ⟨some s, op, ty, pos, af, none⟩).run P w = .ok (.enter f args) w := by intro w; (try simp only [av]); go_simp <;> with_reducible rfl)
 (hst : fU ops hd j [] = true := by kernel_rfl) : dY ds ⟨P, ops, Q, S0, w0, E0, hd⟩ n (j :: l) G E ls := by
 refine cG (mk := av) (ens := fun p => [.own w0.heap.size (av p) x]) (fun w hw => (c w hw).mono ?_) k ho hk hr ⟨p0⟩ hst;rintro e w' ⟨⟨v, rfl, hv⟩, hb⟩;obtain ⟨b, ao, l', k', rfl⟩ := ai.parts hv;exact ⟨(b, ao, l', k'), rfl, hb, fun e he => by
  rcases List.mem_singleton.1 he with rfl;exact ⟨hv, fun _ h => h.elim⟩, CM ..⟩
theorem jR {a : Act} (ha : ko ds n ls a) (hg : (ops[g]?).bind (·.dst) = some sg) (hi : fe ls (.tmp sg) = true) {b : Bool} (hb : dy ls (.tmp sg) = .bool b) (d : Option Tmp) : Region.wanted ⟨d, op, ty, pos, af, some (g, want)⟩ (yielded ops a.tmps) = (b == want) := by
 unfold Region.wanted yielded;simp [hg, ha.tmp hi, hb]
theorem dG (k : dY ds ⟨P, ops, Q, S0, w0, E0, []⟩ n l G E ((s, v) :: ls))
 (ho : ops[j]? = some ⟨some s, op, ty, pos, af, some (g, want)⟩ := by rfl) (hk : (bY op && ew ls op && Nat.blt s n) = true := by kernel_rfl)
 (hg : (ops[g]?).bind (·.dst) = some sg := by rfl) (hi : fe ls (.tmp sg) = true := by kernel_rfl) (hb : dy ls (.tmp sg) = .bool want := by (simp only [cQ, Nat.reduceEqDiff, ↓reduceIte]) <;> first | rfl | simp [*])
 (hr : ∀ w, (qM op = true -> Fr S0 w0 w E0) -> (execOp (dy ls) ⟨some s, op, ty, pos, af, some (g, want)⟩).run P w = .ok (.value v) w := by intro w H; (first | (have c := (H rfl).c; try simp only [tT, cl, Dp, Dt] at c) | skip); clear H; go_simp <;> with_reducible rfl) : dY ds ⟨P, ops, Q, S0, w0, E0, []⟩ n (j :: l) G E ls := fun a ha => by
 simp only [CO] at hk;refine ⟨_, ho, .inl ⟨hk.1.1, v, fun w hw => .inl ⟨by rw [jR ha hg hi hb]; simp, .inl ?_⟩, k _ (ha.put (CR hk.2) v)⟩⟩;rw [ha.exec hk.1.2];exact hr w fun hl => by simpa [lM] using hw hl
theorem uG (k : dY ds ⟨P, ops, Q, S0, w0, E0, hd⟩ n l G E ((s, undef) :: ls))
 (ho : ops[j]? = some ⟨some s, op, ty, pos, af, some (g, want)⟩ := by rfl) (hk : (bY op && Nat.blt s n) = true := by kernel_rfl)
 (hg : (ops[g]?).bind (·.dst) = some sg := by rfl) (hi : fe ls (.tmp sg) = true := by kernel_rfl) (hb : dy ls (.tmp sg) = .bool (!want) := by (simp only [cQ, Nat.reduceEqDiff, ↓reduceIte]) <;> first | rfl | simp [*]) : dY ds ⟨P, ops, Q, S0, w0, E0, hd⟩ n (j :: l) G E ls := fun a ha => by
 simp only [CO] at hk;exact ⟨_, ho, .inl ⟨hk.1, undef, fun w hw => .inr ⟨by rw [jR ha hg hi hb]; simp, rfl⟩, k _ (ha.put (CR hk.2) undef)⟩⟩
end
theorem bh {Z R : Prop} (k : R) (h : R -> Z := by
 intro k;(iterate 4 refine dW ?_);exact k) : Z := h k
theorem aC {Z R : Prop} (k : R) (h : R -> Z := by
 intro k;refine dW ?_;refine eW ?_;refine jY ?_;exact k) : Z := h k
theorem aA {Z R : Prop} (k : R) (h : R -> Z := by
 intro k;refine jY ?_;refine rW [] ?_;exact k) : Z := h k
theorem aT {Z R : Prop} (k : R) (h : R -> Z := by
 intro k;refine dW ?_;refine dW ?_;exact k) : Z := h k
theorem fC {Z R : Prop} (k : R) (h : R -> Z := by
 intro k;refine dB false ?_;refine eW ?_;refine jY ?_;refine kf ?_;exact k) : Z := h k
theorem kq {Z R : Prop} (k : R) (h : R -> Z := by
 intro k;refine dB true ?_;refine eW ?_;refine jY ?_;refine nM ?_;exact k) : Z := h k
theorem dO {Z R : Prop} (k : R) (h : R -> Z := by
 intro k;refine rW [] ?_;refine dW ?_;exact k) : Z := h k
theorem oz {Z R : Prop} (k : R) (h : R -> Z := by
 intro k;(iterate 3 refine dG ?_);exact k) : Z := h k
theorem eQ {Z R : Prop} (k : R) (h : R -> Z := by
 intro k;refine eW ?_;refine jY ?_;exact k) : Z := h k
theorem AP {Z R : Prop} (k : R) (h : R -> Z := by
 intro k;(iterate 4 refine uG ?_);exact k) : Z := h k
theorem zG {a b : Bool} {m n : Nat} : zi (a != b) (m / n) = (zi a m).tdiv (zi b n) := by
 cases a <;> cases b <;> simp [zi, Int.ofNat_tdiv]
theorem yS {a b : Bool} {m n : Nat} : zi a (m % n) = (zi a m).tmod (zi b n) := by
 have h : ((m % n : Nat) : Int) = (m : Int).tmod (n : Int) := rfl;cases a <;> cases b <;> simp only [zi, h, Int.neg_tmod, Int.tmod_neg, if_true, Bool.false_eq_true, if_false]
theorem AW {B m cap : Nat} {ao : Option Addr} (n : Bool) {w : World} (h : db w B ao (ag m) cap (fM m)) : Calls Tryz.prog 50 #[.bool n, .slice ao (ag m) cap] w fun e w' => (∃ v, e = .returned v /\ ai w' B v (zi n m)) /\ Below w.heap.size w w' :=
 (nk n _ _ _ w).mono fun e w' ⟨he, hb⟩ => ⟨⟨_, he, ai.mk n (h.below hb)⟩, hb⟩
theorem nj (v u : Value) (x y : Int) (w : World) (hA : ah w 17592186044415 v x) (hB : ah w 17592186044415 u y) (hy : y ≠ 0) :
 Calls Tryz.prog 53 #[v, u] w fun e w' => (∃ v' u', e = .returned (.tuple #[v', u', .int .i64 0]) /\ ai w' w.heap.size v' (x.tdiv y) /\ ai w' w.heap.size u' (x.tmod y)) /\ Below w.heap.size w w' := by
 obtain ⟨n, ao, len, cap, ws, rfl, hW, hl, hL1, hc, hx⟩ := hA;obtain ⟨n2, ao2, len2, cap2, ws2, rfl, hW2, hl2, hL2, hc2, hx2⟩ := hB;have h2 : ae ws2 ≠ 0 := fun h => hy (by rw [hx2, h]; cases n2 <;> rfl);rw [hx, hx2, <- zG, <- yS (b := n2)];refine bN (S0 := fun _ => False) Tryz.func53 (Fr.nil _ w) ?_;refine aA ?_;refine aW fun g2 => ?_;refine aW fun g3 => ?_;refine aW fun g4 => ?_;refine aW fun g5 => ?_;refine aC ?_;refine rW [] ?_;refine bh ?_;refine cG (α := (Option Addr × Nat) × Option Addr × Nat) (mk := fun p => .tuple #[.slice p.1.1 (ag (ae ws / ae ws2)) p.1.2, .slice p.2.1 (ag (ae ws % ae ws2)) p.2.2, .int .i64 0]) (ens := fun p => [.ow w.heap.size p.1.1 (ae ws / ae ws2) p.1.2, .ow w.heap.size p.2.1 (ae ws % ae ws2) p.2.2])
  (fun w' H => (re ao ao2 len len2 cap cap2 ws ws2 w' (hW.below H.below) (hW2.below H.below) hl hl2 Cp Cp h2).mono ?_) ?_
 . rintro e w3 ⟨⟨aq, cq, ar, cr, rfl, h1, h3⟩, hb⟩;exact ⟨⟨(aq, cq), (ar, cr)⟩, rfl, hb, fun e he => by
    rcases List.mem_cons.1 he with rfl | he
    . exact ⟨h1.mono H.size, fun _ h => h.elim⟩
    . rcases List.mem_singleton.1 he with rfl;exact ⟨h3.mono H.size, fun _ h => h.elim⟩, List.pairwise_pair.2 ⟨(fun h => nomatch h), (fun h => nomatch h)⟩⟩
 rintro ⟨⟨aq, cq⟩, ar, cr⟩;refine bh ?_;refine aT ?_;refine aC ?_;refine dO ?_;refine aC ?_;refine kf ?_;refine aA ?_;refine bh ?_;refine aT ?_;refine cNo (fun w' H => AW (!(n == n2)) H.m0) fun p1 => ?_;refine aT ?_;refine dW ?_;refine cNo (fun w' H => AW n H.m2) fun p2 => ?_;refine sW ?_;refine sW ?_;refine aC ?_;refine tD fun w' H => ?_;exact ⟨_, _, _, jh H.m5, jh H.m4, dT, ⟨_, _, rfl, H.m1, H.m0⟩, H.below⟩
theorem kE {n : Bool} {m : Nat} (h : zi n m ≠ 0) : n = decide (zi n m < 0) := by
 unfold zi at *; cases n <;> simp at * <;> omega
theorem ku {x y : Int} (hy : y ≠ 0) (h : x.tmod y = 0 \/ (decide (x.tmod y < 0)) = decide (y < 0)) : x.fdiv y = x.tdiv y /\ x.fmod y = x.tmod y := by
 have hx := DO x hy;have hl := Int.emod_lt x hy;rw [Int.fdiv_eq_ediv, Int.tdiv_eq_ediv, Int.fmod_eq_emod, Et];rw [Et] at h;by_cases hd : y ∣ x
 . simp [hd]
 . have h0 : x % y ≠ 0 := fun e => hd (Int.dvd_of_emod_eq_zero e);simp only [hd, or_false] at h |-;rcases Int.lt_or_gt_of_ne hy with hy' | hy'
   . have hs : y.sign = -1 := DW hy';by_cases h0x : 0 <= x
     . simp [h0x, hy', Int.not_le.2 hy'] at h |-; omega
     . simp [h0x, hy', Int.not_le.2 hy', hs] at h |-; omega
   . have hs : y.sign = 1 := Ek hy';by_cases h0x : 0 <= x
     . simp [h0x, D1 hy'] at h |-
     . simp [h0x, hs, D1 hy'] at h |-; omega
theorem my {x y : Int} (hy : y ≠ 0) (h : x.tmod y ≠ 0) (h2 : ¬ (decide (x.tmod y < 0)) = decide (y < 0)) : x.fdiv y = x.tdiv y - 1 /\ x.fmod y = x.tmod y + y := by
 have hx := DO x hy;have hl := Int.emod_lt x hy;rw [Int.fdiv_eq_ediv, Int.tdiv_eq_ediv, Int.fmod_eq_emod, Et];rw [Et] at h h2;by_cases hd : y ∣ x
 . have : x % y = 0 := Int.emod_eq_zero_of_dvd hd;simp [hd, this] at h
 . have h0 : x % y ≠ 0 := fun e => hd (Int.dvd_of_emod_eq_zero e);simp only [hd, or_false] at h h2 |-;rcases Int.lt_or_gt_of_ne hy with hy' | hy'
   . have hs : y.sign = -1 := DW hy';by_cases h0x : 0 <= x
     . simp [h0x, hy', Int.not_le.2 hy'] at h h2 |-
     . simp [h0x, hy', Int.not_le.2 hy', hs] at h h2 |-; omega
   . have hs : y.sign = 1 := Ek hy';by_cases h0x : 0 <= x
     . simp [h0x, D1 hy'] at h h2 |-; omega
     . simp [h0x, hs, D1 hy'] at h h2 |-; omega
theorem xz : ag (1 : Int).natAbs <= 17592186044415 := Cw (an (k := 1) Cr) Cp
def qe (p : P4) (x : Int) : Prop := p.1 = decide (x < 0) /\ p.2.2.1 = ag x.natAbs
theorem ai.xt {w : World} {B : Nat} {v : Value} {x : Int} (h : ai w B v x) : ∃ p : P4, v = av p /\ qe p x := by
 obtain ⟨ao, cap, rfl, _⟩ := h; exact ⟨(_, _, _, _), rfl, rfl, rfl⟩
theorem qe.ex (x : Int) : ∃ p : P4, qe p x := ⟨(_, none, _, 0), rfl, rfl⟩
section
variable {P : Program} {ops : Array Oper} {Q : Exit -> Act -> World -> Prop} {ds : List Deferred} {S0 : Nat -> Prop} {w0 : World} {E0 : List En} {hd : List (List Nat)} {n j s : Nat} {l : List Nat} {G E : List En} {ls : List (Nat × Value)} {op : Op} {ty : TypeId} {pos : String} {af : Array Edge} {f : FuncId} {args : Array Value}
theorem cN2h {x y : Int} {z : Value} (c : ∀ w, Fr S0 w0 w (G ++ E) -> Calls P f args w fun e w' => (∃ v v', e = .returned (.tuple #[v, v', z]) /\ ai w' w.heap.size v x /\ ai w' w.heap.size v' y) /\ Below w.heap.size w w')
 (k : ∀ p q : P4, qe p x -> qe q y -> dY ds ⟨P, ops, Q, S0, w0, E0, hd⟩ n l (.own w0.heap.size (av p) x :: .own w0.heap.size (av q) y :: G) E ((s, .tuple #[.agg #[.bool p.1, .slice p.2.1 p.2.2.1 p.2.2.2], .agg #[.bool q.1, .slice q.2.1 q.2.2.1 q.2.2.2], z]) :: ls))
 (ho : ops[j]? = some ⟨some s, op, ty, pos, af, none⟩ := by rfl) (hk : (!bY op && !dD op && ew ls op && Nat.blt s n) = true := by kernel_rfl)
 (hr : ∀ w, (execOp (dy ls) ⟨some s, op, ty, pos, af, none⟩).run P w = .ok (.enter f args) w := by intro w; (try simp only [av]); go_simp <;> with_reducible rfl)
 (hst : fU ops hd j [] = true := by kernel_rfl) : dY ds ⟨P, ops, Q, S0, w0, E0, hd⟩ n (j :: l) G E ls := by
 refine cG (α := {p : P4 × P4 // qe p.1 x /\ qe p.2 y}) (mk := fun p => .tuple #[av p.1.1, av p.1.2, z]) (ens := fun p => [.own w0.heap.size (av p.1.1) x, .own w0.heap.size (av p.1.2) y]) (fun w hw => (c w hw).mono ?_) (fun p => k p.1.1 p.1.2 p.2.1 p.2.2) ho hk hr (by obtain ⟨a, ha⟩ := qe.ex x; obtain ⟨b, hb⟩ := qe.ex y; exact ⟨⟨(a, b), ha, hb⟩⟩) hst;rintro e w' ⟨⟨v, v', rfl, hv, hv'⟩, hb⟩;obtain ⟨p, rfl, hp⟩ := hv.xt;obtain ⟨q, rfl, hq⟩ := hv'.xt;exact ⟨⟨(p, q), hp, hq⟩, rfl, hb, fun e he => by
  rcases List.mem_cons.1 he with rfl | he
  . exact ⟨ai.mono hv hw.size, fun _ h => h.elim⟩
  . rcases List.mem_singleton.1 he with rfl;exact ⟨ai.mono hv' hw.size, fun _ h => h.elim⟩, List.pairwise_pair.2 ⟨(fun h => nomatch h), (fun h => nomatch h)⟩⟩
end
theorem qZ {w : World} {B : Nat} {v : Value} (h : ai w B v 1) : ah w 17592186044415 v 1 := ai.int h xz
theorem nh (v u : Value) (x y : Int) (w : World) (hA : ah w 17592186044415 v x) (hB : ah w 17592186044415 u y) (hy : y ≠ 0) :
 Calls Tryz.prog 93 #[v, u] w fun e w' => (∃ v' u', e = .returned (.tuple #[v', u', .int .i64 0]) /\ ai w' w.heap.size v' (x.fdiv y) /\ ai w' w.heap.size u' (x.fmod y)) /\ Below w.heap.size w w' := by
 have hlx := hA.ag;obtain ⟨p, rfl⟩ := hA.parts;obtain ⟨q, rfl⟩ := hB.parts;have hq : q.1 = decide (y < 0) := by
  obtain ⟨n, ao, len, cap, ws, e, _, _, _, _, hx⟩ := hB;cases e;rw [hx]; exact kE (by rw [<- hx]; exact hy)
 have bt : ag (x.tdiv y).natAbs <= 17592186044415 := Cw (aJ (by rw [Int.natAbs_tdiv]; exact Ec ..)) hlx;have br : ag (x.tmod y).natAbs <= 17592186044415 := Cw (aJ (by rw [Int.natAbs_tmod]; exact Nat.mod_le ..)) hlx;refine bN (S0 := fun _ => False) Tryz.func93 (((Fr.nil _ w).i hB).i hA) ?_;refine aA ?_;refine aW fun g2 => ?_;refine aW fun g3 => ?_;refine aW fun g4 => ?_;refine aW fun g5 => ?_;refine aC ?_;refine rW [] ?_;refine aT ?_;refine cN2h (fun w H => nj _ _ x y w H.m4 H.m5 hy) fun s r hs hr => ?_;refine bh ?_;refine aW fun g7 => ?_;refine aW fun g8 => ?_;refine sG ?_;refine sG ?_;refine dW ?_;refine eW ?_;refine yl (Bj (xn (X := (P4 × P4) × Int × Int) (fun z => x.fdiv y = z.2.1 /\ x.fmod y = z.2.2) (fun _ => [(9, .int .i64 0), (7, .pointer (some ⟨g7, 0, none⟩)), (8, .pointer (some ⟨g8, 0, none⟩)), (4, .pointer (some ⟨g4, 0, none⟩)), (5, .pointer (some ⟨g5, 0, none⟩))]) (fun z => [.row g8 37 (cl z.1.2), .row g7 37 (cl z.1.1), .own w.heap.size (av z.1.1) z.2.1, .own w.heap.size (av z.1.2) z.2.2, .row g5 37 (cl p0), .row g4 37 (cl p0)]) ?_ fun z hz => ?_))
 . by_cases h0 : x.tmod y = 0
   . have e : r.2.2.1 = 0 := by rw [hr.2, h0]; exact bb
     refine aA ?_;refine aT ?_;refine dW ?_;refine oz ?_;refine dG ?_;refine aT ?_;refine AP ?_;refine uG ?_;refine aC ?_;refine kf ?_;refine jY ?_;exact oh ((s, r), x.tdiv y, x.tmod y) (ku hy (.inl h0))
   . have e : 0 < r.2.2.1 := by
      rw [hr.2];exact Nat.pos_of_ne_zero fun e => h0 (by have := dx.1 e; omega)
     refine aA ?_;refine aT ?_;refine dW ?_;refine oz ?_;refine dG ?_;refine aT ?_;refine oz ?_;refine dG ?_;refine dG ?_;refine aC ?_;refine ld (fun h => ?_) (fun h => ?_)
     . have hf := my hy h0 (by rw [<- hr.1]; simpa using h);refine aA ?_;refine dW ?_;refine cN (fun w H => js 1 w Cp Cp) fun p1 => ?_;refine cN (fun w H => lL _ _ _ _ w (ai.int H.m3 bt) (qZ H.m0)) fun p2 => ?_;refine sW ?_;refine eW ?_;refine aA ?_;refine aT ?_;refine cN (fun w H => kt _ _ _ _ w (ai.int H.m5 br) H.m11) fun p3 => ?_;refine sW ?_;refine eQ ?_;exact oh ((p2, p3), x.tdiv y - 1, x.tmod y + y) hf
     . refine jY ?_;exact oh ((s, r), x.tdiv y, x.tmod y) (ku hy (.inr (by rw [<- hr.1]; simpa using h)))
 . rw [hz.1, hz.2];refine jY ?_;refine rW [[], [5], [4, 5]] ?_;(iterate 3 refine dH ?_);refine sW ?_;refine sW ?_;refine dH ?_;refine eQ ?_;refine tD fun w' H => ?_;exact ⟨_, _, _, jh H.m5, jh H.m4, dT, ⟨_, _, rfl, H.m2, H.m3⟩, H.below⟩
theorem sK {x y : Int} (hy : y ≠ 0) (h : ¬ x.tmod y < 0) : x / y = x.tdiv y /\ x % y = x.tmod y := by
 have hx := DO x hy;have hl := Int.emod_lt x hy;rw [Int.tdiv_eq_ediv, Et];rw [Et] at h;by_cases hd : y ∣ x
 . simp [hd]
 . by_cases h0x : 0 <= x
   . simp [h0x]
   . simp only [hd, h0x, or_self, if_false] at h;omega
theorem tX {x y : Int} (hy : y ≠ 0) (h : x.tmod y < 0) : (y < 0 -> x / y = x.tdiv y + 1 /\ x % y = x.tmod y - y) /\ (¬ y < 0 -> x / y = x.tdiv y - 1 /\ x % y = x.tmod y + y) := by
 have hx := DO x hy;rw [Int.tdiv_eq_ediv, Et];rw [Et] at h;by_cases hd : y ∣ x
 . simp [hd] at h; omega
 . by_cases h0x : 0 <= x
   . simp [h0x] at h; omega
   . simp only [hd, h0x, or_self, if_false];refine ⟨fun h0 => ?_, fun h0 => ?_⟩
     . rw [DW h0]; omega
     . rw [Ek Cp]; omega
theorem wI (v u : Value) (x y : Int) (w : World) (hA : ah w 17592186044415 v x) (hB : ah w 17592186044415 u y) (hy : y ≠ 0) :
 Calls Tryz.prog 24 #[v, u] w fun e w' => (∃ v' u', e = .returned (.tuple #[v', u', .int .i64 0]) /\ ai w' w.heap.size v' (x / y) /\ ai w' w.heap.size u' (x % y)) /\ Below w.heap.size w w' := by
 have hlx := hA.ag;obtain ⟨p, rfl⟩ := hA.parts;obtain ⟨q, rfl⟩ := hB.parts;have hq : q.1 = decide (y < 0) := by
  obtain ⟨n, ao, len, cap, ws, e, _, _, _, _, hx⟩ := hB;cases e;rw [hx]; exact kE (by rw [<- hx]; exact hy)
 have bt : ag (x.tdiv y).natAbs <= 17592186044415 := Cw (aJ (by rw [Int.natAbs_tdiv]; exact Ec ..)) hlx;have br : ag (x.tmod y).natAbs <= 17592186044415 := Cw (aJ (by rw [Int.natAbs_tmod]; exact Nat.mod_le ..)) hlx;refine bN (S0 := fun _ => False) Tryz.func24 (((Fr.nil _ w).i hB).i hA) ?_;refine aA ?_;refine aW fun g2 => ?_;refine aW fun g3 => ?_;refine aW fun g4 => ?_;refine aW fun g5 => ?_;refine aC ?_;refine rW [] ?_;refine aT ?_;refine cN2h (fun w H => nj _ _ x y w H.m4 H.m5 hy) fun s r hs hr => ?_;refine bh ?_;refine aW fun g7 => ?_;refine aW fun g8 => ?_;refine sG ?_;refine sG ?_;refine dW ?_;refine eW ?_;have he := tX (x := x) hy;by_cases h0 : x.tmod y < 0
 . have e : r.1 = true := by rw [hr.1]; simpa using h0
   refine aA ?_;refine aT ?_;refine dW ?_;refine oz ?_;refine aC ?_;refine kf ?_;refine aA ?_;refine dW ?_;refine aC ?_;refine ld (fun h => ?_) (fun h => ?_)
   . have hf := (he h0).1 (by simpa [hq] using h);rw [hf.1, hf.2];refine jY ?_;refine rW [[], [], [], [5], [5]] ?_;refine dH ?_;refine cN (fun w H => js 1 w Cp Cp) fun p1 => ?_;refine cN (fun w H => kt _ _ _ _ w (ai.int H.m3 bt) (qZ H.m0)) fun p2 => ?_;refine dH ?_;refine dH ?_;refine cN (fun w H => lL _ _ _ _ w (ai.int H.m5 br) H.m11) fun p3 => ?_;refine sW ?_;refine sW ?_;refine dH ?_;refine eQ ?_;refine tD fun w' H => ?_;exact ⟨_, _, _, jh H.m8, jh H.m7, dT, ⟨_, _, rfl, H.m1, H.m0⟩, H.below⟩
   . have hf := (he h0).2 (by simpa [hq] using h);rw [hf.1, hf.2];refine jY ?_;refine rW [[], [], [], [5], [5]] ?_;refine dH ?_;refine cN (fun w H => js 1 w Cp Cp) fun p1 => ?_;refine cN (fun w H => lL _ _ _ _ w (ai.int H.m3 bt) (qZ H.m0)) fun p2 => ?_;refine dH ?_;refine dH ?_;refine cN (fun w H => kt _ _ _ _ w (ai.int H.m5 br) H.m11) fun p3 => ?_;refine sW ?_;refine sW ?_;refine dH ?_;refine eQ ?_;refine tD fun w' H => ?_;exact ⟨_, _, _, jh H.m8, jh H.m7, dT, ⟨_, _, rfl, H.m1, H.m0⟩, H.below⟩
 . obtain ⟨r1, r2⟩ := r;obtain rfl : r1 = false := hr.1.trans (by simpa using h0);have hf := sK hy h0;rw [hf.1, hf.2];refine aA ?_;refine aT ?_;refine dW ?_;refine oz ?_;refine aC ?_;refine nM ?_;refine jY ?_;refine rW [[], [5], [4, 5]] ?_;(iterate 3 refine dH ?_);refine sW ?_;refine sW ?_;refine dH ?_;refine eQ ?_;refine tD fun w' H => ?_;exact ⟨_, _, _, jh H.m5, jh H.m4, dT, ⟨_, _, rfl, H.m2, H.m3⟩, H.below⟩
theorem uq (v u : Value) (x y : Int) (w : World) (hA : ah w 17592186044415 v x) (hB : ah w 17592186044415 u y) (hy : y ≠ 0) :
 Calls Tryz.prog 90 #[v, u] w fun e w' => (∃ u', e = .returned (.tuple #[u', .int .i64 0]) /\ ai w' w.heap.size u' (x % y)) /\ Below w.heap.size w w' := by
 obtain ⟨p, rfl⟩ := hA.parts;obtain ⟨q, rfl⟩ := hB.parts;refine bN (S0 := fun _ => False) Tryz.func90 (((Fr.nil _ w).i hB).i hA) ?_;refine aA ?_;refine aW fun g2 => ?_;refine aW fun g3 => ?_;refine aW fun g4 => ?_;refine aC ?_;refine rW [] ?_;refine aT ?_;refine cN2 (fun w H => wI _ _ x y w H.m3 H.m4 hy) fun s r => ?_;refine bh ?_;refine aW fun g6 => ?_;refine aW fun g7 => ?_;refine sG ?_;refine sG ?_;refine aC ?_;refine rW [] ?_;refine aT ?_;refine sW ?_;refine aC ?_;refine fk fun w' H => ?_;exact ⟨_, _, jh H.m4, dT, ⟨_, rfl, H.m3⟩, H.below⟩
def oK (x y : Int) : Int := if x < y then -1 else if x = y then 0 else 1
theorem ml (x : Int) : aV x = -1 \/ aV x = 0 \/ aV x = 1 := by
 unfold aV; split
 . exact .inl rfl
 . split
   . exact .inr (.inl rfl)
   . exact .inr (.inr rfl)
theorem uj (a b : Nat) : gN a b = -1 \/ gN a b = 0 \/ gN a b = 1 := by
 unfold gN; split
 . exact .inl rfl
 . split
   . exact .inr (.inr rfl)
   . exact .inr (.inl rfl)
theorem zq {x y : Int} (h : aV x < aV y) : oK x y = -1 := by
 unfold aV at h; unfold oK; (repeat' split at h) <;> (repeat' split) <;> omega
theorem AA {x y : Int} (h : ¬ aV x < aV y) (h2 : ¬ aV x = aV y) : oK x y = 1 := by
 unfold aV at h h2; unfold oK; (repeat' split at h) <;> (repeat' split at h2) <;> (repeat' split) <;> omega
theorem yX {x y : Int} (h : aV x = aV y) : oK x y = aV x * gN x.natAbs y.natAbs := by
 unfold aV at *; unfold oK gN; (repeat' split at h) <;> (repeat' split) <;> omega
theorem wrap_small {a : Int} (h1 : -9223372036854775808 <= a) (h2 : a <= 9223372036854775807) : IntKind.i64.wrap a = a := IntWalk.i64_in _ Cp
theorem Bi (v u : Value) (x y : Int) (w : World) (hA : ah w 17592186044415 v x) (hB : ah w 17592186044415 u y) :
 Calls Tryz.prog 17 #[v, u] w fun e w' => e = .returned (.int .i64 (oK x y)) /\ Below w.heap.size w w' := by
 obtain ⟨n, ao, len, cap, ws, rfl, hW, hl, hL1, hc, hx⟩ := id hA;obtain ⟨n2, ao2, len2, cap2, ws2, rfl, hW2, hl2, hL2, hc2, hx2⟩ := id hB;have ex : x.natAbs = ae ws := by rw [hx, ij]
 have ey : y.natAbs = ae ws2 := by rw [hx2, ij]
 clear hx hx2;refine bN (S0 := fun _ => False) Tryz.func17 (((Fr.nil _ w).i hB).i hA) ?_;refine aA ?_;refine aW fun g2 => ?_;refine aW fun g3 => ?_;refine aC ?_;refine dO ?_;refine cV (fun w H => cO _ x w H.m2) ?_;refine dW ?_;refine cV (fun w H => cO _ y w H.m3) ?_;refine dW ?_;refine aC ?_;refine rW [] ?_;refine aT ?_;refine aC ?_;refine ld (fun h => ?_) (fun h => ?_)
 . refine aA ?_;refine aT ?_;refine aC ?_;refine ld (fun h2 => ?_) (fun h2 => ?_)
   . rw [zq (by simpa using h2)];refine aA ?_;refine aC ?_;refine dZ fun w' H => ?_;exact ⟨_, dT, rfl, H.below⟩
   . rw [AA (by simpa using h2) (by simpa using h)];refine aA ?_;refine aC ?_;refine dZ fun w' H => ?_;exact ⟨_, dT, rfl, H.below⟩
 . have hz := yX (x := x) (y := y) (by simpa using h);have hw : IntKind.i64.wrap (aV x * gN (ae ws) (ae ws2)) = aV x * gN (ae ws) (ae ws2) := by
    refine wrap_small ?_ ?_ <;> rcases ml x with h1 | h1 | h1 <;> rcases uj (ae ws) (ae ws2) with h2 | h2 | h2 <;> rw [h1, h2] <;> decide
   rw [ex, ey] at hz;rw [hz];refine aA ?_;refine bh ?_;refine dW ?_;refine cV (fun w H => uS ao ao2 len cap len2 cap2 ws ws2 w (hW.below H.below) (hW2.below H.below) hl hl2 Cp Cp) ?_;refine dW ?_;refine aC ?_;refine dZ fun w' H => ?_;exact ⟨_, dT, rfl, H.below⟩
end Go.Proofs.YtjjlmfmoihooiaaGreat
namespace Go.Proofs.YtjjlmfmoihooiaaGreat
structure mS (A : Nat) (b : Int) (r0 r1 : Nat) (m0 m1 : Int) : Prop where
 c0 : b ∣ (r0 : Int) - m0 * A
 c1 : b ∣ (r1 : Int) - m1 * A
 g : Nat.gcd r0 r1 = Nat.gcd A b.natAbs
 s : (0 <= m0 /\ m1 <= 0) \/ (m0 <= 0 /\ 0 <= m1)
 d : r0 * m1.natAbs + r1 * m0.natAbs = b.natAbs
 k0 : m0.natAbs <= b.natAbs
 k1 : m1.natAbs <= b.natAbs
theorem mS.start (A : Nat) {b : Int} (hb : b ≠ 0) : mS A b A b.natAbs 1 0 := by
 refine ⟨by simp, ?_, rfl, .inl ⟨by omega, by omega⟩, by simp, by omega, by simp⟩;rw [De, Int.sub_zero];exact Int.dvd_natAbs.2 (Int.dvd_refl b)
theorem og {m0 m1 : Int} (q : Nat) (s : (0 <= m0 /\ m1 <= 0) \/ (m0 <= 0 /\ 0 <= m1)) : (m0 - (q : Int) * m1).natAbs = m0.natAbs + q * m1.natAbs := by
 rcases s with ⟨h0, h1⟩ | ⟨h0, h1⟩
 . obtain ⟨a, rfl⟩ := Ef h0;obtain ⟨c, hc⟩ := Ef (Int.neg_nonneg_of_nonpos h1);obtain rfl : m1 = -(c : Int) := by omega
   rw [Ew, Int.sub_neg, <- Dq];simp only [DK, EU];omega
 . obtain ⟨c, rfl⟩ := Ef h1;obtain ⟨a, ha⟩ := Ef (Int.neg_nonneg_of_nonpos h0);obtain rfl : m0 = -(a : Int) := by omega
   rw [<- Dq];simp only [DK, EU];omega
theorem mS.step {A : Nat} {b : Int} {r0 r1 : Nat} {m0 m1 : Int} (h : mS A b r0 r1 m0 m1) (hr : r1 ≠ 0) : mS A b r1 (r0 % r1) m1 (m0 - ((r0 / r1 : Nat) : Int) * m1) := by
 have hd := Ds r0 r1;have hn := og (r0 / r1) h.s;have hD : r1 * (m0 - ((r0 / r1 : Nat) : Int) * m1).natAbs + (r0 % r1) * m1.natAbs = b.natAbs := by
  rw [hn, <- h.d];have : r0 * m1.natAbs = r1 * (r0 / r1) * m1.natAbs + r0 % r1 * m1.natAbs := by rw [<- CY, hd]
  rw [this, CA, CN];omega
 refine ⟨h.c1, ?_, ?_, ?_, hD, h.k1, ?_⟩
 . have e : ((r0 % r1 : Nat) : Int) = (r0 : Int) - (r1 : Int) * ((r0 / r1 : Nat) : Int) := by
    have : (r0 : Int) = ((r1 * (r0 / r1) + r0 % r1 : Nat) : Int) := by rw [hd]
    rw [this]; push_cast; omega
   rw [e];have := Int.dvd_sub h.c0 (Int.dvd_mul_of_dvd_left (c := ((r0 / r1 : Nat) : Int)) h.c1);have e2 : (r0 : Int) - (r1 : Int) * ((r0 / r1 : Nat) : Int) - (m0 - ((r0 / r1 : Nat) : Int) * m1) * A = (r0 : Int) - m0 * A - ((r1 : Int) - m1 * A) * ((r0 / r1 : Nat) : Int) := by
    generalize ((r0 / r1 : Nat) : Int) = q;rw [Fj, Fj, Dc q m1, CH m1 q, Dc q, <- CH];omega
   rw [e2]; exact this
 . rw [<- h.g, Nat.gcd_comm, Nat.gcd_comm r0 r1, Nat.gcd_rec r1 r0]
 . rcases h.s with ⟨h0, h1⟩ | ⟨h0, h1⟩
   . refine .inr ⟨h1, ?_⟩;have := Int.mul_nonpos_of_nonneg_of_nonpos (Int.natCast_nonneg (r0 / r1)) h1;omega
   . refine .inl ⟨h1, ?_⟩;have := Int.mul_nonneg (Int.natCast_nonneg (r0 / r1)) h1;omega
 . have : 1 * (m0 - ((r0 / r1 : Nat) : Int) * m1).natAbs <= r1 * (m0 - ((r0 / r1 : Nat) : Int) * m1).natAbs := Cy _ Cp;omega
def eU (a b g x y : Int) : Prop :=
 if b = 0 then g = a.natAbs /\ x = a.sign /\ y = 0
 else g = Int.gcd a b /\ 0 <= x /\ x * g < b.natAbs /\ a * x + b * y = g
theorem mS.done {a b : Int} {r0 : Nat} {m0 m1 : Int} (hb : b ≠ 0) (h : mS a.natAbs b r0 0 m0 m1) : (r0 : Int) = Int.gcd a b /\ b ∣ (r0 : Int) - (if a < 0 then -m0 else m0) * a := by
 refine ⟨?_, ?_⟩
 . have := h.g; rw [Nat.gcd_zero_right] at this; rw [this]; rfl
 . have := h.c0;have e : (if a < 0 then -m0 else m0) * a = m0 * (a.natAbs : Int) := by
    split
    . have : (a.natAbs : Int) = -a := by omega
      rw [this, Du, Ew]
    . have : (a.natAbs : Int) = a := by omega
      rw [this]
   rw [e]; exact this
theorem sH {a b g m : Int} (hb : b ≠ 0) (hg : g = Int.gcd a b) (hm : b ∣ g - m * a) : g ∣ b /\ b / g ≠ 0 /\ b ∣ g - a * (m % (b / g)) /\ eU a b g (m % (b / g)) ((g - a * (m % (b / g))) / b) := by
 have hgb : g ∣ b := hg ▸ Fb ..;have hga : g ∣ a := hg ▸ Int.gcd_dvd_left ..;obtain ⟨c, hc⟩ := hgb;obtain ⟨e, he⟩ := hga;have hg0 : g ≠ 0 := fun h => hb (by rw [hc, h, De]);have hgp : 0 < g := by rw [hg] at hg0 |-; omega
 have hq : b / g = c := by rw [hc]; exact DH _ hg0
 have hc0 : c ≠ 0 := fun h => hb (by rw [hc, h, CS]);rw [hq];have hdv : b ∣ g - a * (m % c) := by
  have h1 : g - a * (m % c) = (g - m * a) + b * (e * (m / c)) := by
   have hm' := Int.emod_add_mul_ediv m c;have : m % c = m - c * (m / c) := by omega
   rw [this, he, hc];simp only [EM, CH, Dc, Dr];omega
  rw [h1];exact Int.dvd_add hm (Int.dvd_mul_right ..)
 refine ⟨⟨c, hc⟩, hc0, hdv, ?_⟩;unfold eU;rw [if_neg hb];refine ⟨hg, DO _ hc0, ?_, ?_⟩
 . have h2 : (b.natAbs : Int) = c.natAbs * g := by
    rw [hc, CP, Dq, Int.natAbs_of_nonneg (D1 hgp), Dc]
   rw [h2];have h3 : m % c < (c.natAbs : Int) := Int.emod_lt m hc0;exact Int.mul_lt_mul_of_pos_right h3 hgp
 . obtain ⟨d, hd⟩ := hdv;rw [hd, DH _ hb];omega
end Go.Proofs.YtjjlmfmoihooiaaGreat
namespace Go.Proofs.YtjjlmfmoihooiaaGreat
open Go.RowKit
def AV.int2 (B : Nat) (x y : Int) : AV := AV.free (fun w v => ∃ b ao l k b' ao' l' k', v = .agg #[.bool b, .slice ao l k, .bool b', .slice ao' l' k'] /\ ai w B (.agg #[.bool b, .slice ao l k]) x /\ ai w B (.agg #[.bool b', .slice ao' l' k']) y) (fun ⟨b, ao, l, k, b', ao', l', k', e, h, h'⟩ hb => ⟨b, ao, l, k, b', ao', l', k', e, ai.below h hb, ai.below h' hb⟩) (fun ⟨b, ao, l, k, b', ao', l', k', e, h, h'⟩ hr _ ht j u _ => ⟨b, ao, l, k, b', ao', l', k', e, ai.setRow h hr ht j u, ai.setRow h' hr ht j u⟩)
theorem tV (x : Int) : aV x = x.sign := by
 unfold aV;rcases Fc x 0 with h | h | h
 . rw [if_pos h, DW h]
 . subst h; rfl
 . rw [if_neg Cp, if_neg Cp, Ek h]
theorem tS (a : Int) : eU a 0 ((a.natAbs : Nat) : Int) (aV a) 0 := by
 unfold eU;rw [if_pos rfl];exact ⟨rfl, tV a, rfl⟩
theorem dm {x : Int} : (aV x = 0) ↔ x = 0 := by
 unfold aV; split
 . constructor <;> intro h <;> omega
 . split <;> constructor <;> intro h <;> omega
theorem gK {ps : List P4} {tl : List Value} (n : aN tl) : aN (flat ps ++ tl) := aN.append (gH ps) n
theorem qu (ps : List P4) {tl : List Value} (n : aN tl) (i : Nat) (p : P4) : ∃ tl', aN tl' /\ ((flat ps ++ tl).set (i * 2) (.bool p.1)).set (i * 2 + 1) (.slice p.2.1 p.2.2.1 p.2.2.2) = flat (ps.set i p) ++ tl' := by
 by_cases h : i < ps.length
 . refine ⟨tl, n, ?_⟩;have hl := bG ps;rw [DX _ _ Cp, DX _ _ (by rw [CL]; omega), nH]
 . refine ⟨(tl.set (i * 2 - (flat ps).length) (.bool p.1)).set (i * 2 + 1 - (flat ps).length) (.slice p.2.1 p.2.2.1 p.2.2.2), (n.Av _ _).setS _ _ _ _, ?_⟩;have hl := bG ps;have e : ps.set i p = ps := List.set_eq_of_length_le Cp;rw [D8 _ _ Cp, D8 _ _ Cp, e]
def aO (w : World) (b : Nat) (xs : List Int) : Prop := ∃ (ps : List P4) (tl : List Value), aN tl /\ aa w b 37 (flat ps ++ tl) /\ ps.length = xs.length /\ ∀ i (h : i < ps.length) (h' : i < xs.length), aL w (av ps[i]) xs[i]
theorem aO.of {w : World} {b : Nat} {xs : List Int} {ps : List P4} (h : aa w b 37 (flat ps)) (hl : ps.length = xs.length) (hn : ∀ i (h : i < ps.length) (h' : i < xs.length), aL w (av ps[i]) xs[i]) : aO w b xs := ⟨ps, [], aN.nil, by rw [DZ]; exact h, hl, hn⟩
theorem aO.lt {w : World} {b : Nat} {xs : List Int} (h : aO w b xs) : b < w.heap.size := by
 obtain ⟨ps, tl, nt, hr, _⟩ := h; exact hr.lt
theorem aO.below {w w' : World} {b : Nat} {xs : List Int} (h : aO w b xs) (hb : Below w.heap.size w w') : aO w' b xs := by
 obtain ⟨ps, tl, nt, hr, hl, hn⟩ := h;exact ⟨ps, tl, nt, hr.below hb hr.lt, hl, fun i h1 h2 => (hn i h1 h2).below hb⟩
theorem aO.other {w : World} {b g : Nat} {xs : List Int} (h : aO w b xs) (hne : b ≠ g) {t : TypeId} {cs : List Value} (hr : aa w g t cs) (hn : aN cs) (i : Nat) (u : Value) : aO (w.setCell ⟨g, i, none⟩ u) b xs := by
 obtain ⟨ps, tl, nt, hr', hl, hn'⟩ := h;exact ⟨ps, tl, nt, hr'.other hne u, hl, fun j h1 h2 => (hn' j h1 h2).setRow hr hn i u⟩
theorem aO.get {w : World} {b : Nat} {xs : List Int} (h : aO w b xs) {i : Nat} (hi : i < xs.length) : ∃ p : P4, w.cell? ⟨b, i * 2, none⟩ = some (.bool p.1) /\ w.cell? ⟨b, i * 2 + 1, none⟩ = some (.slice p.2.1 p.2.2.1 p.2.2.2) /\ aL w (av p) xs[i] := by
 obtain ⟨ps, tl, nt, hr, hl, hn⟩ := h;have hi' : i < ps.length := by omega
 have hf := bG ps;exact ⟨ps[i], by rw [hr.cell, List.getElem?_append_left Cp]; exact jU ps i hi', by rw [hr.cell, List.getElem?_append_left Cp]; exact jQ ps i hi', hn i hi' hi⟩
theorem aO.free {w : World} {b : Nat} {xs : List Int} (h : aO w b xs) (i : Nat) : w.frozen? ⟨b, i, none⟩ = false := by
 obtain ⟨ps, tl, nt, hr, _⟩ := h; exact hr.free i
theorem aO.set {w : World} {b : Nat} {xs : List Int} (h : aO w b xs) (i : Nat) {p : P4} {x : Int} (hx : aL w (av p) x) : aO ((w.setCell ⟨b, i * 2, none⟩ (.bool p.1)).setCell ⟨b, i * 2 + 1, none⟩ (.slice p.2.1 p.2.2.1 p.2.2.2)) b (xs.set i x) := by
 obtain ⟨ps, tl, nt, hr, hl, hn⟩ := h;have h1 := hr.set (i * 2) (.bool p.1);have hn0 : aN (flat ps ++ tl) := gK nt;have hn1 := hn0.Av (i * 2) p.1;have h2 := h1.set (i * 2 + 1) (.slice p.2.1 p.2.2.1 p.2.2.2);obtain ⟨tl', nt', e⟩ := qu ps nt i p;rw [e] at h2;refine ⟨ps.set i p, tl', nt', h2, by simp [hl], fun j hj hj' => ?_⟩;rw [DL, DL];split
 . exact (hx.setRow hr hn0 _ _).setRow h1 hn1 _ _
 . exact ((hn j (by simpa using hj) (by simpa using hj')).setRow hr hn0 _ _).setRow h1 hn1 _ _
theorem aO.ei {w : World} {b : Nat} {xs : List Int} (h : aO w b xs) {L : Nat} {v : Value} {x : Int} (hx : ah w L v x) (i : Nat) (p : P4) : ah ((w.setCell ⟨b, i * 2, none⟩ (.bool p.1)).setCell ⟨b, i * 2 + 1, none⟩ (.slice p.2.1 p.2.2.1 p.2.2.2)) L v x := by
 obtain ⟨ps, tl, nt, hr, hl, hn⟩ := h;exact (hx.setRow hr (gK nt) _ _).setRow (hr.set _ _) ((gK nt).Av _ _) _ _
theorem aO.qx {w : World} {b : Nat} {xs : List Int} (h : aO w b xs) {b' : Nat} {ys : List Int} (hy : aO w b' ys) (hne : b' ≠ b) (i : Nat) (p : P4) : aO ((w.setCell ⟨b, i * 2, none⟩ (.bool p.1)).setCell ⟨b, i * 2 + 1, none⟩ (.slice p.2.1 p.2.2.1 p.2.2.2)) b' ys := by
 obtain ⟨ps, tl, nt, hr, hl, hn⟩ := h;exact (hy.other hne hr (gK nt) _ _).other hne (hr.set _ _) ((gK nt).Av _ _) _ _
theorem aQ.below {w w' : World} {L : Nat} {ao : Option Addr} {xs : List Int} (h : aQ w L ao xs) (hb : Below w.heap.size w w') : aQ w' L ao xs := by
 intro hl;obtain ⟨b, o, e, hlt, hc⟩ := h hl;refine ⟨b, o, e, CK hlt hb.size, fun i hi => ?_⟩;obtain ⟨p, h0, h1, hn⟩ := hc i hi;exact ⟨p, (hb.cell (p := ⟨b, o + i * 2, none⟩) hlt).trans h0, (hb.cell (p := ⟨b, o + i * 2 + 1, none⟩) hlt).trans h1, hn.below hb⟩
theorem kR : (Tryz.prog.info? 37).map (fun i => (i.zero, i.size, i.bytes)) = some (some (.agg #[.bool false, .slice none 0 0]), 2, 32) := by kernel_rfl
theorem aL.zero (w : World) : aL w (av p0) 0 := (ai.zero w 0).num
theorem aO.pJ {w : World} {b n : Nat} (h : aa w b 37 (flat (List.replicate n p0))) : aO w b (List.replicate n 0) :=
 aO.of h Cq (fun i h1 h2 => by simp; exact aL.zero w)
theorem pb (n : Nat) : (madeCells (Value.agg #[.bool false, .slice none 0 0]).cells (n * 2)).toList = flat (List.replicate n p0) := by
 have hz : (Value.agg #[.bool false, .slice none 0 0]).cells = #[.bool false, .slice none 0 0] := rfl;rw [hz];apply List.ext_getElem?;intro j;by_cases hj : j < n * 2
 . rcases Nat.mod_two_eq_zero_or_one j with h | h
   . obtain ⟨i, rfl⟩ : ∃ i, j = i * 2 := ⟨j / 2, by omega⟩;rw [jU _ i (by simp; omega)];simp [madeCells, hj, p0]
   . obtain ⟨i, rfl⟩ : ∃ i, j = i * 2 + 1 := ⟨j / 2, by omega⟩;rw [jQ _ i (by simp; omega)];have e : (i * 2 + 1) % 2 = 1 := h;simp [madeCells, hj, p0, e]
 . rw [List.getElem?_eq_none (by simp [madeCells]; omega), List.getElem?_eq_none (by rw [bG]; simp; omega)]
theorem uK {w : World} {ops : Array Oper} {rest : List Oper} {o : Oper} {a : Act} {Q : Exit -> Act -> World -> Prop}
 (hg : o.guard = none) (l c : Operand) (hop : o.op = Op.makeSlice 22 l c)
 {kl kc : IntKind} {L C : Int} (n m : Nat) (hl : a.eval l = .int kl L) (hc : a.eval c = .int kc C) (hL : L = (n : Int)) (hC : C = (m : Int)) (hnm : n <= m) (b2 : m <= 8796093022208)
 (hK : ∀ b w', Made w w' b 37 (flat (List.replicate m p0)) -> wpList Tryz.prog ops Q rest (a.put o.dst (.slice (some ⟨b, 0, none⟩) n m)) w') :
 wpList Tryz.prog ops Q (o :: rest) a w :=
 eB hg l c 22 hop 37 (.agg #[.bool false, .slice none 0 0]) 2 32 Tryz.underlying22 kR n m hl hc hL hC hnm Cp (by unfold maxLen; omega)
  (fun b w' h => hK b w' (by rw [pb] at h; exact h))
theorem aL.least {w : World} {v : Value} {x : Int} (h : aL w v x) : ∃ ao cap, v = .agg #[.bool (decide (x < 0)), .slice ao (ag x.natAbs) cap] /\ cX w ao (fM x.natAbs) /\ ag x.natAbs <= cap := by
 obtain ⟨⟨n, ao, len, cap, ws, rfl, hW, hl, hL, hc, hx⟩, s, hs⟩ := h;have hn : n = decide (x < 0) := by injection hs with hs; simp at hs; exact hs.1
 have hv : ae ws = x.natAbs := by rw [hx, ij]
 have h1 := bS hW.1;rw [hv] at h1;have h2 := aK ws;have h3 := iz hW.1;rw [hv, CJ Cp] at h3;have h4 : len = ag x.natAbs := by omega
 subst hn;rw [h3];exact ⟨ao, cap, by rw [h4], hW, by omega⟩
theorem fq.below {w w' : World} {ao : Option Addr} {xs : List Int} (h : fq w ao xs) (hb : Below w.heap.size w w') : fq w' ao xs := by
 intro hl;obtain ⟨b, o, e, hlt, hc⟩ := h hl;refine ⟨b, o, e, CK hlt hb.size, fun i hi => ?_⟩;obtain ⟨p, h0, h1, hn⟩ := hc i hi;exact ⟨p, (hb.cell (p := ⟨b, o + i * 2, none⟩) hlt).trans h0, (hb.cell (p := ⟨b, o + i * 2 + 1, none⟩) hlt).trans h1, hn.below hb⟩
theorem aO.lsN {w : World} {b : Nat} {xs : List Int} (h : aO w b xs) : fq w (some ⟨b, 0, none⟩) xs := by
 intro _;refine ⟨b, 0, rfl, h.lt, fun i hi => ?_⟩;obtain ⟨p, h0, h1, hn⟩ := h.get hi;exact ⟨p, by simpa using h0, by simpa using h1, hn⟩
theorem fq.iR {w : World} {L : Nat} {ao : Option Addr} {xs : List Int} (h : fq w ao xs) (hL : ∀ x ∈ xs, ag x.natAbs <= L) : aQ w L ao xs := by
 intro hl;obtain ⟨b, o, e, hlt, hc⟩ := h hl;exact ⟨b, o, e, hlt, fun i hi => by
  obtain ⟨p, h0, h1, hn⟩ := hc i hi;exact ⟨p, h0, h1, hn.int (hL _ (Cu hi))⟩⟩
theorem wD (n : Nat) : aN (Builtin.zeroCells (Value.agg #[.bool false, .slice none 0 0]).cells n).toList := by
 have e : (Value.agg #[.bool false, .slice none 0 0]).cells = #[.bool false, .slice none 0 0] := rfl;rw [e];intro v hv k;unfold Builtin.zeroCells at hv;simp only [Array.toList_map, List.mem_map, Array.mem_toList_iff, Array.mem_range] at hv;obtain ⟨i, _, rfl⟩ := hv;have h2 : i % 2 = 0 \/ i % 2 = 1 := by omega
 rcases h2 with h2 | h2 <;> simp [h2]
structure Hd where
 blk : Nat
 cap : Nat
 xs : List Int
def Hd.dA (h : Hd) : Value := .slice (some ⟨h.blk, 0, none⟩) h.xs.length h.cap
def rowOf (xs : List Int) (c k : Nat) : List Int := (xs.drop (k * c)).take c
theorem eh {xs : List Int} {r c k : Nat} (hl : xs.length = r * c) (hk : k < r) : (rowOf xs c k).length = c := by
 have h1 : (k + 1) * c <= r * c := Cy _ Cp;have h2 : (k + 1) * c = k * c + c := Dz k c;simp [rowOf, hl]; omega
theorem aa.ne {w : World} {a b : Nat} {t t' : TypeId} {cs cs' : List Value} (h : aa w a t cs) (h' : aa w b t' cs') (ht : t ≠ t') : a ≠ b := by
 rintro rfl;unfold aa at h h';rw [h] at h';simp only [Option.some.injEq, Obj.cells.injEq] at h';exact ht h'.2.1
theorem aU.zQ {S : Nat -> Prop} {w w' : World} (h : aU S w w') (hS : dX S w) {b : Nat} {xs : List Int} (hx : aO w b xs) (hb : ¬ S b) : aO w' b xs := by
 obtain ⟨ps, tl, nt, hr, hl, hn⟩ := hx;exact ⟨ps, tl, nt, h.row hr hb, hl, fun i h1 h2 => h.num hS (hn i h1 h2)⟩
theorem aO.bZ {w : World} {b : Nat} {xs : List Int} (h : aO w b xs) : dX (· = b) w := by
 rintro g rfl;obtain ⟨ps, tl, nt, hr, _⟩ := h;exact ⟨_, _, hr, gK nt⟩
theorem aO.kK {w : World} {b : Nat} {xs : List Int} (h : aO w b xs) {g : Nat} {t : TypeId} {cs : List Value} (hr : aa w g t cs) (ht : t ≠ 37) (hn : aN cs) (i : Nat) (u : Value) : aO (w.setCell ⟨g, i, none⟩ u) b xs := by
 have hne : b ≠ g := by
  obtain ⟨ps, tl, nt, hp, _⟩ := h;exact hp.ne hr (fun e => ht e.symm)
 exact h.other hne hr hn i u
def bL (n : Int) : Bool := decide (0 <= n) && decide (n <= 64)
theorem nY (n : Int) (w : World) :
 Calls Tryz.prog 34 #[.int .i64 n] w fun e w' => e = .returned (.bool (bL n)) /\ w' = w := by
 go_enter Tryz.func34, Tryz.ntmps34;by_cases h0 : 0 <= n
 . by_cases h1 : n <= 64
   . go_wp2;go_ret;refine ⟨?_, rfl⟩;simp [bL, h0, h1]
   . go_wp2;go_ret;refine ⟨?_, rfl⟩;simp [bL, h0, h1]
 . go_wp2;go_ret;refine ⟨?_, rfl⟩;have h9 : decide (0 <= n) = false := by simp; omega
   simp [bL, h9]
def ba (r c : Int) (len : Nat) : Bool := bL r && bL c && ((len : Int) == r * c)
def wW (r c : Int) (len : Nat) : Int := if ba r c len then 0 else 1
theorem iF {r c : Int} {len : Nat} (h : ba r c len = false) : wW r c len = 1 := by unfold wW; rw [h]; rfl
theorem dv {r c : Int} {len : Nat} (h : ba r c len = true) : wW r c len = 0 := by unfold wW; rw [h]; rfl
theorem cW (r c : Int) (ao : Option Addr) (len cap : Nat) (w : World) (hr : -9223372036854775808 <= r /\ r <= 9223372036854775807) (hc : -9223372036854775808 <= c /\ c <= 9223372036854775807) :
 Calls Tryz.prog 7 #[.agg #[.int .i64 r, .int .i64 c, .slice ao len cap]] w fun e w' => e = .returned (.int .i64 (wW r c len)) /\ Below w.heap.size w w' := by
 have hb : Below w.heap.size w (w.alloc (.cells #[.int .i64 r, .int .i64 c, .slice ao len cap] 24)) := (Below.refl _ _).alloc (Ct _) _;have HB := H5 hb; clear hb;go_enter Tryz.func7, Tryz.ntmps7;go_wp2_with fail
 refine (nY _ _).mono ?_;rintro e w' ⟨rfl, rfl⟩;cases h1 : bL r
 . go_wp2;go_ret;rw [iF (by simp [ba, h1])];exact ⟨rfl, HB.out⟩
 . have hr2 : 0 <= r /\ r <= 64 := by simpa [bL] using h1
   have H1 := H5 h1; clear h1;go_wp2_with fail
   refine (nY _ _).mono ?_;rintro e w' ⟨rfl, rfl⟩;cases h2 : bL c
   . go_wp2;go_ret;rw [iF (by simp [ba, h2])];exact ⟨rfl, HB.out⟩
   . have hc2 : 0 <= c /\ c <= 64 := by simpa [bL] using h2
     have H2 := H5 h2; clear h2;have hm : 0 <= r * c /\ r * c <= 4096 := by
      refine ⟨Int.mul_nonneg hr2.1 hc2.1, ?_⟩;have h3 := Int.mul_le_mul_of_nonneg_right hr2.2 hc2.1;omega
     obtain ⟨rc, hrc⟩ := Cs (r * c);rw [hrc] at hm;have hw : IntKind.i64.wrap (r * c) = rc := by rw [hrc]; exact wrap_small Cp Cp
     have HRC := H5 hrc; clear hrc;by_cases h3 : (len : Int) = rc
     . have h3' : ((len : Int) != rc) = false := by simpa using h3
       have H3 := H5 h3; clear h3;go_wp2;go_ret;rw [dv (by simp [ba, H1.out, H2.out, HRC.out, H3.out])];exact ⟨rfl, HB.out⟩
     . have h3' : ((len : Int) != rc) = true := by simpa using h3
       have H3 := H5 h3; clear h3;go_wp2;go_ret;rw [iF (by simp [ba, H1.out, H2.out, HRC.out, H3.out])];exact ⟨rfl, HB.out⟩
theorem jt (ao : Option Addr) (cap : Nat) (xs : List Int) (w : World) (h : aQ w 17592186044415 ao xs) (hlen : xs.length <= 8796093022208) :
 Calls Tryz.prog 67 #[.slice ao xs.length cap, .func (.func 58) #[] #[]] w fun e w' => (∃ b, e = .returned (.slice (some ⟨b, 0, none⟩) xs.length xs.length) /\ w.heap.size <= b /\ aO w' b xs) /\ Below w.heap.size w w' := by
 have HL := H5 h; clear h;go_enter Tryz.func67, Tryz.ntmps67;go_wp2_with (at_make; refine uK rfl _ _ rfl xs.length xs.length rfl rfl Cp Cp (Ct _) Cp ?_; intro bo w1 hm1)
 have hbo : w.heap.size <= bo := by have := hm1.at_; omega
 have R1 := H5 (aO.pJ hm1.row);have L1 := H5 (HL.out.below hm1.below);have B1 := H5 hm1.below;clear hm1;go_wp2;go_loopw [13] (fun i wr => ∃ (m : Nat) (cu : List Int), m <= xs.length /\ i = .int .i64 (m : Int) /\ Hid (cu.length = xs.length /\ ∀ j (h : j < cu.length) (h1 : j < xs.length), j < m -> cu[j] = xs[j]) /\ Hid (aO wr bo cu) /\ Hid (aQ wr 17592186044415 ao xs) /\ Hid (Below w.heap.size w wr)) (fun i _ => xs.length - (intOf i).toNat)
 case atStart => exact ⟨0, _, Cx _, rfl, H5 ⟨by simp, fun j _ _ h => by omega⟩, R1, L1, B1⟩
 case round =>
  obtain ⟨m, cu, hm, rfl, HA, hX, hL, hB⟩ := hrel;by_cases hml : m < xs.length
  . have hmx : m < cu.length := by rw [HA.out.1]; exact hml
    have hm2 : (m : Int) < (xs.length : Int) := by omega
    obtain ⟨ab, aoff, rfl, hab, hcells⟩ := hL.out Cp;obtain ⟨px, cx0, cx1, hnx⟩ := hcells m hml;have Hnx := H5 hnx; clear hnx hcells;have hb1 : Below wr.heap.size wr (wr.alloc (.cells #[.bool px.1, .slice px.2.1 px.2.2.1 px.2.2.2] 37)) := (Below.refl _ _).alloc (Ct _) _;have X1 := H5 (hX.out.below hb1);have L2 := H5 (hL.out.below hb1);have B2 := H5 (hB.out.trans (hb1.mono hB.out.size));have N2 := H5 (Hnx.out.below hb1);clear hb1 hX hL hB Hnx;go_wp2_with fail
    generalize wr.alloc (.cells #[.bool px.1, .slice px.2.1 px.2.2.1 px.2.2.2] 37) = w2 at *;clear cx0 cx1;refine (gz _ xs[m] _ N2.out).mono ?_;rintro e w3 ⟨⟨vz, rfl, hvz⟩, hb3⟩;obtain ⟨pz, rfl⟩ := aL.parts hvz.num;have X3 := H5 (X1.out.below hb3);have B3 := H5 (B2.out.trans (hb3.mono B2.out.size));have Z3 := H5 hvz.num;clear hvz hb3 X1 L2 B2 N2;unfold av at *;obtain ⟨pq, q0, q1, _⟩ := X3.out.get hmx;have q2 := X3.out.free (m * 2);have q3 := X3.out.free (m * 2 + 1);have hmc : (m : Int) < (xs.length : Int) := hm2;go_wp2;clear q0 q1 q2 q3;go_roundw
    case rel =>
     have hBf := (B3.out.setCell (p := ⟨bo, m * 2, none⟩) hbo (.bool pz.1)).setCell (p := ⟨bo, m * 2 + 1, none⟩) hbo (.slice pz.2.1 pz.2.2.1 pz.2.2.2);refine ⟨m + 1, cu.set m xs[m], by omega, by go_num, H5 ⟨by simpa using HA.out.1, fun j hj hj1 hjm => ?_⟩, H5 (X3.out.set m (p := pz) Z3.out), H5 (HL.out.below hBf), H5 hBf⟩;rw [DL];split
     . rename_i e; subst e; rfl
     . exact HA.out.2 j (by simpa using hj) hj1 Cp
    case measure => simp [intOf]; omega
  . obtain rfl : m = xs.length := by omega
    have he : cu = xs := Dx HA.out.1 fun j h1 h2 => HA.out.2 j h1 h2 h2;have HE := H5 he;clear he;go_wp2;go_ret;refine ⟨⟨bo, rfl, hbo, ?_⟩, hB.out⟩;have := hX.out;rw [HE.out] at this;exact this
end Go.Proofs.YtjjlmfmoihooiaaGreat
namespace Go.Proofs.YtjjlmfmoihooiaaGreat
open Go.ChangeShapes Go.WideShapes Go.ChangeAt Go.RowKit Go.Deep
section
variable {H : Type} {enc : TypeId × Value -> H} {w : World} {base : Nat} {sp : Nat -> Bool} {held : Bool}
theorem rk (d : DataW H) : 1 <= Rows.uptoBulk d := by
 cases d with
 | lit l => cases l <;> simp [Rows.uptoBulk]
 | nil => simp [Rows.uptoBulk]
 | ptr d => simp [Rows.uptoBulk]
 | slice elems spare => simp [Rows.uptoBulk]
 | agg parts => simp [Rows.uptoBulk]
 | iface t d => simp [Rows.uptoBulk]
 | map entries => simp [Rows.uptoBulk]
 | held h => simp [Rows.uptoBulk]
theorem sV (l r : List (DataW H)) : Rows.uptoBulkAll (l ++ r) = Rows.uptoBulkAll l + Rows.uptoBulkAll r := by
 induction l with
 | nil => simp [Rows.uptoBulkAll]
 | cons x l ih => simp only [Dp, Rows.uptoBulkAll, ih]; omega
theorem xq {d : DataW H} {l : List (DataW H)} (h : d ∈ l) : Rows.uptoBulk d <= Rows.uptoBulkAll l := by
 induction l with
 | nil => cases h
 | cons x r ih =>
  simp only [Rows.uptoBulkAll];rcases List.mem_cons.1 h with rfl | h
  . omega
  . have := ih h; omega
theorem mB (l : List (DataW H)) : l.length <= Rows.uptoBulkAll l := by
 induction l with
 | nil => simp [Rows.uptoBulkAll]
 | cons x r ih => have := rk x; simp only [Rows.uptoBulkAll, Er]; omega
theorem iQ (l r : List (DataW H)) : Rows.uptoBulk (.slice l r) = Rows.uptoBulkAll l + Rows.uptoBulkAll r + 1 := by simp [Rows.uptoBulk]
theorem rL (l : List (DataW H)) : Rows.uptoBulk (.agg l) = Rows.uptoBulkAll l + 1 := by simp [Rows.uptoBulk]
theorem At {α : Type} {n : Nat} {p : Nat -> α -> Prop} (h : ∀ i, i < n -> ∃ x, p i x) : ∃ l : List α, l.length = n /\ ∀ i (hi : i < l.length), p i l[i] := by
 induction n with
 | zero => exact ⟨[], rfl, fun i hi => by simp at hi⟩
 | succ n ih =>
  obtain ⟨l, hl, hp⟩ := ih (fun i hi => h i Cp);obtain ⟨x, hx⟩ := h n Cp;refine ⟨l ++ [x], by simp [hl], fun i hi => ?_⟩;by_cases hin : i < l.length
  . rw [D9 hin]; exact hp i hin
  . have : i = n := by simp at hi; omega
    subst this;rw [List.getElem_append_right Cp];simp [hl]; exact hx
theorem oY {w : World} {a : Addr} {v : Value} (h : w.cell? a = some v) : ∃ b o, a = ⟨b, o, none⟩ /\ b < w.heap.size := by
 have h1 := World.cell?_spot h;obtain ⟨b, o, s⟩ := a;exact ⟨b, o, by simpa using h1, qI h⟩
theorem tQ {fuel : Nat} {cs : List Value} {x : DataW H × List MemPlace} (h : DataW.trod enc Tryz.prog w base sp held fuel 35 cs = some x) :
 ∃ ao len cap ws, cs = [.slice ao len cap] /\ len = ws.length /\ len <= cap /\ cX w ao ws /\ ws.length + 1 <= Rows.uptoBulk x.1 := by
 rcases open_ints Tryz.underlying35 Tryz.underlying60 (by kernel_rfl) h with ⟨rfl, rfl⟩ | ⟨a, len, cap, zs, rfl, hb, hl, hm, hz, rfl, hcell, hwf⟩
 . exact ⟨none, 0, 0, [], rfl, rfl, Ct _, ⟨fun x h => (by cases h), fun h => absurd h Cq⟩, by simp [Rows.uptoBulk]⟩
 . have hlz : len <= zs.length := by rw [hz]; split <;> omega
   have hrng : ∀ z ∈ zs, 0 <= z /\ z < 18446744073709551616 := fun z hzm => by
    have h1 : 0 <= z /\ z <= 18446744073709551615 := by simpa [Lit.wf, IntKind.min, IntKind.max, IntKind.signed, IntKind.bits] using hwf z hzm
    omega
   have hll : ((zs.take len).map Int.toNat).length = len := by simp; omega
   refine ⟨some a, len, cap, (zs.take len).map Int.toNat, rfl, hll.symm, hl, ⟨fun x hx => ?_, fun hp => ?_⟩, ?_⟩
   . obtain ⟨z, hz1, rfl⟩ := List.mem_map.1 hx;have := hrng z (Eu hz1);unfold W; omega
   . rw [hll] at hp;have h0 := hcell 0 Cp;obtain ⟨b, o, rfl, hblt⟩ := oY (a := a) (w := w) (by simpa [Addr.add] using h0);refine ⟨b, o, rfl, hblt, fun i hi => ?_⟩;rw [hll] at hi;have h1 := hcell i Cp;rw [add_plain] at h1;rw [h1];have h2 := hrng (zs[i]'Cp) (Cu Cp);have e1 : zs.getD i 0 = zs[i]'Cp := by rw [List.getD_eq_getElem?_getD, List.getElem?_eq_getElem Cp]; rfl
     have e2 : gw ((zs.take len).map Int.toNat) i = (zs[i]'Cp).toNat := by
      unfold gw;rw [List.getD_eq_getElem?_getD, List.getElem?_eq_getElem (by rw [hll]; exact hi)];simp
     rw [e1, e2];congr 2;omega
   . rw [iQ, hll];have := mB (lits (H := H) .u64 (zs.take len));have e : (lits (H := H) .u64 (zs.take len)).length = len := by simp [lits]; omega
     omega
theorem yw {fuel : Nat} {cs : List Value} {x : DataW H × List MemPlace} (h : DataW.trod enc Tryz.prog w base sp held fuel 37 cs = some x) :
 ∃ (p : P4) (L : Nat) (z : Int), cs = [.bool p.1, .slice p.2.1 p.2.2.1 p.2.2.2] /\ ah w L (av p) z /\ L + 3 <= Rows.uptoBulk x.1 := by
 obtain ⟨y0, y1, n, rfl, hl, h0, h1⟩ := trod_struct2 Tryz.underlying37 h;obtain ⟨c0, c1, rfl⟩ : ∃ c0 c1, cs = [c0, c1] := by
  have e : cs.length = 2 := hl.trans (by kernel_rfl);match cs, e with
  | [a, b], _ => exact ⟨a, b, rfl⟩
 rw [show Tryz.prog.cellsOf 4 = 1 by kernel_rfl] at h0;rw [show Tryz.prog.cellsOf 35 = 1 by kernel_rfl] at h1;obtain ⟨b, hb, hy0⟩ := DataW.trod_bool Tryz.underlying4 h0;obtain ⟨ao, len, cap, ws, hc, hlen, hcap, hW, hbk⟩ := tQ h1;simp at hb hc;subst hb hc;refine ⟨(b, ao, len, cap), len, zi b (ae ws), rfl, ⟨b, ao, len, cap, ws, rfl, hW, hlen, Ct _, hcap, rfl⟩, ?_⟩;rw [rL];simp only [Rows.uptoBulkAll];have := rk y0.1;omega
theorem rm (D : Nat -> DataW H) (f : Nat -> Nat) : ∀ n, (∀ i, i < n -> f i <= Rows.uptoBulk (D i)) -> ((List.range n).map f).sum <= Rows.uptoBulkAll ((List.range n).map D)
 | 0, _ => by simp
 | n + 1, h => by
  have h1 := rm D f n fun i hi => h i Cp;have h2 := h n Cp;rw [Ey, List.map_append, List.map_append, List.sum_append, sV];simp only [List.map_cons, List.map_nil, List.sum_cons, List.sum_nil, Rows.uptoBulkAll];omega
theorem se {fuel : Nat} {cs : List Value} {x : DataW H × List MemPlace} (h : DataW.trod enc Tryz.prog w base sp held fuel 22 cs = some x) :
 ∃ ao len cap xs, cs = [.slice ao len cap] /\ len = xs.length /\ len <= cap /\ aQ w (Rows.uptoBulk x.1) ao xs /\ xs.length + 1 <= Rows.uptoBulk x.1 /\ (xs.map fun z => ag z.natAbs).sum <= Rows.uptoBulk x.1 := by
 rcases open_slice Tryz.underlying22 h with ⟨rfl, rfl⟩ | ⟨a, len, cap, m, n, D, Pl, rfl, hb, hl, hm, hmm, rfl, hi⟩
 . exact ⟨none, 0, 0, [], rfl, rfl, Ct _, fun h => absurd h Cq, by simp [Rows.uptoBulk], by simp⟩
 . have hlm : len <= m := by rw [hmm]; split <;> omega
   have hD : ∀ i, i < len -> Rows.uptoBulk (D i) <= Rows.uptoBulkAll ((List.range len).map D) := fun i hi => xq (List.mem_map.2 ⟨i, List.mem_range.2 hi, rfl⟩);obtain ⟨l, hll, hp⟩ := At (n := len) (p := fun i (q : P4 × Int) => (w.cell? (a.add (i * 2)) = some (.bool q.1.1) /\ w.cell? (a.add (i * 2 + 1)) = some (.slice q.1.2.1 q.1.2.2.1 q.1.2.2.2)) /\ ah w (Rows.uptoBulkAll ((List.range len).map D)) (av q.1) q.2 /\ ag q.2.natAbs <= Rows.uptoBulk (D i)) (fun i hil => by
    obtain ⟨cs', hc, ht⟩ := hi i Cp;rw [show Tryz.prog.cellsOf 37 = 2 by kernel_rfl] at hc;obtain ⟨p, L, z, rfl, hI, hbk⟩ := yw ht;obtain ⟨_, _, hcell⟩ := World.cells?_some hc;have c0 := hcell 0 Cp;have c1 := hcell 1 Cp;rw [add_add] at c0 c1;exact ⟨(p, z), ⟨by simpa using c0, by simpa using c1⟩, hI.mono (by have := hD i hil; have : Rows.uptoBulk (D i, Pl i).1 = Rows.uptoBulk (D i) := rfl; omega), by show ag z.natAbs <= _; have h8 := hI.ag; have h9 : Rows.uptoBulk (D i, Pl i).1 = Rows.uptoBulk (D i) := rfl; omega⟩)
   have hbl : len <= Rows.uptoBulkAll ((List.range len).map D) := by have := mB ((List.range len).map D); simpa using this
   refine ⟨some a, len, cap, l.map Prod.snd, rfl, by simp [hll], hl, fun hpos => ?_, ?_, ?_⟩
   . have hpos' : 0 < len := by simpa [hll] using hpos
     have h0 := (hp 0 Cp).1.1;obtain ⟨b, o, rfl, hblt⟩ := oY (a := a) (w := w) (by simpa [Addr.add] using h0);refine ⟨b, o, rfl, hblt, fun i hi' => ?_⟩;have hil : i < l.length := by simpa using hi'
     obtain ⟨⟨c0, c1⟩, hI, _⟩ := hp i hil;rw [add_plain] at c0 c1;refine ⟨l[i].1, c0, by rw [<- Eh] at c1; exact c1, ?_⟩;have e : (l.map Prod.snd)[i]'hi' = l[i].2 := by simp
     rw [e, iQ];exact hI.mono Cp
   . rw [iQ]; simp [hll]; omega
   . have h1 := rm D (fun i => ag ((l.map Prod.snd).getD i 0).natAbs) len (fun i hi => by
      have h2 := (hp i Cp).2.2;have e : (l.map Prod.snd).getD i 0 = (l[i]'Cp).2 := by
       rw [List.getD_eq_getElem?_getD, List.getElem?_map, List.getElem?_eq_getElem Cp]; rfl
      rw [e]; exact h2)
     have e : (List.range len).map (fun i => ag ((l.map Prod.snd).getD i 0).natAbs) = (l.map Prod.snd).map fun z => ag z.natAbs := by
      refine Dx (by simp [hll]) fun i h1 h2 => ?_;have hi : i < l.length := by simpa using h2
      simp [hi]
     rw [e] at h1;rw [iQ]; omega
theorem vZ {fuel : Nat} {cs : List Value} {x : DataW H × List MemPlace} (h : DataW.trod enc Tryz.prog w base sp held fuel 22 cs = some x) :
 ∃ ao len cap xs, cs = [.slice ao len cap] /\ len = xs.length /\ len <= cap /\ aQ w (Rows.uptoBulk x.1) ao xs /\ xs.length + 1 <= Rows.uptoBulk x.1 := by
 obtain ⟨ao, len, cap, xs, h1, h2, h3, h4, h5, _⟩ := se h;exact ⟨ao, len, cap, xs, h1, h2, h3, h4, h5⟩
theorem xA {r : Reach} {b0 : Nat} {v : Value} {d : DataW H} {p : List MemPlace} (hv : Value.okWide Tryz.prog w r b0 24 v) (h : DataW.Trod enc Tryz.prog w base sp held 24 v d p) :
 ∃ (m n : Int) (ao : Option Addr) (len cap : Nat) (xs : List Int), v = .agg #[.int .i64 m, .int .i64 n, .slice ao len cap] /\ len = xs.length /\ len <= cap /\ aQ w (Rows.uptoBulk d) ao xs /\ xs.length + 1 <= Rows.uptoBulk d := by
 obtain ⟨v0, v1, v2, y0, y1, y2, n, rfl, rfl, rfl, h0, h1, h2⟩ := Joins.open_agg3 Tryz.underlying24 (by kernel_rfl) (by kernel_rfl) hv h;obtain ⟨m, e0, -, -⟩ := DataW.trod_int Tryz.underlying3 h0;obtain ⟨k, e1, -, -⟩ := DataW.trod_int Tryz.underlying3 h1;obtain ⟨ao, len, cap, xs, e2, hlen, hcap, hL, hbk⟩ := vZ h2;simp at e0 e1 e2;subst e0 e1 e2;have hle : Rows.uptoBulk y2.1 <= Rows.uptoBulk (.agg [y0.1, y1.1, y2.1]) := by rw [rL]; simp only [Rows.uptoBulkAll]; omega
 refine ⟨m, k, ao, len, cap, xs, rfl, hlen, hcap, fun hp => ?_, by omega⟩;obtain ⟨b, o, e, hlt, hc⟩ := hL hp;exact ⟨b, o, e, hlt, fun i hi => by obtain ⟨q, q0, q1, hq⟩ := hc i hi; exact ⟨q, q0, q1, hq.mono hle⟩⟩
theorem ud {r c : Int} {len : Nat} (h : ba r c len = true) : ∃ m n : Nat, r = (m : Int) /\ c = (n : Int) /\ m <= 64 /\ n <= 64 /\ len = m * n := by
 unfold ba bL at h;simp only [CO, decide_eq_true_eq, beq_iff_eq] at h;obtain ⟨⟨⟨h1, h2⟩, h3, h4⟩, h5⟩ := h;obtain ⟨m, rfl⟩ := Ef h1;obtain ⟨n, rfl⟩ := Ef h3;refine ⟨m, n, rfl, rfl, by omega, by omega, ?_⟩;rw [<- Dq] at h5;exact Int.ofNat.inj h5
theorem oJ {P : Program} (hl : laidOutB P = true) {W W' : World} {spf : Nat -> Bool} : ∀ {ts : List TypeId} {vs : List Value} {ds : List (DataW H)} {ps : List MemPlace}, (ts.all fun t => P.readableRec t && decide (t < P.types.size)) = true ->
 DataW.TrodAll enc P W 0 (fun _ => true) true ts vs ds ps -> (∀ x ∈ ps, W.sameAt W' x) -> (∀ x ∈ ps, spf x.block = true) -> DataW.TrodAll enc P W' 0 spf true ts vs ds ps := by
 intro ts;induction ts with
 | nil =>
  intro vs ds ps _ h _ _;cases vs <;> cases ds <;> exact h
 | cons t ts ih =>
  intro vs ds ps ha h hs hp;cases vs with
  | nil => exact h.elim
  | cons v vs =>
   cases ds with
   | nil => exact h.elim
   | cons d ds =>
    obtain ⟨p, q, h1, h2, rfl⟩ := h;simp only [List.all_cons, CO, decide_eq_true_eq] at ha;exact ⟨p, q, WideElems.Trod_stays hl ha.1.1 ha.1.2 h1 (fun x hx => hs x (DV _ hx)) (fun x hx => hp x (DV _ hx)),
     ih ha.2 h2 (fun x hx => hs x (DS _ hx)) (fun x hx => hp x (DS _ hx)), rfl⟩
theorem yA : laidOutB Tryz.prog = true := by kernel_rfl
theorem law_post {f : Func} {s : ChangeSpec} {W W' : World} {args : Array Value} {ds gs : List (DataW H)} {before : List MemPlace} (ha : (f.params.toList.all fun t => Tryz.prog.readableRec t && decide (t < Tryz.prog.types.size)) = true) (hv : s.vars = []) (hr : f.resultTypes = #[4])
 (hW : DataW.Whole enc Tryz.prog f.params.toList s.vars false W args.toList ds gs before) (h1 : (s.fn H (ds ++ gs)).results = [.lit (.bool true)]) (h2 : (s.fn H (ds ++ gs)).args = ds) (h3 : (s.fn H (ds ++ gs)).vars = []) (hb : Below W.heap.size W W') :
 s.post enc Tryz.prog f false true false false W args (.bool true) W' := by
 have hlt : ∀ p ∈ before, p.block < W.heap.size := fun p hp => hW.lt p hp;have hold : ∀ p ∈ before, (fun b => decide (b < W.heap.size)) p.block = true := fun p hp => by simpa using hlt p hp
 have hW' := hW;obtain ⟨p, q, hA, hV, rfl, hz, hn⟩ := hW;rw [hv] at hV;obtain ⟨rfl, rfl⟩ := trodVars_none hV;have hsame : ∀ x ∈ p, W.sameAt W' x := fun x hx => hb.same (hlt x (DV _ hx));have hargs : ∀ spf : Nat -> Bool, (∀ x ∈ p ++ [], spf x.block = true) -> DataW.TrodAll enc Tryz.prog W' 0 spf true f.params.toList args.toList (s.fn H (ds ++ [])).args p := fun spf hs => by
  rw [h2]; exact oJ yA ha hA hsame (fun x hx => hs x (DV _ hx))
 have hres : ∀ (b : Nat) (spf : Nat -> Bool) (hd : Bool), DataW.TrodAll enc Tryz.prog W' b spf hd f.resultTypes.toList ((Value.bool true).resultList f.resultTypes.size) (s.fn H (ds ++ [])).results [] := fun b spf hd => by
  rw [hr, h1]; exact trodAll_cons_mk (shut_bool Tryz.underlying4 _) trodAll_mk0
 have hvars : ∀ spf : Nat -> Bool, DataW.TrodVars enc Tryz.prog W' spf s.vars (s.fn H (ds ++ [])).vars [] := fun spf => by rw [hv, h3]; rfl
 refine ⟨ds, [], p ++ [], [], p, [], hW', hres _ _ _, hargs _ hold, hvars _, World.keptBut_mono (fun x hx => ⟨hx, Or.inr (by simpa using hx)⟩) (hb.frame (· ∈ p ++ [])), fun _ => ?_⟩;have hb1 : Value.okWide Tryz.prog W' .any 0 4 (.bool true) := okWide_bool_mk Tryz.underlying4 true;refine ⟨ok_one hr rfl hb1, _, _, ([] ++ p) ++ [], ⟨[] ++ p, [], trodAll_append (hargs _ (fun _ _ => rfl)) (hres _ _ _), hvars _, rfl, ?_, ?_⟩, ?_⟩
 . intro b off hp;have hin : MemPlace.cell b off ∈ p ++ [] := by simpa using hp
   rw [hb.frozen (hlt _ hin)];exact hz b off hin
 . intro h; cases h
 . intro x hx _;simpa using hx
end
theorem ua {H : Type} {l : List (DataW H)} (hk : Rows.uptoSmall H l = true) : Rows.uptoBulkAll l <= 1048576 := of_decide_eq_true hk
theorem wg {H : Type} {enc : TypeId × Value -> H} {w : World} {base : Nat} {sp : Nat -> Bool} {held : Bool} {r : Reach} {b0 : Nat} {m n : Int} {u : Value} {d : DataW H} {p : List MemPlace} (hv : Value.okWide Tryz.prog w r b0 24 (.agg #[.int .i64 m, .int .i64 n, u])) (h : DataW.Trod enc Tryz.prog w base sp held 24 (.agg #[.int .i64 m, .int .i64 n, u]) d p) :
 (-9223372036854775808 <= m /\ m <= 9223372036854775807) /\ (-9223372036854775808 <= n /\ n <= 9223372036854775807) := by
 obtain ⟨v0, v1, v2, y0, y1, y2, k, e, rfl, rfl, h0, h1, h2⟩ := Joins.open_agg3 Tryz.underlying24 (by kernel_rfl) (by kernel_rfl) hv h;obtain ⟨m', e0, -, q0⟩ := DataW.trod_int Tryz.underlying3 h0;obtain ⟨n', e1, -, q1⟩ := DataW.trod_int Tryz.underlying3 h1;simp at e0 e1 e;obtain ⟨rfl, rfl, rfl⟩ := e;injection e0 with _ e0
 injection e1 with _ e1
 subst e0 e1;simpa [Lit.wf, IntKind.min, IntKind.max, IntKind.signed, IntKind.bits] using Cv q0 q1
end Go.Proofs.YtjjlmfmoihooiaaGreat
namespace Go.Proofs.YtjjlmfmoihooiaaGreat
def sm : Nat -> (Nat -> Int) -> Int
 | 0, _ => 0
 | n + 1, f => sm n f + f n
theorem ak {n : Nat} {f g : Nat -> Int} (h : ∀ k, k < n -> f k = g k) : sm n f = sm n g := by
 induction n with
 | zero => rfl
 | succ n ih => unfold sm; rw [ih (fun k hk => h k Cp), h n Cp]
theorem bR {n : Nat} {f : Nat -> Int} (h : ∀ k, k < n -> f k = 0) : sm n f = 0 := by
 induction n with
 | zero => rfl
 | succ n ih => unfold sm; rw [ih (fun k hk => h k Cp), h n Cp]; rfl
theorem im (n : Nat) (f g : Nat -> Int) : sm n (fun k => f k + g k) = sm n f + sm n g := by
 induction n with
 | zero => rfl
 | succ n ih => simp only [sm, ih]; omega
theorem mf (n : Nat) (f g : Nat -> Int) : sm n (fun k => f k - g k) = sm n f - sm n g := by
 induction n with
 | zero => rfl
 | succ n ih => simp only [sm, ih]; omega
theorem bQ (n : Nat) (c : Int) (f : Nat -> Int) : sm n (fun k => c * f k) = c * sm n f := by
 induction n with
 | zero => simp [sm]
 | succ n ih => simp only [sm, ih, DB]
theorem ff (n : Nat) (c : Int) (f : Nat -> Int) : sm n (fun k => f k * c) = sm n f * c := by
 induction n with
 | zero => simp [sm]
 | succ n ih => simp only [sm, ih, DY]
theorem jN (n m : Nat) (f : Nat -> Nat -> Int) : sm n (fun i => sm m (fun j => f i j)) = sm m (fun j => sm n (fun i => f i j)) := by
 induction n with
 | zero => exact (bR (fun _ _ => rfl)).symm
 | succ n ih => simp only [sm, ih, im]
theorem eH {n : Nat} {f : Nat -> Int} (i : Nat) (hi : i < n) (h : ∀ k, k < n -> k ≠ i -> f k = 0) : sm n f = f i := by
 induction n with
 | zero => omega
 | succ n ih =>
  unfold sm;by_cases e : i = n
  . subst e; rw [bR (fun k hk => h k Cp Cp)]; omega
  . rw [ih Cp (fun k hk hne => h k Cp hne), h n Cp (fun e' => e e'.symm)]; omega
theorem na {n : Nat} {f : Nat -> Int} {B : Nat} (h : ∀ k, k < n -> (f k).natAbs <= B) : (sm n f).natAbs <= n * B := by
 induction n with
 | zero => simp [sm]
 | succ n ih =>
  unfold sm;have h1 := ih (fun k hk => h k Cp);have h2 := h n Cp;have h3 := Int.natAbs_add_le (sm n f) (f n);rw [Dz]; omega
theorem iH (n m : Nat) (f : Nat -> Int) : sm (n + m) f = sm n f + sm m (fun k => f (n + k)) := by
 induction m with
 | zero => simp [sm]
 | succ m ih => rw [<- Eh]; simp only [sm, ih]; omega
theorem qk : ∀ (n : Nat) (f : Nat -> Nat), (∀ i, i <= n -> f i < n) -> ∃ i j, i < j /\ j <= n /\ f i = f j
 | 0, f, h => by have := h 0 (Ct _); omega
 | n + 1, f, h => by
  by_cases hc : ∃ i, i <= n /\ f i = f (n + 1)
  . obtain ⟨i, hi, he⟩ := hc;exact ⟨i, n + 1, by omega, Ct _, he⟩
  . have hn : ∀ i, i <= n -> f i ≠ f (n + 1) := fun i hi he => hc ⟨i, hi, he⟩;obtain ⟨i, j, hij, hj, he⟩ := qk n (fun i => if f i = n then f (n + 1) else f i) (fun i hi => by
     have h1 := h i Cp;have h2 := h (n + 1) (Ct _);have h3 := hn i hi;split <;> omega)
    refine ⟨i, j, hij, by omega, ?_⟩;have h1 := hn i Cp;have h2 := hn j hj;split at he <;> split at he <;> omega
def jW (Q : Nat) (v : Nat -> Nat) : Nat -> Nat
 | 0 => 0
 | s + 1 => jW Q v s + v s * Q ^ s
theorem mX {Q : Nat} {v : Nat -> Nat} : ∀ {s : Nat}, (∀ j, j < s -> v j < Q) -> jW Q v s < Q ^ s
 | 0, _ => by simp [jW]
 | s + 1, h => by
  have h1 := mX (s := s) (fun j hj => h j Cp);have h2 := h s Cp;have h3 : (v s + 1) * Q ^ s <= Q * Q ^ s := Cy _ h2;rw [Dz] at h3;rw [Dd, CE];unfold jW; omega
theorem ti {Q : Nat} {u v : Nat -> Nat} : ∀ {s : Nat}, (∀ j, j < s -> u j < Q) -> (∀ j, j < s -> v j < Q) -> jW Q u s = jW Q v s -> ∀ j, j < s -> u j = v j
 | 0, _, _, _, j, hj => by omega
 | s + 1, hu, hv, he, j, hj => by
  have h1 := mX (s := s) (fun j hj => hu j Cp);have h2 := mX (s := s) (fun j hj => hv j Cp);have hp : 0 < Q ^ s := by omega
  unfold jW at he;have d1 : (jW Q u s + u s * Q ^ s) / Q ^ s = u s := by rw [E9 _ _ hp, D0 h1, Db]
  have d2 : (jW Q v s + v s * Q ^ s) / Q ^ s = v s := by rw [E9 _ _ hp, D0 h2, Db]
  have hs : u s = v s := by rw [<- d1, <- d2, he]
  by_cases e : j = s
  . subst e; exact hs
  . rw [hs] at he;exact ti (s := s) (fun j hj => hu j Cp) (fun j hj => hv j Cp) Cp j Cp
theorem ju (Q n : Nat) : ∀ s, jW Q (fun k => n / Q ^ k % Q) s = n % Q ^ s
 | 0 => by simp [jW, Nat.mod_one]
 | s + 1 => by
  unfold jW;rw [ju Q n s, Nat.mod_pow_succ, CE]
theorem Ci (r s M : Nat) (A : Nat -> Nat -> Int) (hs : s < r) (hA : ∀ k j, k < r -> j < s -> (A k j).natAbs <= M) :
 ∃ x : Nat -> Int, (∃ k, k < r /\ x k ≠ 0) /\ (∀ k, k < r -> (x k).natAbs <= (2 * r * M + 1) ^ s) /\ ∀ j, j < s -> sm r (fun k => x k * A k j) = 0 := by
 obtain ⟨T, hT⟩ := Cs ((2 * r * M + 1) ^ s);obtain ⟨V, hV⟩ := Cs (r * (T * M));have hTp : 0 < T := by rw [<- hT]; exact DF Cp
 have hy : ∀ n j, j < s -> (sm r (fun k => ((n / (T + 1) ^ k % (T + 1) : Nat) : Int) * A k j)).natAbs <= V := by
  intro n j hj;rw [<- hV];refine na (fun k hk => ?_);rw [CP, EU];have h1 : n / (T + 1) ^ k % (T + 1) < T + 1 := Dm _ Cp;exact Da Cp (hA k j hk hj)
 have hQ : (2 * V + 1) ^ s < (T + 1) ^ r := by
  have h1 : 2 * V + 1 <= (2 * r * M + 1) * (T + 1) := by
   have e1 : (2 * r * M + 1) * (T + 1) = 2 * r * M * T + 2 * r * M + T + 1 := by
    rw [CA, CY]; omega
   have e2 : 2 * r * M * T = 2 * V := by
    rw [<- hV]; simp only [CN, CE, Dy]
   omega
  have h2 : (2 * V + 1) ^ s <= T * (T + 1) ^ s := by
   rw [<- hT, <- Nat.mul_pow, hT]; exact Nat.pow_le_pow_left h1 s
  have h3 : T * (T + 1) ^ s < (T + 1) ^ (s + 1) := by
   rw [Dd, CE];exact DU Cp (DF Cp)
  have h4 : (T + 1) ^ (s + 1) <= (T + 1) ^ r := CU Cp hs;omega
 obtain ⟨i, j, hij, hj, he⟩ := qk ((2 * V + 1) ^ s) (fun n => jW (2 * V + 1) (fun q => (sm r (fun k => ((n / (T + 1) ^ k % (T + 1) : Nat) : Int) * A k q) + V).toNat % (2 * V + 1)) s) (fun i _ => mX (fun q _ => Dm _ Cp));have hq := ti (fun q _ => Dm _ Cp) (fun q _ => Dm _ Cp) he;refine ⟨fun k => ((j / (T + 1) ^ k % (T + 1) : Nat) : Int) - ((i / (T + 1) ^ k % (T + 1) : Nat) : Int), ?_, ?_, ?_⟩
 . by_cases hc : ∃ k, k < r /\ j / (T + 1) ^ k % (T + 1) ≠ i / (T + 1) ^ k % (T + 1)
   . obtain ⟨k, hk, hne⟩ := hc;refine ⟨k, hk, ?_⟩
     revert hne
     dsimp only;generalize j / (T + 1) ^ k % (T + 1) = a;generalize i / (T + 1) ^ k % (T + 1) = b;omega
   . exfalso;have hall : ∀ k, k < r -> j / (T + 1) ^ k % (T + 1) = i / (T + 1) ^ k % (T + 1) := fun k hk => DG fun h => hc ⟨k, hk, h⟩;have e1 := ju (T + 1) i r;have e2 := ju (T + 1) j r;have e3 : ∀ s', s' <= r -> jW (T + 1) (fun k => j / (T + 1) ^ k % (T + 1)) s' = jW (T + 1) (fun k => i / (T + 1) ^ k % (T + 1)) s' := by
      intro s' hs';induction s' with
      | zero => rfl
      | succ q ih => simp only [jW]; rw [ih Cp, hall q Cp]
     have e4 := e3 r (Ct _);rw [e1, e2, Dk Cp, Dk Cp] at e4;omega
 . intro k hk;have h1 : j / (T + 1) ^ k % (T + 1) < T + 1 := Dm _ Cp;have h2 : i / (T + 1) ^ k % (T + 1) < T + 1 := Dm _ Cp;rw [hT]
   revert h1 h2
   dsimp only;generalize j / (T + 1) ^ k % (T + 1) = a;generalize i / (T + 1) ^ k % (T + 1) = b;omega
 . intro q hq';have h1 := hq q hq';have h2 := hy i q hq';have h3 := hy j q hq';have h4 : sm r (fun k => (((j / (T + 1) ^ k % (T + 1) : Nat) : Int) - ((i / (T + 1) ^ k % (T + 1) : Nat) : Int)) * A k q) = sm r (fun k => ((j / (T + 1) ^ k % (T + 1) : Nat) : Int) * A k q) - sm r (fun k => ((i / (T + 1) ^ k % (T + 1) : Nat) : Int) * A k q) := by
    rw [<- mf]; exact ak (fun k _ => Fj ..)
   dsimp only at h1 |-;rw [h4];generalize sm r (fun k => ((j / (T + 1) ^ k % (T + 1) : Nat) : Int) * A k q) = a at *;generalize sm r (fun k => ((i / (T + 1) ^ k % (T + 1) : Nat) : Int) * A k q) = b at *;rw [Dk Cp, Dk Cp] at h1;omega
end Go.Proofs.YtjjlmfmoihooiaaGreat
