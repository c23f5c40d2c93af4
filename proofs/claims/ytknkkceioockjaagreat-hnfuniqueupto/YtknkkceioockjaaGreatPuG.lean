/- Part 7 of 7 of the proof that the law HnfUnique returns true for every input of bulk at most 1048576 and leaves its arguments as they were: the law itself. -/
import Derived.Maps.AppendAt
import Derived.Deep.Onto
import Derived.Test.YtknkkceioockjaaGreatPuF
set_option linter.all false
namespace Go.Proofs.YtknkkceioockjaaGreat
open Go.RowKit
theorem NumAt.least {w : World} {v : Value} {x : Int} (h : NumAt w v x) : ∃ ao cap, v = .agg #[.bool (decide (x < 0)), .slice ao (wlen x.natAbs) cap] /\ WAt w ao (dig x.natAbs) /\ wlen x.natAbs <= cap := by
 obtain ⟨⟨n, ao, len, cap, ws, rfl, hW, hl, hL, hc, hx⟩, s, hs⟩ := h
 have hn : n = decide (x < 0) := by injection hs with hs; simp at hs; exact hs.1
 have hv : nval ws = x.natAbs := by rw [hx, zi_abs]
 have h1 := wlen_nval hW.1
 rw [hv] at h1
 have h2 := tlen_le ws
 have h3 := dig_nval hW.1
 rw [hv, List.take_of_length_le (by omega)] at h3
 have h4 : len = wlen x.natAbs := by omega
 subst hn
 rw [h3]
 exact ⟨ao, cap, by rw [h4], hW, by omega⟩
set_option maxRecDepth 100000 in
set_option maxHeartbeats 2000000 in
theorem RSame_c (aoA aoB : Option Addr) (lA cA lB cB : Nat) (xs ys : List Nat) (w : World) (hA : WAt w aoA xs) (hB : WAt w aoB ys) (hlA : lA = xs.length) (hlB : lB = ys.length) (hmA : lA <= 17592186044415) (hmB : lB <= 17592186044415) :
 Calls Tryz.prog 122 #[.slice aoA lA cA, .slice aoB lB cB] w fun e w' => e = .returned (.bool (decide (xs = ys))) /\ Below w.heap.size w w' := by
 subst hlA hlB
 have HA := Lib.hid hA; clear hA
 have HB := Lib.hid hB; clear hB
 go_enter Tryz.func122, Tryz.ntmps122
 by_cases hs : xs.length = ys.length
 · have hb : (((xs.length : Nat) : Int) != ((ys.length : Nat) : Int)) = false := by rw [hs]; simp
   have Hs := Lib.hid hs; clear hs
   go_wp2
   go_loopw [5] (fun i wr => ∃ k : Nat, k <= xs.length /\ i = .int .i64 (k : Int) /\ Hid (∀ j, j < k -> gw xs j = gw ys j) /\ Below w.heap.size w wr) (fun i _ => xs.length - (intOf i).toNat)
   case atStart => exact ⟨0, Nat.zero_le _, rfl, Lib.hid (fun j hj => by omega), Below.refl _ _⟩
   case round =>
    obtain ⟨k, hk, rfl, hag, hbl⟩ := hrel
    by_cases h0 : k < xs.length
    · have h01 : (k : Int) < (xs.length : Int) := by omega
      have h02 : (k : Int) < (ys.length : Int) := by have := Hs.out; omega
      obtain ⟨b1, o1, rfl, hb1, hc1⟩ := (HA.out.below hbl).pos (by omega)
      obtain ⟨b2, o2, rfl, hb2, hc2⟩ := (HB.out.below hbl).pos (by omega)
      have e1 := hc1 k h0
      have e2 := hc2 k (by omega)
      clear hc1 hc2
      by_cases hne : gw xs k = gw ys k
      · have t1 : (((gw xs k : Nat) : Int) != ((gw ys k : Nat) : Int)) = false := by rw [hne]; simp
        have HN := Lib.hid hne; clear hne
        go_wp2
        go_quiet (fail)
        go_wp2
        go_roundw
        case rel => exact ⟨k + 1, by omega, by go_num, Lib.hid (fun j hj => by
         by_cases e : j = k
         · subst e; exact HN.out
         · exact hag.out j (by omega)), below_drewN hbl _⟩
        case measure => simp [intOf]; omega
      · have t1 : (((gw xs k : Nat) : Int) != ((gw ys k : Nat) : Int)) = true := by rw [bne_iff_ne]; omega
        have hd : decide (xs = ys) = false := by
         rw [decide_eq_false_iff_not]; intro e; exact hne (by rw [e])
        have HD := Lib.hid hd; clear hd hne
        go_wp2
        go_quiet (fail)
        go_wp2
        go_ret
        exact ⟨by rw [HD.out]; rfl, below_drewN hbl _⟩
    · obtain rfl : k = xs.length := by omega
      have hd : decide (xs = ys) = true := by
       rw [decide_eq_true_iff]
       refine List.ext_getElem Hs.out fun j h1 h2 => ?_
       have := hag.out j h1
       unfold gw at this
       simpa [h1, h2] using this
      have HD := Lib.hid hd; clear hd
      go_wp2
      go_ret
      exact ⟨by rw [HD.out]; rfl, hbl⟩
 · have hb : (((xs.length : Nat) : Int) != ((ys.length : Nat) : Int)) = true := by rw [bne_iff_ne]; omega
   have hd : decide (xs = ys) = false := by
    rw [decide_eq_false_iff_not]; intro e; exact hs (by rw [e])
   have HD := Lib.hid hd; clear hd hs
   go_wp2
   go_ret
   exact ⟨by rw [HD.out]; rfl, Below.refl _ _⟩
theorem alike_bool (x y : Int) : (decide (dig x.natAbs = dig y.natAbs) && (decide (x < 0) == decide (y < 0))) = decide (x = y) := by
 have h1 : dig x.natAbs = dig y.natAbs ↔ x.natAbs = y.natAbs := ⟨fun h => by rw [<- nval_dig x.natAbs, h, nval_dig], fun h => by rw [h]⟩
 rw [Bool.eq_iff_iff]
 simp only [Bool.and_eq_true, decide_eq_true_eq, beq_iff_eq, h1, decide_eq_decide]
 omega
set_option maxRecDepth 100000 in
set_option maxHeartbeats 2000000 in
theorem Alike_c (v u : Value) (x y : Int) (w : World) (h1 : NumAt w v x) (h2 : NumAt w u y) (hx : wlen x.natAbs <= 17592186044415) (hy : wlen y.natAbs <= 17592186044415) :
 Calls Tryz.prog 75 #[v, u] w fun e w' => e = .returned (.bool (decide (x = y))) /\ Below w.heap.size w w' := by
 obtain ⟨ao1, cap1, rfl, hW1, _⟩ := h1.least
 obtain ⟨ao2, cap2, rfl, hW2, _⟩ := h2.least
 clear h1 h2
 have hAL := alike_bool x y
 obtain ⟨r1, r2, hb⟩ := two_new w #[.bool (decide (x < 0)), .slice ao1 (wlen x.natAbs) cap1] #[.bool (decide (y < 0)), .slice ao2 (wlen y.natAbs) cap2] 45 45
 have HM := Lib.hid (RSame_c ao1 ao2 (wlen x.natAbs) cap1 (wlen y.natAbs) cap2 _ _ _ (hW1.below hb) (hW2.below hb) rfl rfl hx hy)
 obtain ⟨n1, hn1⟩ : ∃ n1, decide (x < 0) = n1 := ⟨_, rfl⟩
 obtain ⟨n2, hn2⟩ : ∃ n2, decide (y < 0) = n2 := ⟨_, rfl⟩
 obtain ⟨m, hm⟩ : ∃ m, decide (dig x.natAbs = dig y.natAbs) = m := ⟨_, rfl⟩
 obtain ⟨l1, hl1⟩ : ∃ l1, wlen x.natAbs = l1 := ⟨_, rfl⟩
 obtain ⟨l2, hl2⟩ : ∃ l2, wlen y.natAbs = l2 := ⟨_, rfl⟩
 simp only [hn1, hn2, hl1, hl2, hm] at r1 r2 hb HM
 rw [hn1, hn2, hm] at hAL
 rw [hn1, hn2, hl1, hl2]
 have HAL := Lib.hid hAL; clear hAL hn1 hn2 hm hl1 hl2 hW1 hW2 hx hy
 have R1 := Lib.hid r1
 have R2 := Lib.hid r2
 have e10 := r1.cell 0
 have e11 := r1.cell 1
 have e20 := r2.cell 0
 have e21 := r2.cell 1
 have HB := Lib.hid hb; clear hb r1 r2
 go_enter Tryz.func75, Tryz.ntmps75
 go_wp2_with fail
 generalize (w.alloc (.cells #[.bool n1, .slice ao1 l1 cap1] 45)).alloc (.cells #[.bool n2, .slice ao2 l2 cap2] 45) = w2 at *
 refine HM.out.mono ?_
 rintro e w3 ⟨rfl, hb3⟩
 have k10 := (R1.out.below hb3 R1.out.lt).cell 0
 have k20 := (R2.out.below hb3 R2.out.lt).cell 0
 have HB3 := Lib.hid (HB.out.trans (hb3.mono HB.out.size)); clear hb3 e10 e11 e20 e21
 cases m
 · go_wp2
   go_ret
   exact ⟨by rw [<- HAL.out]; rfl, HB3.out⟩
 · cases n1 <;> cases n2
   all_goals
    go_wp2
    go_ret
    exact ⟨by rw [<- HAL.out]; rfl, HB3.out⟩
def LsN (w : World) (ao : Option Addr) (xs : List Int) : Prop :=
 0 < xs.length -> ∃ b o, ao = some ⟨b, o, none⟩ /\ b < w.heap.size /\ ∀ i (h : i < xs.length), ∃ p : P4, w.cell? ⟨b, o + i * 2, none⟩ = some (.bool p.1) /\ w.cell? ⟨b, o + i * 2 + 1, none⟩ = some (.slice p.2.1 p.2.2.1 p.2.2.2) /\ NumAt w (av p) xs[i]
theorem LsN.below {w w' : World} {ao : Option Addr} {xs : List Int} (h : LsN w ao xs) (hb : Below w.heap.size w w') : LsN w' ao xs := by
 intro hl
 obtain ⟨b, o, e, hlt, hc⟩ := h hl
 refine ⟨b, o, e, Nat.lt_of_lt_of_le hlt hb.size, fun i hi => ?_⟩
 obtain ⟨p, h0, h1, hn⟩ := hc i hi
 exact ⟨p, (hb.cell (p := ⟨b, o + i * 2, none⟩) hlt).trans h0, (hb.cell (p := ⟨b, o + i * 2 + 1, none⟩) hlt).trans h1, hn.below hb⟩
theorem RowN.lsN {w : World} {b : Nat} {xs : List Int} (h : RowN w b xs) : LsN w (some ⟨b, 0, none⟩) xs := by
 intro _
 refine ⟨b, 0, rfl, h.lt, fun i hi => ?_⟩
 obtain ⟨p, h0, h1, hn⟩ := h.get hi
 exact ⟨p, by simpa using h0, by simpa using h1, hn⟩
set_option maxRecDepth 100000 in
set_option maxHeartbeats 4000000 in
theorem AlikeRows_c (aoA aoB : Option Addr) (lA cA lB cB : Nat) (xs ys : List Int) (w : World) (hA : LsN w aoA xs) (hB : LsN w aoB ys) (hlA : lA = xs.length) (hlB : lB = ys.length) (hmA : lA <= 8796093022208) (hmB : lB <= 8796093022208)
 (hx : ∀ x ∈ xs, wlen x.natAbs <= 17592186044415) (hy : ∀ x ∈ ys, wlen x.natAbs <= 17592186044415) :
 Calls Tryz.prog 35 #[.slice aoA lA cA, .slice aoB lB cB] w fun e w' => e = .returned (.bool (decide (xs = ys))) /\ Below w.heap.size w w' := by
 subst hlA hlB
 have HA := Lib.hid hA; clear hA
 have HB := Lib.hid hB; clear hB
 have HX := Lib.hid (And.intro hx hy); clear hx hy
 go_enter Tryz.func35, Tryz.ntmps35
 by_cases hs : xs.length = ys.length
 · have hb : (((xs.length : Nat) : Int) != ((ys.length : Nat) : Int)) = false := by rw [hs]; simp
   have Hs := Lib.hid hs; clear hs
   go_wp2
   go_loopw [5] (fun i wr => ∃ k : Nat, k <= xs.length /\ i = .int .i64 (k : Int) /\ Hid (∀ j (h1 : j < xs.length) (h2 : j < ys.length), j < k -> xs[j] = ys[j]) /\ Hid (Below w.heap.size w wr)) (fun i _ => xs.length - (intOf i).toNat)
   case atStart => exact ⟨0, Nat.zero_le _, rfl, Lib.hid (fun j _ _ hj => by omega), Lib.hid (Below.refl _ _)⟩
   case round =>
    obtain ⟨k, hk, rfl, hag, hbl⟩ := hrel
    by_cases h0 : k < xs.length
    · have h0y : k < ys.length := by have := Hs.out; omega
      have h01 : (k : Int) < (xs.length : Int) := by omega
      have h02 : (k : Int) < (ys.length : Int) := by omega
      obtain ⟨b1, o1, rfl, hb1, hc1⟩ := (HA.out.below hbl.out) (by omega)
      obtain ⟨b2, o2, rfl, hb2, hc2⟩ := (HB.out.below hbl.out) (by omega)
      obtain ⟨p, e10, e11, hn1⟩ := hc1 k h0
      obtain ⟨q, e20, e21, hn2⟩ := hc2 k h0y
      have HM : Hid (∀ m, Calls Tryz.prog 75 #[.agg #[.bool p.1, .slice p.2.1 p.2.2.1 p.2.2.2], .agg #[.bool q.1, .slice q.2.1 q.2.2.1 q.2.2.2]] (wr.drewN m) fun e w' => e = .returned (.bool (decide (xs[k] = ys[k]))) /\ Below (wr.drewN m).heap.size (wr.drewN m) w') :=
       Lib.hid (fun m => Alike_c _ _ _ _ _ (NumAt.below (w := wr) hn1 (below_drewN (Below.refl _ _) m)) (NumAt.below (w := wr) hn2 (below_drewN (Below.refl _ _) m)) (HX.out.1 _ (List.getElem_mem h0)) (HX.out.2 _ (List.getElem_mem h0y)))
      have HM1 : Hid (Calls Tryz.prog 75 #[.agg #[.bool p.1, .slice p.2.1 p.2.2.1 p.2.2.2], .agg #[.bool q.1, .slice q.2.1 q.2.2.1 q.2.2.2]] wr.drew fun e w' => e = .returned (.bool (decide (xs[k] = ys[k]))) /\ Below wr.drew.heap.size wr.drew w') := Lib.hid (HM.out 1)
      obtain ⟨t, ht⟩ : ∃ t, decide (xs[k] = ys[k]) = t := ⟨_, rfl⟩
      rw [ht] at HM1
      have HT := Lib.hid ht
      clear hc1 hc2 hn1 hn2 HM ht
      go_wp2
      go_region_held3 (fun w' => w'.cell? ⟨b1, o1 + k * 2, none⟩ = some (.bool p.1) /\ w'.cell? ⟨b1, o1 + k * 2 + 1, none⟩ = some (.slice p.2.1 p.2.2.1 p.2.2.2) /\ w'.cell? ⟨b2, o2 + k * 2, none⟩ = some (.bool q.1) /\ w'.cell? ⟨b2, o2 + k * 2 + 1, none⟩ = some (.slice q.2.1 q.2.2.1 q.2.2.2))
       (first | exact ⟨e10, e11, e20, e21⟩ | exact ⟨(hb3.cell (p := ⟨b1, o1 + k * 2, none⟩) hb1).trans e10, (hb3.cell (p := ⟨b1, o1 + k * 2 + 1, none⟩) hb1).trans e11, (hb3.cell (p := ⟨b2, o2 + k * 2, none⟩) hb2).trans e20, (hb3.cell (p := ⟨b2, o2 + k * 2 + 1, none⟩) hb2).trans e21⟩)
       (first | (go_at_call 75; refine HM1.out.mono ?_; rintro e w3 ⟨rfl, hb3⟩))
      have HB3 : Hid (Below w.heap.size w w3) := Lib.hid (hbl.out.drew.trans (hb3.mono hbl.out.size))
      cases t
      · have hd : decide (xs = ys) = false := by
         rw [decide_eq_false_iff_not]; intro e; have h9 := HT.out; rw [decide_eq_false_iff_not] at h9; exact h9 (by subst e; rfl)
        have HD := Lib.hid hd; clear hd e10 e11 e20 e21 hb3
        go_wp2
        go_ret
        exact ⟨by rw [HD.out]; rfl, HB3.out⟩
      · clear e10 e11 e20 e21 hb3
        go_wp2
        go_roundw
        case rel => exact ⟨k + 1, by omega, by go_num, Lib.hid (fun j h1 h2 hj => by
         by_cases e : j = k
         · subst e; exact of_decide_eq_true HT.out
         · exact hag.out j h1 h2 (by omega)), HB3⟩
        case measure => simp [intOf]; omega
    · obtain rfl : k = xs.length := by omega
      have hd : decide (xs = ys) = true := by
       rw [decide_eq_true_iff]
       exact List.ext_getElem Hs.out fun j h1 h2 => hag.out j h1 h2 h1
      have HD := Lib.hid hd; clear hd
      go_wp2
      go_ret
      exact ⟨by rw [HD.out]; rfl, hbl.out⟩
 · have hb : (((xs.length : Nat) : Int) != ((ys.length : Nat) : Int)) = true := by rw [bne_iff_ne]; omega
   have hd : decide (xs = ys) = false := by
    rw [decide_eq_false_iff_not]; intro e; exact hs (by rw [e])
   have HD := Lib.hid hd; clear hd hs
   go_wp2
   go_ret
   exact ⟨by rw [HD.out]; rfl, Below.refl _ _⟩
set_option maxHeartbeats 1000000 in
theorem M9Out_c (n : Nat) (w : World) (hn : n <= 64) :
 Calls Tryz.prog 93 #[.int .i64 (n : Int)] w fun e w' => e = .returned (.bool false) /\ w' = w := by
 go_enter Tryz.func93, Tryz.ntmps93
 have h1 : decide ((n : Int) < 0) = false := by simp
 have h2 : decide (64 < (n : Int)) = false := by simp; omega
 go_wp2
 go_ret
 exact ⟨rfl, rfl⟩
set_option maxRecDepth 100000 in
set_option maxHeartbeats 2000000 in
theorem M9Blank_c (r c : Nat) (w : World) (hr : r <= 64) (hc : c <= 64) :
 Calls Tryz.prog 67 #[.int .i64 (r : Int), .int .i64 (c : Int)] w fun e w' => (∃ b, e = .returned (.agg #[.int .i64 (r : Int), .int .i64 (c : Int), .slice (some ⟨b, 0, none⟩) (r * c) (r * c)]) /\ w.heap.size <= b /\ RowN w' b (List.replicate (r * c) 0)) /\ Below w.heap.size w w' := by
 have hnc : r * c <= 4096 := Nat.mul_le_mul hr hc
 have hw1 : wrap64 ((r : Int) * (c : Int)) = ((r * c : Nat) : Int) := by
  rw [<- Int.natCast_mul]; unfold wrap64; omega
 obtain ⟨N, hN⟩ : ∃ N, r * c = N := ⟨_, rfl⟩
 rw [hN] at hw1 hnc ⊢
 clear hN
 have h0 := RowAt.new w #[.int .i64 0, .int .i64 0, .slice none 0 0] 24
 have hb0 : Below w.heap.size w (w.alloc (.cells #[.int .i64 0, .int .i64 0, .slice none 0 0] 24)) := (Below.refl _ _).alloc (Nat.le_refl _) _
 have hs0 : (w.alloc (.cells #[.int .i64 0, .int .i64 0, .slice none 0 0] 24)).heap.size = w.heap.size + 1 := by simp
 have H0 := Lib.hid h0; clear h0
 have HB0 := Lib.hid hb0; clear hb0
 go_enter Tryz.func67, Tryz.ntmps67
 go_wp2_with (at_make; refine mk_nums rfl _ _ rfl N N rfl rfl (by omega) (by omega) (Nat.le_refl _) (by omega) ?_; intro b w1 hm1; have hbb : w.heap.size < b := (by have := hm1.at_; omega); have hr1 := H0.out.below hm1.below H0.out.lt; have HR := Lib.hid (RowN.zeros hm1.row); have HB := Lib.hid (HB0.out.trans (hm1.below.mono HB0.out.size)); have z0 := hr1.cell 0; have z1 := hr1.cell 1; have z2 := hr1.cell 2; have y0 := hr1.free 0; have y1 := hr1.free 1; have y2 := hr1.free 2; have HR1 := Lib.hid hr1; clear hm1 hr1)
 refine bodyPost_ret (results_mat (p := 4) (by kernel_rfl) _ _ w.heap.size _ _ _ rfl (HR1.out.set3 (.int .i64 (r : Int)) (.int .i64 (c : Int)) (.slice (some ⟨b, 0, none⟩) N N))) rfl ?_
 exact ⟨⟨b, rfl, by omega, HR.out.setMat HR1.out (r : Int) (c : Int) _ _ _⟩, ((HB.out.setCell (p := ⟨w.heap.size, 0, none⟩) (Nat.le_refl _) _).setCell (p := ⟨w.heap.size, 1, none⟩) (Nat.le_refl _) _).setCell (p := ⟨w.heap.size, 2, none⟩) (Nat.le_refl _) _⟩
structure Mk9 (w : World) (b m r c N i : Nat) (xs cu : List Int) (W : World) : Prop where
 len : cu.length = xs.length
 done : ∀ j (h : j < cu.length) (h1 : j < xs.length), j < i -> cu[j] = xs[j]
 box : RowAt W m 24 [.int .i64 (r : Int), .int .i64 (c : Int), .slice (some ⟨b, 0, none⟩) N N]
 row : RowN W b cu
 res : RowAt W w.heap.size 24 [.int .i64 0, .int .i64 0, .slice none 0 0]
 bel : Below w.heap.size w W
theorem Mk9.put {w : World} {b m r c N i : Nat} {xs cu : List Int} {W : World} (h : Mk9 w b m r c N i xs cu W) (hb : w.heap.size < b /\ b < m) (hi : i < xs.length) {p : P4} (hx : NumAt W (av p) xs[i]) :
 Mk9 w b m r c N (i + 1) xs (cu.set i xs[i]) ((W.setCell ⟨b, i * 2, none⟩ (.bool p.1)).setCell ⟨b, i * 2 + 1, none⟩ (.slice p.2.1 p.2.2.1 p.2.2.2)) := by
 refine ⟨by rw [List.length_set]; exact h.len, fun j h1 h2 h3 => ?_, (h.box.other (p := ⟨b, i * 2, none⟩) (by show m ≠ b; omega) _).other (p := ⟨b, i * 2 + 1, none⟩) (by show m ≠ b; omega) _, h.row.set i hx, (h.res.other (p := ⟨b, i * 2, none⟩) (by show w.heap.size ≠ b; omega) _).other (p := ⟨b, i * 2 + 1, none⟩) (by show w.heap.size ≠ b; omega) _, (h.bel.setCell (p := ⟨b, i * 2, none⟩) (Nat.le_of_lt hb.1) _).setCell (p := ⟨b, i * 2 + 1, none⟩) (Nat.le_of_lt hb.1) _⟩
 rw [List.getElem_set]
 split
 · rename_i e; subst e; rfl
 · exact h.done j (by simpa using h1) h2 (by omega)
set_option maxRecDepth 100000 in
set_option maxHeartbeats 4000000 in
theorem M9Make_c (r c : Nat) (ao : Option Addr) (len cap L : Nat) (xs : List Int) (w : World) (hr : r <= 64) (hc : c <= 64) (h : LsAt w L ao xs) (hL : L <= 8796093022208) (hl : len = xs.length) (hs : xs.length = r * c) :
 Calls Tryz.prog 50 #[.int .i64 (r : Int), .int .i64 (c : Int), .slice ao len cap] w fun e w' => (∃ b, e = .returned (.tuple #[.agg #[.int .i64 (r : Int), .int .i64 (c : Int), .slice (some ⟨b, 0, none⟩) (r * c) (r * c)], .int .i64 0]) /\ w.heap.size <= b /\ RowN w' b xs) /\ Below w.heap.size w w' := by
 have hlen : len = r * c := hl.trans hs
 have hnc : r * c <= 4096 := Nat.mul_le_mul hr hc
 have hw1 : wrap64 ((r : Int) * (c : Int)) = ((r * c : Nat) : Int) := by
  rw [<- Int.natCast_mul]; unfold wrap64; omega
 have h0 := RowAt.new w #[.int .i64 0, .int .i64 0, .slice none 0 0] 24
 have hb0 : Below w.heap.size w (w.alloc (.cells #[.int .i64 0, .int .i64 0, .slice none 0 0] 24)) := (Below.refl _ _).alloc (Nat.le_refl _) _
 have HO1 := Lib.hid (M9Out_c r (w.alloc (.cells #[.int .i64 0, .int .i64 0, .slice none 0 0] 24)) hr)
 have HO2 := Lib.hid (M9Out_c c (w.alloc (.cells #[.int .i64 0, .int .i64 0, .slice none 0 0] 24)) hc)
 have HBL := Lib.hid (M9Blank_c r c (w.alloc (.cells #[.int .i64 0, .int .i64 0, .slice none 0 0] 24)) hr hc)
 have hxl : xs.length = r * c := hs
 subst hlen
 obtain ⟨N, hN⟩ : ∃ N, r * c = N := ⟨_, rfl⟩
 rw [hN] at hw1 hnc HBL hxl ⊢
 have H0 := Lib.hid h0; clear h0
 have HB0 := Lib.hid hb0; clear hb0
 have HLS := Lib.hid h; clear h
 have HXL := Lib.hid hxl; clear hxl hN hs hl
 have hne : ((N : Int) != (N : Int)) = false := by simp
 go_enter Tryz.func50, Tryz.ntmps50
 go_wp2_with fail
 generalize w.alloc (.cells #[.int .i64 0, .int .i64 0, .slice none 0 0] 24) = w1 at *
 refine HO1.out.mono ?_
 rintro e w' ⟨rfl, rfl⟩
 go_wp2_with fail
 refine HO2.out.mono ?_
 rintro e w' ⟨rfl, rfl⟩
 go_wp2_with fail
 refine HBL.out.mono ?_
 rintro e w3 ⟨⟨b, rfl, hbb, hR3⟩, hb3⟩
 have hb4 : Below w3.heap.size w3 (w3.alloc (.cells #[.int .i64 (r : Int), .int .i64 (c : Int), .slice (some ⟨b, 0, none⟩) N N] 24)) := (Below.refl _ _).alloc (Nat.le_refl _) _
 have hw1' : w.heap.size < w'.heap.size := H0.out.lt
 have hs3 := hb3.size
 have hb3' : b < w3.heap.size := hR3.lt
 have hI : Mk9 w b w3.heap.size r c N 0 xs (List.replicate N 0) (w3.alloc (.cells #[.int .i64 (r : Int), .int .i64 (c : Int), .slice (some ⟨b, 0, none⟩) N N] 24)) :=
  ⟨by simp [HXL.out], fun j _ _ h => by omega, RowAt.new _ _ _, hR3.below hb4, (H0.out.below hb3 H0.out.lt).alloc _, (HB0.out.trans (hb3.mono HB0.out.size)).trans (hb4.mono (by omega))⟩
 have HI := Lib.hid hI
 obtain ⟨m, hm⟩ : ∃ m, w3.heap.size = m := ⟨_, rfl⟩
 clear hI hb4 hb3 hR3 HBL HO1 HO2
 go_wp2
 generalize w3.alloc (.cells #[.int .i64 (r : Int), .int .i64 (c : Int), .slice (some ⟨b, 0, none⟩) N N] 24) = w4 at *
 rw [hm] at HI hs3 hb3'
 clear hm
 go_loopw [9] (fun i_ wr => ∃ (i : Nat) (cu : List Int), i <= N /\ i_ = .int .i64 (i : Int) /\ Hid (Mk9 w b m r c N i xs cu wr)) (fun i_ _ => N - (intOf i_).toNat)
 case atStart => exact ⟨0, _, Nat.zero_le _, rfl, HI⟩
 case round =>
  obtain ⟨i, cu, hi, rfl, hI⟩ := hrel
  by_cases hin : i < N
  · have hin1 : (i : Int) < (N : Int) := by omega
    have hix : i < xs.length := by rw [HXL.out]; exact hin
    obtain ⟨ab, aoff, rfl, hab, hcells⟩ := (HLS.out.below hI.out.bel) (by omega)
    obtain ⟨px, cx0, cx1, hnx⟩ := hcells i hix
    have hab0 : ab < w.heap.size := by
     obtain ⟨b', o', e', hlt', _⟩ := HLS.out (by omega)
     simp only [Option.some.injEq, Addr.mk.injEq, and_true] at e'
     omega
    have Hnx := Lib.hid hnx; clear hnx hcells
    have c2 := hI.out.box.cell 2
    simp only [List.getElem?_cons_zero, List.getElem?_cons_succ] at c2
    have hmb : m < wr.heap.size := hI.out.box.lt
    have hbb9 : w.heap.size < b /\ b < m := by omega
    go_wp2
    go_region_law (first
     | (go_simp; go_at_call 90; refine (RLeast_c (av px) xs[i] L _ (IntAt.below (w := wr) Hnx.out (Below.refl _ _).drew) hL).mono ?_; rintro e w6 ⟨⟨vz, rfl, hvz⟩, hb6⟩; obtain ⟨pz, rfl⟩ := NumAt.parts hvz.num; have HZ6 := Lib.hid hvz.num; unfold av at *; have hI6 : Mk9 w b m r c N i xs cu w6 := ⟨hI.out.len, hI.out.done, RowAt.below (w := wr.drew) hI.out.box hb6 hI.out.box.lt, RowN.below (w := wr.drew) hI.out.row hb6, RowAt.below (w := wr.drew) hI.out.res hb6 hI.out.res.lt, hI.out.bel.drew.trans (hb6.mono hI.out.bel.size)⟩; have HI6 := Lib.hid hI6; obtain ⟨pq, q0, q1, hq9⟩ := hI6.row.get (i := i) (by rw [hI6.len]; exact hix); clear hq9; have q2 := hI6.row.free (i * 2); have q3 := hI6.row.free (i * 2 + 1); have k2 := HI6.out.box.cell 2; simp only [List.getElem?_cons_zero, List.getElem?_cons_succ] at k2; clear hI6 hb6 hvz))
    all_goals go_wp2
    all_goals refine ⟨⟨i + 1, cu.set i xs[i], by omega, by go_num, Lib.hid ?_⟩, ?_⟩
    all_goals first
     | (simp [intOf] <;> omega)
     | exact HI6.out.put hbb9 hix HZ6.out
  · obtain rfl : i = N := by omega
    have hcu : cu = xs := List.ext_getElem hI.out.len fun j h1 h2 => hI.out.done j h1 h2 (by have := HXL.out; omega)
    subst hcu
    have hI' := hI.out
    have c0 := hI'.box.cell 0
    have c1 := hI'.box.cell 1
    have c2 := hI'.box.cell 2
    have d0 := hI'.res.cell 0
    have d1 := hI'.res.cell 1
    have d2 := hI'.res.cell 2
    have f0 := hI'.res.free 0
    have f1 := hI'.res.free 1
    have f2 := hI'.res.free 2
    simp only [List.getElem?_cons_zero, List.getElem?_cons_succ] at c0 c1 c2 d0 d1 d2
    clear hI'
    go_wp2
    refine bodyPost_ret (results_mat_err (p := 6) (q := 7) (by kernel_rfl) _ _ w.heap.size _ _ _ rfl (hI.out.res.set3 (.int .i64 (r : Int)) (.int .i64 (c : Int)) (.slice (some ⟨b, 0, none⟩) i i))) rfl ?_
    exact ⟨⟨b, rfl, by omega, hI.out.row.setMat hI.out.res (r : Int) (c : Int) _ _ _⟩, ((hI.out.bel.setCell (p := ⟨w.heap.size, 0, none⟩) (Nat.le_refl _) _).setCell (p := ⟨w.heap.size, 1, none⟩) (Nat.le_refl _) _).setCell (p := ⟨w.heap.size, 2, none⟩) (Nat.le_refl _) _⟩
set_option maxRecDepth 100000 in
set_option maxHeartbeats 4000000 in
theorem Sound_c (r c : Int) (ao : Option Addr) (len cap : Nat) (w : World) :
 Calls Tryz.prog 11 #[.agg #[.int .i64 r, .int .i64 c, .slice ao len cap]] w fun e w' => e = .returned (.bool (soundM r c len)) /\ Below w.heap.size w w' := by
 have hb : Below w.heap.size w (w.alloc (.cells #[.int .i64 r, .int .i64 c, .slice ao len cap] 24)) := (Below.refl _ _).alloc (Nat.le_refl _) _
 have HB := Lib.hid hb; clear hb
 have fin : ∀ b : Bool, soundM r c len = b -> Hid (soundM r c len = b) := fun b h => Lib.hid h
 by_cases h1 : 0 <= r
 · have g1 : decide (0 <= r) = true := by simpa using h1
   by_cases h2 : r <= 64
   · have g2 : decide (r <= 64) = true := by simpa using h2
     by_cases h3 : 0 <= c
     · have g3 : decide (0 <= c) = true := by simpa using h3
       by_cases h4 : c <= 64
       · have g4 : decide (c <= 64) = true := by simpa using h4
         have hm : 0 <= r * c /\ r * c <= 4096 := by
          refine ⟨Int.mul_nonneg h1 h3, ?_⟩
          have h5 := Int.mul_le_mul_of_nonneg_right h2 h3
          omega
         have hs : soundM r c len = ((len : Int) == r * c) := by simp [soundM, sideOk, g1, g2, g3, g4]
         have hw : IntKind.i64.wrap (r * c) = r * c := wrap_small (by omega) (by omega)
         have HS := Lib.hid hs; clear hs hm
         obtain ⟨q, hq⟩ : ∃ q, r * c = q := ⟨_, rfl⟩
         rw [hq] at hw HS
         have hw' : IntKind.i64.wrap (r * c) = q := by rw [hq]; exact hw
         clear hw hq
         go_enter Tryz.func11, Tryz.ntmps11
         go_wp2
         go_ret
         exact ⟨by rw [HS.out]; rfl, HB.out⟩
       · have g4 : decide (c <= 64) = false := by simpa using h4
         have HS := fin false (by simp [soundM, sideOk, g1, g2, g3, g4])
         clear fin h1 h2 h3 h4
         go_enter Tryz.func11, Tryz.ntmps11
         go_wp2
         go_ret
         exact ⟨by rw [HS.out]; rfl, HB.out⟩
     · have g3 : decide (0 <= c) = false := by simpa using h3
       have HS := fin false (by simp [soundM, sideOk, g1, g2, g3])
       clear fin h1 h2 h3
       go_enter Tryz.func11, Tryz.ntmps11
       go_wp2
       go_ret
       exact ⟨by rw [HS.out]; rfl, HB.out⟩
   · have g2 : decide (r <= 64) = false := by simpa using h2
     have HS := fin false (by simp [soundM, sideOk, g1, g2])
     clear fin h1 h2
     go_enter Tryz.func11, Tryz.ntmps11
     go_wp2
     go_ret
     exact ⟨by rw [HS.out]; rfl, HB.out⟩
 · have g1 : decide (0 <= r) = false := by simpa using h1
   have HS := fin false (by simp [soundM, sideOk, g1])
   clear fin h1
   go_enter Tryz.func11, Tryz.ntmps11
   go_wp2
   go_ret
   exact ⟨by rw [HS.out]; rfl, HB.out⟩
set_option maxRecDepth 100000 in
set_option maxHeartbeats 4000000 in
theorem M9Check_c (r c : Nat) (ao : Option Addr) (len cap : Nat) (w : World) (hr : r <= 64) (hc : c <= 64) (hs : len = r * c) :
 Calls Tryz.prog 49 #[.agg #[.int .i64 (r : Int), .int .i64 (c : Int), .slice ao len cap]] w fun e w' => e = .returned (.int .i64 0) /\ Below w.heap.size w w' := by
 have hb : Below w.heap.size w (w.alloc (.cells #[.int .i64 (r : Int), .int .i64 (c : Int), .slice ao len cap] 24)) := (Below.refl _ _).alloc (Nat.le_refl _) _
 have HB := Lib.hid hb; clear hb
 have hN : r * c <= 4096 := Nat.mul_le_mul hr hc
 have hw : IntKind.i64.wrap ((r : Int) * (c : Int)) = (len : Int) := by
  rw [<- Int.natCast_mul, <- hs]; exact wrap_small (by omega) (by omega)
 clear hs hN
 have g1 : decide ((r : Int) < 0) = false := by simp
 have g2 : decide (64 < (r : Int)) = false := by simp; omega
 have g3 : decide ((c : Int) < 0) = false := by simp
 have g4 : decide (64 < (c : Int)) = false := by simp; omega
 have g5 : ((len : Int) != (len : Int)) = false := by simp
 go_enter Tryz.func49, Tryz.ntmps49
 go_wp2
 go_ret
 exact ⟨rfl, HB.out⟩
set_option maxRecDepth 100000 in
set_option maxHeartbeats 4000000 in
theorem M9Least_c (r c : Nat) (ao : Option Addr) (len cap L : Nat) (xs : List Int) (w : World) (hr : r <= 64) (hc : c <= 64) (h : LsAt w L ao xs) (hL : L <= 8796093022208) (hl : len = xs.length) (hs : xs.length = r * c) :
 Calls Tryz.prog 17 #[.agg #[.int .i64 (r : Int), .int .i64 (c : Int), .slice ao len cap]] w fun e w' => (∃ b, e = .returned (.tuple #[.agg #[.int .i64 (r : Int), .int .i64 (c : Int), .slice (some ⟨b, 0, none⟩) (r * c) (r * c)], .int .i64 0]) /\ w.heap.size <= b /\ RowN w' b xs) /\ Below w.heap.size w w' := by
 obtain ⟨r1, r2, hb⟩ := two_new w #[.int .i64 (r : Int), .int .i64 (c : Int), .slice ao len cap] #[.int .i64 0, .int .i64 0, .slice none 0 0] 24 24
 have HC := Lib.hid (M9Check_c r c ao len cap ((w.alloc (.cells #[.int .i64 (r : Int), .int .i64 (c : Int), .slice ao len cap] 24)).alloc (.cells #[.int .i64 0, .int .i64 0, .slice none 0 0] 24)) hr hc (hl.trans hs))
 have HLS := Lib.hid (h.below hb)
 have HLH := Lib.hid (And.intro hl hs)
 have R1 := Lib.hid r1
 have R2 := Lib.hid r2
 have e0 := r1.cell 0
 have e1 := r1.cell 1
 have e2 := r1.cell 2
 have HB := Lib.hid hb; clear hb r1 r2 h hl hs
 go_enter Tryz.func17, Tryz.ntmps17
 go_wp2_with fail
 generalize (w.alloc (.cells #[.int .i64 (r : Int), .int .i64 (c : Int), .slice ao len cap] 24)).alloc (.cells #[.int .i64 0, .int .i64 0, .slice none 0 0] 24) = w2 at *
 refine HC.out.mono ?_
 rintro e w3 ⟨rfl, hb3⟩
 have HM := Lib.hid (M9Make_c r c ao len cap L xs w3 hr hc (HLS.out.below hb3) hL HLH.out.1 HLH.out.2)
 have k0 := (R1.out.below hb3 R1.out.lt).cell 0
 have k1 := (R1.out.below hb3 R1.out.lt).cell 1
 have k2 := (R1.out.below hb3 R1.out.lt).cell 2
 have R23 := Lib.hid (R2.out.below hb3 R2.out.lt)
 have HB3 := Lib.hid (HB.out.trans (hb3.mono HB.out.size))
 have hs2 : w.heap.size + 1 < w2.heap.size := R2.out.lt
 have hs3 := hb3.size
 clear hb3 e0 e1 e2 HC R1 R2 HB
 go_wp2_with fail
 refine HM.out.mono ?_
 rintro e w4 ⟨⟨b, rfl, hbb, hR⟩, hb4⟩
 have R24 := Lib.hid (R23.out.below hb4 R23.out.lt)
 have HR := Lib.hid hR; clear hR
 have HB4 := Lib.hid (HB3.out.trans (hb4.mono HB3.out.size))
 have z0 := R24.out.cell 0
 have z1 := R24.out.cell 1
 have z2 := R24.out.cell 2
 have y0 := R24.out.free 0
 have y1 := R24.out.free 1
 have y2 := R24.out.free 2
 clear hb4 k0 k1 k2 HM
 go_wp2
 refine bodyPost_ret (results_mat_err (p := 2) (q := 3) (by kernel_rfl) _ _ (w.heap.size + 1) _ _ _ rfl (R24.out.set3 (.int .i64 (r : Int)) (.int .i64 (c : Int)) (.slice (some ⟨b, 0, none⟩) (r * c) (r * c)))) rfl ?_
 exact ⟨⟨b, rfl, by omega, HR.out.setMat R24.out (r : Int) (c : Int) _ _ _⟩, ((HB4.out.setCell (p := ⟨w.heap.size + 1, 0, none⟩) (Nat.le_succ _) _).setCell (p := ⟨w.heap.size + 1, 1, none⟩) (Nat.le_succ _) _).setCell (p := ⟨w.heap.size + 1, 2, none⟩) (Nat.le_succ _) _⟩
set_option maxRecDepth 100000 in
set_option maxHeartbeats 4000000 in
theorem AlikeMats_c (r1 c1 r2 c2 : Int) (aoA aoB : Option Addr) (lA cA lB cB : Nat) (xs ys : List Int) (w : World) (hA : LsN w aoA xs) (hB : LsN w aoB ys) (hlA : lA = xs.length) (hlB : lB = ys.length) (hmA : lA <= 8796093022208) (hmB : lB <= 8796093022208)
 (hx : ∀ x ∈ xs, wlen x.natAbs <= 17592186044415) (hy : ∀ x ∈ ys, wlen x.natAbs <= 17592186044415) :
 Calls Tryz.prog 14 #[.agg #[.int .i64 r1, .int .i64 c1, .slice aoA lA cA], .agg #[.int .i64 r2, .int .i64 c2, .slice aoB lB cB]] w fun e w' => e = .returned (.bool (decide (xs = ys) && (r1 == r2) && (c1 == c2))) /\ Below w.heap.size w w' := by
 obtain ⟨q1, q2, hb⟩ := two_new w #[.int .i64 r1, .int .i64 c1, .slice aoA lA cA] #[.int .i64 r2, .int .i64 c2, .slice aoB lB cB] 24 24
 have HM := Lib.hid (AlikeRows_c aoA aoB lA cA lB cB xs ys _ (hA.below hb) (hB.below hb) hlA hlB hmA hmB hx hy)
 obtain ⟨t, ht⟩ : ∃ t, decide (xs = ys) = t := ⟨_, rfl⟩
 rw [ht] at HM ⊢
 have R1 := Lib.hid q1
 have R2 := Lib.hid q2
 have e2 := q1.cell 2
 have e5 := q2.cell 2
 have HB := Lib.hid hb
 clear hb q1 q2 hA hB hlA hlB hx hy ht
 go_enter Tryz.func14, Tryz.ntmps14
 go_wp2_with fail
 generalize (w.alloc (.cells #[.int .i64 r1, .int .i64 c1, .slice aoA lA cA] 24)).alloc (.cells #[.int .i64 r2, .int .i64 c2, .slice aoB lB cB] 24) = w2 at *
 refine HM.out.mono ?_
 rintro e w3 ⟨rfl, hb3⟩
 have k0 := (R1.out.below hb3 R1.out.lt).cell 0
 have k1 := (R1.out.below hb3 R1.out.lt).cell 1
 have k3 := (R2.out.below hb3 R2.out.lt).cell 0
 have k4 := (R2.out.below hb3 R2.out.lt).cell 1
 have HB3 := Lib.hid (HB.out.trans (hb3.mono HB.out.size))
 clear hb3 e2 e5
 cases t
 · go_wp2
   go_ret
   exact ⟨rfl, HB3.out⟩
 · cases hrr : (r1 == r2)
   · go_wp2
     go_ret
     exact ⟨by rw [hrr]; rfl, HB3.out⟩
   · go_wp2
     go_ret
     exact ⟨by rw [hrr]; rfl, HB3.out⟩
end Go.Proofs.YtknkkceioockjaaGreat
namespace Go.Proofs.YtknkkceioockjaaGreat
def HF (r c : Nat) (E : Nat -> Nat -> Int) : Prop := ∃ k l, k <= r /\ Herm k c E l /\ ∀ i, k <= i -> i < r -> ∀ b, E i b = 0
structure IsLead (c : Nat) (E : Nat -> Nat -> Int) (i j : Nat) : Prop where
 le : j <= c
 zero : ∀ b, b < j -> E i b = 0
 ne : j < c -> E i j ≠ 0
def FI (c : Nat) (E : Nat -> Nat -> Int) (i : Nat) (last : Int) : Prop :=
 ∃ k l, k <= i /\ Herm k c E l /\ (∀ a, k <= a -> a < i -> ∀ b, b < c -> E a b = 0) /\ last = (if k < i then (c : Int) else if k = 0 then -1 else (l (k - 1) : Int))
theorem FI.start (c : Nat) (E : Nat -> Nat -> Int) : FI c E 0 (-1) :=
 ⟨0, fun _ => 0, Nat.le_refl _, ⟨⟨fun i k _ h => by omega, fun i h => by omega, fun i h => by omega, fun i h => by omega⟩, fun i k _ h => by omega⟩, fun a _ h => by omega, rfl⟩
theorem FI.fin {r c : Nat} {E : Nat -> Nat -> Int} {last : Int} (hE : ∀ i b, c <= b -> E i b = 0) (h : FI c E r last) : HF r c E := by
 obtain ⟨k, l, hk, hH, hz, _⟩ := h
 exact ⟨k, l, hk, hH, fun i hi hr b => by
  by_cases hb : b < c
  · exact hz i hi hr b hb
  · exact hE i b (by omega)⟩
theorem FI.skip {c i : Nat} {E : Nat -> Nat -> Int} {last : Int} (h : FI c E i last) (hl : IsLead c E i c) : FI c E (i + 1) (c : Int) := by
 obtain ⟨k, l, hk, hH, hz, _⟩ := h
 refine ⟨k, l, by omega, hH, fun a h1 h2 b hb => ?_, by rw [if_pos (by omega)]⟩
 by_cases e : a = i
 · subst e; exact hl.zero b hb
 · exact hz a h1 (by omega) b hb
theorem FI.next {c i j : Nat} {E : Nat -> Nat -> Int} {last : Int} (h : FI c E i last) (hl : IsLead c E i j) (hj : j < c) (hlast : last < (j : Int)) (hp : 0 < E i j) (hr : ∀ a, a < i -> 0 <= E a j /\ E a j < E i j) : FI c E (i + 1) (j : Int) := by
 obtain ⟨k, l, hk, hH, hz, hla⟩ := h
 have hki : k = i := by
  by_cases e : k < i
  · rw [if_pos e] at hla; omega
  · omega
 subst hki
 rw [if_neg (by omega)] at hla
 have hlo : ∀ a, a < k -> l a < j := fun a ha => by
  rw [if_neg (by omega)] at hla
  rcases Nat.lt_or_eq_of_le (show a <= k - 1 by omega) with e | e
  · have := hH.inc a (k - 1) e (by omega); omega
  · subst e; omega
 have h2 : ∀ a, a < k -> (if a < k then l a else j) = l a := fun a ha => if_pos ha
 have h3 : (if k < k then l k else j) = j := if_neg (by omega)
 refine ⟨k + 1, fun a => if a < k then l a else j, Nat.le_refl _, ⟨⟨fun a b hab hb => ?_, fun a ha => ?_, fun a ha b hb => ?_, fun a ha => ?_⟩, fun a b hab hb => ?_⟩, fun a h1 h2 => by omega, ?_⟩
 · show (if a < k then l a else j) < (if b < k then l b else j)
   rw [h2 a (by omega)]
   by_cases e : b < k
   · rw [h2 b e]; exact hH.inc a b hab e
   · obtain rfl : b = k := by omega
     rw [h3]; exact hlo a (by omega)
 · show (if a < k then l a else j) < c
   by_cases e : a < k
   · rw [h2 a e]; exact hH.lt a e
   · obtain rfl : a = k := by omega
     rw [h3]; exact hj
 · have hb : b < (if a < k then l a else j) := hb
   by_cases e : a < k
   · rw [h2 a e] at hb; exact hH.zero a e b hb
   · obtain rfl : a = k := by omega
     rw [h3] at hb; exact hl.zero b hb
 · show 0 < E a (if a < k then l a else j)
   by_cases e : a < k
   · rw [h2 a e]; exact hH.pos a e
   · obtain rfl : a = k := by omega
     rw [h3]; exact hp
 · show 0 <= E a (if b < k then l b else j) /\ E a (if b < k then l b else j) < E b (if b < k then l b else j)
   by_cases e : b < k
   · rw [h2 b e]; exact hH.red a b hab e
   · obtain rfl : b = k := by omega
     rw [h3]; exact hr a hab
 · rw [if_neg (by omega), if_neg (by omega)]
   show (j : Int) = ((if k + 1 - 1 < k then l (k + 1 - 1) else j : Nat) : Int)
   rw [if_neg (by omega)]
theorem HF.row {r c i j : Nat} {E : Nat -> Nat -> Int} {last : Int} (h : HF r c E) (hi : i < r) (hl : IsLead c E i j) (hj : j < c) (hF : FI c E i last) : last < (j : Int) /\ 0 < E i j /\ ∀ a, a < i -> 0 <= E a j /\ E a j < E i j := by
 obtain ⟨K, L, hK, hH, hz⟩ := h
 obtain ⟨k, l, hk, hHk, hzk, hla⟩ := hF
 have hiK : i < K := by
  by_cases e : i < K
  · exact e
  · exact absurd (hz i (by omega) hi j) (hl.ne hj)
 have hLj : ∀ {a q : Nat}, a < K -> (∀ b, b < q -> E a b = 0) -> E a q ≠ 0 -> L a = q := fun {a q} ha h0 hn => by
  rcases Nat.lt_trichotomy (L a) q with e | e | e
  · have := hH.pos a ha; have := h0 _ e; omega
  · exact e
  · exact absurd (hH.zero a ha q e) hn
 have hLi : L i = j := hLj hiK hl.zero (hl.ne hj)
 have hki : k = i := by
  by_cases e : k < i
  · exfalso
    have h1 := hH.pos k (by omega)
    rw [hzk k (Nat.le_refl _) e (L k) (hH.lt k (by omega))] at h1
    omega
  · omega
 subst hki
 rw [if_neg (by omega)] at hla
 refine ⟨?_, by rw [<- hLi]; exact hH.pos k hiK, fun a ha => by rw [<- hLi]; exact hH.red a k ha hiK⟩
 by_cases e : k = 0
 · rw [if_pos e] at hla; omega
 · rw [if_neg e] at hla
   have h1 : L (k - 1) = l (k - 1) := hLj (by omega) (hHk.zero (k - 1) (by omega)) (by have := hHk.pos (k - 1) (by omega); omega)
   have h2 := hH.inc (k - 1) k (by omega) hiK
   omega
theorem HF.zeros {r c i : Nat} {E : Nat -> Nat -> Int} (h : HF r c E) (hi : i < r) (hl : ∀ b, E i b = 0) : ∀ a, i <= a -> a < r -> ∀ b, E a b = 0 := by
 obtain ⟨K, L, hK, hH, hz⟩ := h
 have hiK : K <= i := by
  by_cases e : K <= i
  · exact e
  · have := hH.pos i (by omega); rw [hl] at this; omega
 exact fun a h1 h2 b => hz a (by omega) h2 b
theorem HF.congr {r c : Nat} {E F : Nat -> Nat -> Int} (h : HF r c E) (e : ∀ i, i < r -> ∀ b, F i b = E i b) : HF r c F := by
 obtain ⟨k, l, hk, hH, hz⟩ := h
 exact ⟨k, l, hk, hH.congr (fun a ha b => e a (by omega) b), fun i hi hr b => (e i hr b).trans (hz i hi hr b)⟩
theorem IsHnf.hf {r c k : Nat} {xs hs : List Int} {l : Nat -> Nat} (h : IsHnf r c xs hs k l) : HF r c (matE hs r c) := ⟨k, l, h.kr, h.herm, fun i hi _ b => h.zero i hi b⟩
theorem HF.own {r c : Nat} {xs : List Int} (hx : xs.length = r * c) (h : HF r c (matE xs r c)) : ∃ k l, IsHnf r c xs xs k l := by
 obtain ⟨k, l, hk, hH, hz⟩ := h
 refine ⟨k, l, hx, hk, hH, fun i hi b => ?_, ⟨fun i hi => ?_, fun i hi => Sp.row _ (by omega)⟩⟩
 · by_cases hr : i < r
   · exact hz i hi hr b
   · exact matE_row (by omega) b
 · by_cases e : i < k
   · exact Sp.row _ e
   · exact (Sp.zero _ _).congr (fun b => hz i (by omega) hi b)
theorem IsHnf.same {r c : Nat} {xs ys hs : List Int} {k : Nat} {l : Nat -> Nat} (h : IsHnf r c xs hs k l) (e : SpEq r (matE ys r c) r (matE xs r c)) : IsHnf r c ys hs k l :=
 ⟨h.len, h.kr, h.herm, h.zero, e.trans h.sp⟩
def mvE (i j : Nat) (ev : Bool) (K : Int) (E : Nat -> Nat -> Int) (a b : Nat) : Int :=
 if i = j then (if a = i then -E i b else E a b)
 else if ev then (if a = i then E j b else if a = j then E i b else E a b)
 else (if a = i then K * E j b + E i b else E a b)
theorem mvE_sp {r i j : Nat} (hi : i < r) (hj : j < r) (ev : Bool) (K : Int) (E : Nat -> Nat -> Int) : SpEq r E r (mvE i j ev K E) := by
 by_cases h : i = j
 · refine SpEq.neg hi (fun a ha b => ?_) (fun b => ?_)
   · unfold mvE; rw [if_pos h, if_neg ha]
   · unfold mvE; rw [if_pos h, if_pos rfl]
 · cases ev
   · refine SpEq.add hi hj h K (fun a b => ?_)
     unfold mvE; rw [if_neg h]; simp
   · have hE : ∀ a b, mvE i j true K E a b = if a = i then E j b else if a = j then E i b else E a b := fun a b => by unfold mvE; rw [if_neg h]; simp
     refine ⟨fun k hk => ?_, fun k hk => ?_⟩
     · by_cases h1 : k = i
       · subst h1
         exact (Sp.row (mvE k j true K E) hj).congr (fun b => by rw [hE, if_neg (fun e => h e.symm), if_pos rfl])
       · by_cases h2 : k = j
         · subst h2
           exact (Sp.row (mvE i k true K E) hi).congr (fun b => by rw [hE, if_pos rfl])
         · exact (Sp.row (mvE i j true K E) hk).congr (fun b => by rw [hE, if_neg h1, if_neg h2])
     · by_cases h1 : k = i
       · subst h1
         exact (Sp.row E hj).congr (fun b => by rw [hE, if_pos rfl])
       · by_cases h2 : k = j
         · subst h2
           exact (Sp.row E hi).congr (fun b => by rw [hE, if_neg h1, if_pos rfl])
         · exact (Sp.row E hk).congr (fun b => by rw [hE, if_neg h1, if_neg h2])
theorem mvE_bd {r c i j m n : Nat} (hi : i < r) (hj : j < r) (ev : Bool) {K : Int} {E : Nat -> Nat -> Int} (hE : ∀ a b, a < r -> b < c -> (E a b).natAbs < W ^ m) (hK : K.natAbs < W ^ n) :
 ∀ a b, a < r -> b < c -> (mvE i j ev K E a b).natAbs < W ^ (m + n + 1) := by
 intro a b ha hb
 have hup : W ^ m <= W ^ (m + n + 1) := Nat.pow_le_pow_right (by decide) (by omega)
 have h0 := hE a b ha hb
 have h1 := hE i b hi hb
 have h2 := hE j b hj hb
 unfold mvE
 split
 · split
   · rw [Int.natAbs_neg]; exact Nat.lt_of_lt_of_le h1 hup
   · exact Nat.lt_of_lt_of_le h0 hup
 · split
   · split
     · exact Nat.lt_of_lt_of_le h2 hup
     · split
       · exact Nat.lt_of_lt_of_le h1 hup
       · exact Nat.lt_of_lt_of_le h0 hup
   · split
     · have e1 : (K * E j b + E i b).natAbs <= K.natAbs * (E j b).natAbs + (E i b).natAbs := by
        have := Int.natAbs_add_le (K * E j b) (E i b)
        rw [Int.natAbs_mul] at this
        exact this
       have e2 : K.natAbs * (E j b).natAbs <= W ^ n * W ^ m := Nat.mul_le_mul (Nat.le_of_lt hK) (Nat.le_of_lt h2)
       have e3 : W ^ (m + n + 1) = W ^ n * W ^ m * W := by rw [Nat.pow_succ, Nat.pow_add, Nat.mul_comm (W ^ m)]
       have e4 : W ^ m <= W ^ n * W ^ m := Nat.le_mul_of_pos_left _ (Nat.pow_pos (by decide))
       have e5 : W ^ n * W ^ m * 2 <= W ^ n * W ^ m * W := Nat.mul_le_mul_left _ (by decide)
       have e6 : 0 < W ^ m := Nat.pow_pos (by decide)
       rw [e3]
       generalize W ^ n * W ^ m = q at *
       omega
     · exact Nat.lt_of_lt_of_le h0 hup
theorem flat_inj {c i j a b : Nat} (hj : j < c) (hb : b < c) (h : i * c + j = a * c + b) : i = a /\ j = b := by
 have h1 : (i * c + j) / c = i := by rw [Nat.mul_comm, Nat.mul_add_div (by omega), Nat.div_eq_of_lt hj, Nat.add_zero]
 have h2 : (a * c + b) / c = a := by rw [Nat.mul_comm, Nat.mul_add_div (by omega), Nat.div_eq_of_lt hb, Nat.add_zero]
 have h3 : i = a := by rw [<- h1, h, h2]
 subst h3
 exact ⟨rfl, by omega⟩
theorem matE_set {xs : List Int} {r c i j : Nat} (hx : xs.length = r * c) (hi : i < r) (hj : j < c) (v : Int) (a b : Nat) : matE (xs.set (i * c + j) v) r c a b = if a = i /\ b = j then v else matE xs r c a b := by
 have hq : i * c + j < xs.length := by rw [hx]; exact idx_lt hi hj
 by_cases hab : a < r /\ b < c
 · unfold matE
   rw [if_pos hab, if_pos hab, List.getD_eq_getElem?_getD, List.getD_eq_getElem?_getD, List.getElem?_set]
   by_cases e : i * c + j = a * c + b
   · obtain ⟨h1, h2⟩ := flat_inj hj hab.2 e
     rw [if_pos e, if_pos hq, if_pos ⟨h1.symm, h2.symm⟩]; rfl
   · rw [if_neg e, if_neg (fun h => e (by rw [h.1, h.2]))]
 · unfold matE
   rw [if_neg hab, if_neg hab, if_neg (fun h => hab ⟨by omega, by omega⟩)]
theorem mv_neg {zs : List Int} {r c d i : Nat} {E : Nat -> Nat -> Int} {K : Int} {ev : Bool} (hl : zs.length = r * c) (hi : i < r) (hd : d < c)
 (hE : ∀ a b, matE zs r c a b = if b < d then mvE i i ev K E a b else E a b) {q : Nat} (hq : i * c + d = q) {x : Int} (hx : matE zs r c i d = x) :
 ∀ a b, matE (zs.set q (-x)) r c a b = if b < d + 1 then mvE i i ev K E a b else E a b := by
 intro a b
 have hM : ∀ a b, mvE i i ev K E a b = if a = i then -E i b else E a b := fun a b => by unfold mvE; rw [if_pos rfl]
 have hx' : x = E i d := by rw [<- hx, hE, if_neg (by omega)]
 rw [<- hq, matE_set hl hi hd, hE, hx']
 by_cases h1 : b = d
 · subst h1
   rw [if_pos (Nat.lt_succ_self _), if_neg (Nat.lt_irrefl _), hM]
   by_cases h2 : a = i
   · rw [if_pos ⟨h2, rfl⟩, if_pos h2]
   · rw [if_neg (fun h => h2 h.1), if_neg h2]
 · rw [if_neg (fun h => h1 h.2)]
   by_cases h3 : b < d
   · rw [if_pos h3, if_pos (by omega)]
   · rw [if_neg h3, if_neg (by omega)]
theorem mv_add {zs : List Int} {r c d i j : Nat} {E : Nat -> Nat -> Int} {K : Int} (hl : zs.length = r * c) (hi : i < r) (hij : i ≠ j) (hd : d < c)
 (hE : ∀ a b, matE zs r c a b = if b < d then mvE i j false K E a b else E a b) {q : Nat} (hq : i * c + d = q) {x y : Int} (hx : matE zs r c i d = x) (hy : matE zs r c j d = y) :
 ∀ a b, matE (zs.set q (K * y + x)) r c a b = if b < d + 1 then mvE i j false K E a b else E a b := by
 intro a b
 have hM : ∀ a b, mvE i j false K E a b = if a = i then K * E j b + E i b else E a b := fun a b => by unfold mvE; rw [if_neg hij]; simp
 have hx' : x = E i d := by rw [<- hx, hE, if_neg (by omega)]
 have hy' : y = E j d := by rw [<- hy, hE, if_neg (by omega)]
 rw [<- hq, matE_set hl hi hd, hE, hx', hy']
 by_cases h1 : b = d
 · subst h1
   rw [if_pos (Nat.lt_succ_self _), if_neg (Nat.lt_irrefl _), hM]
   by_cases h2 : a = i
   · rw [if_pos ⟨h2, rfl⟩, if_pos h2]
   · rw [if_neg (fun h => h2 h.1), if_neg h2]
 · rw [if_neg (fun h => h1 h.2)]
   by_cases h3 : b < d
   · rw [if_pos h3, if_pos (by omega)]
   · rw [if_neg h3, if_neg (by omega)]
theorem mv_swap {zs : List Int} {r c d i j : Nat} {E : Nat -> Nat -> Int} {K : Int} (hl : zs.length = r * c) (hi : i < r) (hj : j < r) (hij : i ≠ j) (hd : d < c)
 (hE : ∀ a b, matE zs r c a b = if b < d then mvE i j true K E a b else E a b) {qi qj : Nat} (hqi : i * c + d = qi) (hqj : j * c + d = qj) {x y : Int} (hx : matE zs r c i d = x) (hy : matE zs r c j d = y) :
 ∀ a b, matE ((zs.set qi y).set qj x) r c a b = if b < d + 1 then mvE i j true K E a b else E a b := by
 intro a b
 have hM : ∀ a b, mvE i j true K E a b = if a = i then E j b else if a = j then E i b else E a b := fun a b => by unfold mvE; rw [if_neg hij]; simp
 have hx' : x = E i d := by rw [<- hx, hE, if_neg (by omega)]
 have hy' : y = E j d := by rw [<- hy, hE, if_neg (by omega)]
 rw [<- hqi, <- hqj, matE_set (by rw [List.length_set]; exact hl) hj hd, matE_set hl hi hd, hE, hx', hy']
 by_cases h1 : b = d
 · subst h1
   rw [if_pos (Nat.lt_succ_self _), if_neg (Nat.lt_irrefl _), hM]
   by_cases h2 : a = i
   · subst h2
     rw [if_neg (fun h => hij h.1), if_pos ⟨rfl, rfl⟩, if_pos rfl]
   · rw [if_neg h2]
     by_cases h4 : a = j
     · rw [if_pos ⟨h4, rfl⟩, if_pos h4]
     · rw [if_neg (fun h => h4 h.1), if_neg (fun h => h2 h.1), if_neg h4]
 · rw [if_neg (fun h => h1 h.2), if_neg (fun h => h1 h.2)]
   by_cases h3 : b < d
   · rw [if_pos h3, if_pos (by omega)]
   · rw [if_neg h3, if_neg (by omega)]
end Go.Proofs.YtknkkceioockjaaGreat
namespace Go.Proofs.YtknkkceioockjaaGreat
open Go.RowKit
set_option maxRecDepth 100000 in
set_option maxHeartbeats 4000000 in
theorem Of18_c (n : Nat) (w : World) (h0 : 0 < n) (h1 : n < W) :
 Calls Tryz.prog 21 #[.int .u64 (n : Int)] w fun e w' => (e = .returned (.agg #[.bool false, .slice (some ⟨w.heap.size + 1, 0, none⟩) 1 1]) /\ NumAt w' (.agg #[.bool false, .slice (some ⟨w.heap.size + 1, 0, none⟩) 1 1]) (n : Int)) /\ Below w.heap.size w w' := by
 obtain ⟨r1, r2, hb⟩ := two_new w #[.bool false, .slice (some ⟨w.heap.size + 1, 0, none⟩) 1 1] #[.int .u64 (n : Int)] 45 49
 have hw2 : WAt ((w.alloc (.cells #[.bool false, .slice (some ⟨w.heap.size + 1, 0, none⟩) 1 1] 45)).alloc (.cells #[.int .u64 (n : Int)] 49)) (some ⟨w.heap.size + 1, 0, none⟩) [n] := RowAt.wat (ws := [n]) r2 (Ok.one h1)
 have hv1 : nval [n] = n := by simp [nval]
 have hwl : wlen n = 1 := by
  have e1 : wlen n ≠ 0 := fun e => by have := wlen_eq_zero.1 e; omega
  have e2 : wlen n <= 1 := wlen_le_of_lt (by simpa using h1)
  omega
 have hI : IntAt ((w.alloc (.cells #[.bool false, .slice (some ⟨w.heap.size + 1, 0, none⟩) 1 1] 45)).alloc (.cells #[.int .u64 (n : Int)] 49)) (wlen ((n : Int)).natAbs) (.agg #[.bool false, .slice (some ⟨w.heap.size + 1, 0, none⟩) 1 1]) (n : Int) :=
  ⟨false, _, 1, 1, [n], rfl, hw2, rfl, by rw [Int.natAbs_natCast, hwl]; exact Nat.le_refl _, Nat.le_refl _, by rw [hv1]; rfl⟩
 have HI := Lib.hid hI
 have HR6 := Lib.hid r1
 have HB := Lib.hid hb
 clear hI hw2 hv1 hb r2 r1 hwl
 go_enter Tryz.func21, Tryz.ntmps21
 go_wp2
 refine bodyPost_ret (results_int (p := 2) (by kernel_rfl) _ _ w.heap.size _ _ rfl HR6.out) rfl ?_
 exact ⟨⟨rfl, HI.out, ⟨_, by rw [show decide ((n : Int) < 0) = false by simp]⟩⟩, HB.out⟩
theorem hnf_wake : IsHnf 2 1 [4, 6] [2, 0] 1 (fun _ => 0) := by
 have e0 : ∀ i j, matE [2, 0] 2 1 i j = if i = 0 /\ j = 0 then 2 else 0 := fun i j => by
  unfold matE
  by_cases h : i < 2 /\ j < 1
  · obtain ⟨h1, h2⟩ := h
    obtain rfl : j = 0 := by omega
    rw [if_pos ⟨h1, h2⟩]
    have : i = 0 ∨ i = 1 := by omega
    rcases this with rfl | rfl <;> rfl
  · rw [if_neg h, if_neg (by omega)]
 have e1 : ∀ i j, matE [4, 6] 2 1 i j = if i = 0 /\ j = 0 then 4 else if i = 1 /\ j = 0 then 6 else 0 := fun i j => by
  unfold matE
  by_cases h : i < 2 /\ j < 1
  · obtain ⟨h1, h2⟩ := h
    obtain rfl : j = 0 := by omega
    rw [if_pos ⟨h1, h2⟩]
    have : i = 0 ∨ i = 1 := by omega
    rcases this with rfl | rfl <;> rfl
  · rw [if_neg h, if_neg (by omega), if_neg (by omega)]
 refine ⟨rfl, by omega, ⟨⟨fun i k _ _ => by omega, fun i _ => by omega, fun i _ j hj => by omega, fun i hi => ?_⟩, fun i k _ _ => by omega⟩, fun i hi b => ?_, ?_⟩
 · obtain rfl : i = 0 := by omega
   rw [e0]; decide
 · rw [e0, if_neg (by omega)]
 · refine ⟨fun k hk => ?_, fun k hk => ?_⟩
   · have hk' : k = 0 ∨ k = 1 := by omega
     rcases hk' with rfl | rfl
     · exact ((Sp.row (matE [2, 0] 2 1) (k := 0) (n := 1) (by omega)).smul 2).congr (fun j => by
        rw [e0, e1]; by_cases h : j = 0 <;> simp [h])
     · exact ((Sp.row (matE [2, 0] 2 1) (k := 0) (n := 1) (by omega)).smul 3).congr (fun j => by
        rw [e0, e1]; by_cases h : j = 0 <;> simp [h])
   · obtain rfl : k = 0 := by omega
     exact ((Sp.row (matE [4, 6] 2 1) (k := 1) (n := 2) (by omega)).sub (Sp.row (matE [4, 6] 2 1) (k := 0) (n := 2) (by omega))).congr (fun j => by
      rw [e0, e1, e1]; by_cases h : j = 0 <;> simp [h])
theorem row2 {w : World} {p q : P4} {x y : Int} (hp : NumAt w (av p) x) (hq : NumAt w (av q) y) : RowN (w.alloc (.cells #[.bool p.1, .slice p.2.1 p.2.2.1 p.2.2.2, .bool q.1, .slice q.2.1 q.2.2.1 q.2.2.2] 45)) w.heap.size [x, y] := by
 have hb : Below w.heap.size w (w.alloc (.cells #[.bool p.1, .slice p.2.1 p.2.2.1 p.2.2.2, .bool q.1, .slice q.2.1 q.2.2.1 q.2.2.2] 45)) := (Below.refl _ _).alloc (Nat.le_refl _) _
 refine ⟨[p, q], RowAt.new w _ _, rfl, fun i h1 h2 => ?_⟩
 match i, h1, h2 with
 | 0, _, _ => exact NumAt.below hp hb
 | 1, _, _ => exact NumAt.below hq hb
theorem LsN.lsAt {w : World} {L : Nat} {ao : Option Addr} {xs : List Int} (h : LsN w ao xs) (hL : ∀ x ∈ xs, wlen x.natAbs <= L) : LsAt w L ao xs := by
 intro hl
 obtain ⟨b, o, e, hlt, hc⟩ := h hl
 exact ⟨b, o, e, hlt, fun i hi => by
  obtain ⟨p, h0, h1, hn⟩ := hc i hi
  exact ⟨p, h0, h1, hn.int (hL _ (List.getElem_mem hi))⟩⟩
set_option maxRecDepth 100000 in
set_option maxHeartbeats 4000000 in
theorem Wakes_c (w : World) :
 Calls Tryz.prog 10 #[] w fun e w' => e = .returned (.bool true) /\ Below w.heap.size w w' := by
 go_enter Tryz.func10, Tryz.ntmps10
 go_wp2_with fail
 refine (Of18_c 4 _ (by omega) (by decide)).mono ?_
 rintro e w1 ⟨⟨rfl, h4⟩, hb1⟩
 have H4 := Lib.hid h4; clear h4
 go_wp2_with fail
 refine (Of18_c 6 _ (by omega) (by decide)).mono ?_
 rintro e w2 ⟨⟨rfl, h6⟩, hb2⟩
 have HN4 := Lib.hid (NumAt.below H4.out hb2)
 have HN6 := Lib.hid h6
 have HB2 := Lib.hid (hb1.trans (hb2.mono hb1.size))
 clear h6 hb1 hb2 H4
 have hW6 : ∀ x ∈ ([4, 6] : List Int), x.natAbs < W ^ 1 := fun x hx => by simp at hx; rcases hx with rfl | rfl <;> decide
 have hrw := row2 (p := (false, some ⟨w.heap.size + 1, 0, none⟩, 1, 1)) (q := (false, some ⟨w1.heap.size + 1, 0, none⟩, 1, 1)) HN4.out HN6.out
 have hb3 : Below w2.heap.size w2 (w2.alloc (.cells #[.bool false, .slice (some ⟨w.heap.size + 1, 0, none⟩) 1 1, .bool false, .slice (some ⟨w1.heap.size + 1, 0, none⟩) 1 1] 45)) := (Below.refl _ _).alloc (Nat.le_refl _) _
 have HF3 := Lib.hid (Form_c 2 1 1 (some ⟨w2.heap.size, 0, none⟩) 2 2 [4, 6] _ (by omega) (by omega) (hrw.lsN.lsAt (fun x hx => Nat.le_trans (wlen_le_of_lt (hW6 x hx)) (by omega))) hW6 (by omega) rfl rfl)
 have HB3 := Lib.hid (HB2.out.trans (hb3.mono HB2.out.size))
 clear hrw hW6 hb3 HN4 HN6
 go_wp2_with fail
 refine HF3.out.mono ?_
 rintro e w4 ⟨⟨b, hs, k, l, rfl, hbb, hR, hH, hbd⟩, hb4⟩
 obtain ⟨rfl, -, -⟩ := hH.unique hnf_wake
 have HR := Lib.hid hR
 have HB4 := Lib.hid (HB3.out.trans (hb4.mono HB3.out.size))
 have rB := RowAt.new w4 #[.int .i64 2, .int .i64 1, .slice (some ⟨b, 0, none⟩) 2 2] 24
 have hb5 : Below w4.heap.size w4 (w4.alloc (.cells #[.int .i64 2, .int .i64 1, .slice (some ⟨b, 0, none⟩) 2 2] 24)) := (Below.refl _ _).alloc (Nat.le_refl _) _
 clear hR hH hbd hb4 HF3
 go_wp2
 generalize w4.alloc (.cells #[.int .i64 2, .int .i64 1, .slice (some ⟨b, 0, none⟩) 2 2] 24) = w5 at *
 have HR5 := Lib.hid (HR.out.below hb5)
 have HB5 := Lib.hid (HB4.out.trans (hb5.mono HB4.out.size))
 have RB := Lib.hid rB
 have z0 := RB.out.cell 0
 have z1 := RB.out.cell 1
 have z2 := RB.out.cell 2
 simp only [List.getElem?_cons_zero, List.getElem?_cons_succ] at z0 z1 z2
 have hs5 : w4.heap.size < w5.heap.size := RB.out.lt
 clear rB hb5
 refine wp_region_any (by kernel_rfl) ?_
 try (change wpAny _ _ _ _ _ _ _ (World.drew _))
 refine wpAny_take (i := 0) (v := ?_) rfl (by kernel_rfl) (by kernel_rfl) (by kernel_rfl) (fun _ _ _ h => h) (Or.inl ⟨by kernel_rfl, ?_⟩) ?_
 rotate_left
 · intro w; go_simp; try (with_reducible rfl)
 refine wpAny_take (i := 1) (v := ?_) rfl (by kernel_rfl) (by kernel_rfl) (by kernel_rfl) (fun _ _ _ h => h) (Or.inl ⟨by kernel_rfl, ?_⟩) ?_
 rotate_left
 · intro w; go_simp; try (with_reducible rfl)
 refine wpAny_take (i := 2) (v := ?_) rfl (by kernel_rfl) (by kernel_rfl) (by kernel_rfl) (fun _ _ _ h => h) (Or.inl ⟨by kernel_rfl, ?_⟩) ?_
 rotate_left
 · intro w; go_simp; try (with_reducible rfl)
 refine wpAny_take (i := 5) (v := ?_) rfl (by kernel_rfl) (by kernel_rfl) (by kernel_rfl) (fun _ _ _ h => h) (Or.inl ⟨by kernel_rfl, ?_⟩) ?_
 rotate_left
 · intro w; go_simp; try (with_reducible rfl)
 refine wpAny_ready (rs := [3, 4]) (by kernel_rfl) (by simp) ?_
 refine AllReady.cons rfl (fun K hK => ?_) (AllReady.cons rfl (fun K hK => ?_) AllReady.nil)
 · go_simp
   refine hK _ _ ?_
   clear hK K
   refine wpAny_ready (rs := [4]) (by kernel_rfl) (by simp) ?_
   refine AllReady.cons rfl (fun K hK => ?_) AllReady.nil
   go_simp
   go_wp2_with (first | (go_at_call 21; refine (Of18_c 2 _ (by omega) (by decide)).mono ?_; rintro e w6 ⟨⟨rfl, h2⟩, hb6⟩; have H2 := Lib.hid h2; clear h2; have hs6 : w4.heap.size < w6.heap.size := Nat.lt_of_lt_of_le hs5 hb6.size; have y0 := (hb6.cell (p := ⟨w4.heap.size, 0, none⟩) hs5).trans z0; have y1 := (hb6.cell (p := ⟨w4.heap.size, 1, none⟩) hs5).trans z1; have y2 := (hb6.cell (p := ⟨w4.heap.size, 2, none⟩) hs5).trans z2))
   refine wpAny_ready (rs := [6]) (by kernel_rfl) (by simp) ?_
   refine AllReady.cons rfl (fun K hK => ?_) AllReady.nil
   go_simp
   refine hK _ _ ?_
   clear hK K
   refine wpAny_take (i := 7) (v := ?_) rfl (by kernel_rfl) (by kernel_rfl) (by kernel_rfl) (fun _ _ _ h => h) (Or.inl ⟨by kernel_rfl, ?_⟩) ?_
   rotate_left
   · intro w; go_simp; try (with_reducible rfl)
   have hrw := row2 (p := (false, some ⟨w5.heap.size + 1, 0, none⟩, 1, 1)) (q := p0) H2.out (NumAt.zero w6)
   have hb7 : Below w6.heap.size w6 (w6.alloc (.cells #[.bool false, .slice (some ⟨w5.heap.size + 1, 0, none⟩) 1 1, .bool false, .slice none 0 0] 45)) := (Below.refl _ _).alloc (Nat.le_refl _) _
   have hb67 : Below w5.heap.size w5 (w6.alloc (.cells #[.bool false, .slice (some ⟨w5.heap.size + 1, 0, none⟩) 1 1, .bool false, .slice none 0 0] 45)) := ((Below.refl _ w5).drew.trans hb6).trans (hb7.mono hb6.size)
   have HAM := Lib.hid (AlikeMats_c 2 1 2 1 (some ⟨b, 0, none⟩) (some ⟨w6.heap.size, 0, none⟩) 2 2 2 2 [2, 0] [2, 0] _ (HR5.out.below hb67).lsN hrw.lsN rfl rfl (by omega) (by omega) (by intro x hx; simp at hx; rcases hx with rfl | rfl <;> exact Nat.le_trans (wlen_le_of_lt (k := 1) (by decide)) (by omega)) (by intro x hx; simp at hx; rcases hx with rfl | rfl <;> exact Nat.le_trans (wlen_le_of_lt (k := 1) (by decide)) (by omega)))
   have HB7 := Lib.hid (HB5.out.trans (hb67.mono HB5.out.size))
   clear hrw hb7 hb67
   refine wpAny_ready (rs := [8]) (by kernel_rfl) (by simp) ?_
   refine AllReady.cons rfl (fun K hK => ?_) AllReady.nil
   go_simp
   go_wp2_with (first | (go_at_call 14; refine HAM.out.mono ?_; rintro e w8 ⟨rfl, hb8⟩))
   refine wpAny_take (i := 9) (v := ?_) rfl (by kernel_rfl) (by kernel_rfl) (by kernel_rfl) (fun _ _ _ h => h) (Or.inl ⟨by kernel_rfl, ?_⟩) ?_
   rotate_left
   · intro w; go_simp; try (with_reducible rfl)
   refine wpAny_take (i := 10) (v := ?_) rfl (by kernel_rfl) (by kernel_rfl) (by kernel_rfl) (fun _ _ _ h => h) (Or.inl ⟨by kernel_rfl, ?_⟩) ?_
   rotate_left
   · intro w; go_simp; try (with_reducible rfl)
   refine wpAny_done (by kernel_rfl) ?_ _
   go_simp
   have HB8 := Lib.hid (HB7.out.trans (hb8.mono HB7.out.size))
   go_wp2
   go_ret
   exact ⟨rfl, HB8.out⟩
 · go_simp
   go_wp2_with (first | (go_at_call 21; refine (Of18_c 2 _ (by omega) (by decide)).mono ?_; rintro e w6 ⟨⟨rfl, h2⟩, hb6⟩; have H2 := Lib.hid h2; clear h2; have hs6 : w4.heap.size < w6.heap.size := Nat.lt_of_lt_of_le hs5 hb6.size; have y0 := (hb6.cell (p := ⟨w4.heap.size, 0, none⟩) hs5).trans z0; have y1 := (hb6.cell (p := ⟨w4.heap.size, 1, none⟩) hs5).trans z1; have y2 := (hb6.cell (p := ⟨w4.heap.size, 2, none⟩) hs5).trans z2))
   refine wpAny_ready (rs := [3, 6]) (by kernel_rfl) (by simp) ?_
   refine AllReady.cons rfl (fun K hK => ?_) (AllReady.cons rfl (fun K hK => ?_) AllReady.nil)
   · go_simp
     refine hK _ _ ?_
     clear hK K
     refine wpAny_ready (rs := [6]) (by kernel_rfl) (by simp) ?_
     refine AllReady.cons rfl (fun K hK => ?_) AllReady.nil
     go_simp
     refine hK _ _ ?_
     clear hK K
     refine wpAny_take (i := 7) (v := ?_) rfl (by kernel_rfl) (by kernel_rfl) (by kernel_rfl) (fun _ _ _ h => h) (Or.inl ⟨by kernel_rfl, ?_⟩) ?_
     rotate_left
     · intro w; go_simp; try (with_reducible rfl)
     have hrw := row2 (p := (false, some ⟨w5.heap.size + 1, 0, none⟩, 1, 1)) (q := p0) H2.out (NumAt.zero w6)
     have hb7 : Below w6.heap.size w6 (w6.alloc (.cells #[.bool false, .slice (some ⟨w5.heap.size + 1, 0, none⟩) 1 1, .bool false, .slice none 0 0] 45)) := (Below.refl _ _).alloc (Nat.le_refl _) _
     have hb67 : Below w5.heap.size w5 (w6.alloc (.cells #[.bool false, .slice (some ⟨w5.heap.size + 1, 0, none⟩) 1 1, .bool false, .slice none 0 0] 45)) := ((Below.refl _ w5).drew.trans hb6).trans (hb7.mono hb6.size)
     have HAM := Lib.hid (AlikeMats_c 2 1 2 1 (some ⟨b, 0, none⟩) (some ⟨w6.heap.size, 0, none⟩) 2 2 2 2 [2, 0] [2, 0] _ (HR5.out.below hb67).lsN hrw.lsN rfl rfl (by omega) (by omega) (by intro x hx; simp at hx; rcases hx with rfl | rfl <;> exact Nat.le_trans (wlen_le_of_lt (k := 1) (by decide)) (by omega)) (by intro x hx; simp at hx; rcases hx with rfl | rfl <;> exact Nat.le_trans (wlen_le_of_lt (k := 1) (by decide)) (by omega)))
     have HB7 := Lib.hid (HB5.out.trans (hb67.mono HB5.out.size))
     clear hrw hb7 hb67
     refine wpAny_ready (rs := [8]) (by kernel_rfl) (by simp) ?_
     refine AllReady.cons rfl (fun K hK => ?_) AllReady.nil
     go_simp
     go_wp2_with (first | (go_at_call 14; refine HAM.out.mono ?_; rintro e w8 ⟨rfl, hb8⟩))
     refine wpAny_take (i := 9) (v := ?_) rfl (by kernel_rfl) (by kernel_rfl) (by kernel_rfl) (fun _ _ _ h => h) (Or.inl ⟨by kernel_rfl, ?_⟩) ?_
     rotate_left
     · intro w; go_simp; try (with_reducible rfl)
     refine wpAny_take (i := 10) (v := ?_) rfl (by kernel_rfl) (by kernel_rfl) (by kernel_rfl) (fun _ _ _ h => h) (Or.inl ⟨by kernel_rfl, ?_⟩) ?_
     rotate_left
     · intro w; go_simp; try (with_reducible rfl)
     refine wpAny_done (by kernel_rfl) ?_ _
     go_simp
     have HB8 := Lib.hid (HB7.out.trans (hb8.mono HB7.out.size))
     go_wp2
     go_ret
     exact ⟨rfl, HB8.out⟩
   · go_simp
     refine hK _ _ ?_
     clear hK K
     refine wpAny_take (i := 7) (v := ?_) rfl (by kernel_rfl) (by kernel_rfl) (by kernel_rfl) (fun _ _ _ h => h) (Or.inl ⟨by kernel_rfl, ?_⟩) ?_
     rotate_left
     · intro w; go_simp; try (with_reducible rfl)
     refine wpAny_ready (rs := [3]) (by kernel_rfl) (by simp) ?_
     refine AllReady.cons rfl (fun K hK => ?_) AllReady.nil
     go_simp
     refine hK _ _ ?_
     clear hK K
     have hrw := row2 (p := (false, some ⟨w5.heap.size + 1, 0, none⟩, 1, 1)) (q := p0) H2.out (NumAt.zero w6)
     have hb7 : Below w6.heap.size w6 (w6.alloc (.cells #[.bool false, .slice (some ⟨w5.heap.size + 1, 0, none⟩) 1 1, .bool false, .slice none 0 0] 45)) := (Below.refl _ _).alloc (Nat.le_refl _) _
     have hb67 : Below w5.heap.size w5 (w6.alloc (.cells #[.bool false, .slice (some ⟨w5.heap.size + 1, 0, none⟩) 1 1, .bool false, .slice none 0 0] 45)) := ((Below.refl _ w5).drew.trans hb6).trans (hb7.mono hb6.size)
     have HAM := Lib.hid (AlikeMats_c 2 1 2 1 (some ⟨b, 0, none⟩) (some ⟨w6.heap.size, 0, none⟩) 2 2 2 2 [2, 0] [2, 0] _ (HR5.out.below hb67).lsN hrw.lsN rfl rfl (by omega) (by omega) (by intro x hx; simp at hx; rcases hx with rfl | rfl <;> exact Nat.le_trans (wlen_le_of_lt (k := 1) (by decide)) (by omega)) (by intro x hx; simp at hx; rcases hx with rfl | rfl <;> exact Nat.le_trans (wlen_le_of_lt (k := 1) (by decide)) (by omega)))
     have HB7 := Lib.hid (HB5.out.trans (hb67.mono HB5.out.size))
     clear hrw hb7 hb67
     refine wpAny_ready (rs := [8]) (by kernel_rfl) (by simp) ?_
     refine AllReady.cons rfl (fun K hK => ?_) AllReady.nil
     go_simp
     go_wp2_with (first | (go_at_call 14; refine HAM.out.mono ?_; rintro e w8 ⟨rfl, hb8⟩))
     refine wpAny_take (i := 9) (v := ?_) rfl (by kernel_rfl) (by kernel_rfl) (by kernel_rfl) (fun _ _ _ h => h) (Or.inl ⟨by kernel_rfl, ?_⟩) ?_
     rotate_left
     · intro w; go_simp; try (with_reducible rfl)
     refine wpAny_take (i := 10) (v := ?_) rfl (by kernel_rfl) (by kernel_rfl) (by kernel_rfl) (fun _ _ _ h => h) (Or.inl ⟨by kernel_rfl, ?_⟩) ?_
     rotate_left
     · intro w; go_simp; try (with_reducible rfl)
     refine wpAny_done (by kernel_rfl) ?_ _
     go_simp
     have HB8 := Lib.hid (HB7.out.trans (hb8.mono HB7.out.size))
     go_wp2
     go_ret
     exact ⟨rfl, HB8.out⟩
structure Stp where
 kind : Int
 i : Int
 j : Int
 K : Int
def StpAt (w : World) (L : Nat) (ao : Option Addr) (ss : List Stp) : Prop :=
 0 < ss.length -> ∃ b o, ao = some ⟨b, o, none⟩ /\ b < w.heap.size /\ ∀ k (h : k < ss.length), ∃ p : P4, w.cell? ⟨b, o + k * 5, none⟩ = some (.int .i64 ss[k].kind) /\ w.cell? ⟨b, o + k * 5 + 1, none⟩ = some (.int .i64 ss[k].i) /\ w.cell? ⟨b, o + k * 5 + 2, none⟩ = some (.int .i64 ss[k].j) /\ w.cell? ⟨b, o + k * 5 + 3, none⟩ = some (.bool p.1) /\ w.cell? ⟨b, o + k * 5 + 4, none⟩ = some (.slice p.2.1 p.2.2.1 p.2.2.2) /\ IntAt w L (av p) ss[k].K
theorem StpAt.below {w w' : World} {L : Nat} {ao : Option Addr} {ss : List Stp} (h : StpAt w L ao ss) (hb : Below w.heap.size w w') : StpAt w' L ao ss := by
 intro hl
 obtain ⟨b, o, e, hlt, hc⟩ := h hl
 refine ⟨b, o, e, Nat.lt_of_lt_of_le hlt hb.size, fun k hk => ?_⟩
 obtain ⟨p, h0, h1, h2, h3, h4, hn⟩ := hc k hk
 exact ⟨p, (hb.cell (p := ⟨b, o + k * 5, none⟩) hlt).trans h0, (hb.cell (p := ⟨b, o + k * 5 + 1, none⟩) hlt).trans h1, (hb.cell (p := ⟨b, o + k * 5 + 2, none⟩) hlt).trans h2, (hb.cell (p := ⟨b, o + k * 5 + 3, none⟩) hlt).trans h3, (hb.cell (p := ⟨b, o + k * 5 + 4, none⟩) hlt).trans h4, hn.below hb⟩
theorem RowN.num {w : World} {b : Nat} {xs : List Int} (h : RowN w b xs) (i : Nat) (p : P4) {v : Value} {y : Int} (hv : NumAt w v y) : NumAt ((w.setCell ⟨b, i * 2, none⟩ (.bool p.1)).setCell ⟨b, i * 2 + 1, none⟩ (.slice p.2.1 p.2.2.1 p.2.2.2)) v y := by
 obtain ⟨ps, hr, _⟩ := h
 exact (hv.setRow hr (NoW_flat ps) (i * 2) (.bool p.1)).setRow (hr.set (i * 2) (.bool p.1)) ((NoW_flat ps).set _ (by simp)) (i * 2 + 1) _
def kbd (ss : List Stp) : Nat -> Nat
 | 0 => 0
 | k + 1 => kbd ss k + wlen ((ss.getD k ⟨0, 0, 0, 0⟩).K.natAbs) + 1
theorem kbd_mono (ss : List Stp) {s t : Nat} (h : s <= t) : kbd ss s <= kbd ss t := by
 induction h with
 | refl => exact Nat.le_refl _
 | step _ ih => exact Nat.le_trans ih (Nat.le_trans (Nat.le_add_right _ _) (Nat.le_succ _))
def umod (x : Int) (n : Nat) : Nat := (x % 18446744073709551616 % (n : Int)).toNat
theorem umod_lt (x : Int) {n : Nat} (h : 0 < n) : umod x n < n := by
 unfold umod
 have h1 := Int.emod_nonneg (x % 18446744073709551616) (show (n : Int) ≠ 0 by omega)
 have h2 := Int.emod_lt_of_pos (x % 18446744073709551616) (show (0 : Int) < n by omega)
 omega
theorem umod_ok (x : Int) {n : Nat} (h : 0 < n) (hn : n <= 64) : wrap64 ((IntKind.u64.wrap x).tmod (n : Int)) = (umod x n : Int) := by
 have h1 := umod_lt x h
 have h0 : 0 <= x % 18446744073709551616 := Int.emod_nonneg _ (by decide)
 have e : IntKind.u64.wrap x = x % 18446744073709551616 := by rw [IntKind.wrap_u64]
 rw [e, Int.tmod_eq_emod_of_nonneg h0]
 have e2 : x % 18446744073709551616 % (n : Int) = (umod x n : Int) := by
  unfold umod
  have := Int.emod_nonneg (x % 18446744073709551616) (show (n : Int) ≠ 0 by omega)
  omega
 rw [e2]
 unfold wrap64
 omega
set_option maxRecDepth 100000 in
set_option maxHeartbeats 4000000 in
theorem Moved_c (r c L m : Nat) (ao : Option Addr) (len cap : Nat) (xs : List Int) (so : Option Addr) (slen scap : Nat) (ss : List Stp) (w : World) (hr : r <= 64) (hc : c <= 64) (h : LsAt w L ao xs) (hL : L <= 549755813888) (hl : len = xs.length) (hs : xs.length = r * c)
 (hm : ∀ x ∈ xs, x.natAbs < W ^ m) (h2 : StpAt w L so ss) (hsl : slen = ss.length) (hsn : ss.length <= 8796093022208) (hkb : m + kbd ss ss.length <= 549755813888) :
 Calls Tryz.prog 12 #[.agg #[.int .i64 (r : Int), .int .i64 (c : Int), .slice ao len cap], .slice so slen scap] w fun e w' => (∃ b ys, e = .returned (.agg #[.int .i64 (r : Int), .int .i64 (c : Int), .slice (some ⟨b, 0, none⟩) (r * c) (r * c)]) /\ w.heap.size <= b /\ RowN w' b ys /\ ys.length = r * c /\ SpEq r (matE xs r c) r (matE ys r c) /\ ∀ y ∈ ys, y.natAbs < W ^ (m + kbd ss ss.length)) /\ Below w.heap.size w w' := by
 subst hl hsl
 obtain ⟨r1, r2, hb⟩ := two_new w #[.int .i64 (r : Int), .int .i64 (c : Int), .slice ao xs.length cap] #[.int .i64 0, .int .i64 0, .slice none 0 0] 24 24
 have HM := Lib.hid (M9Least_c r c ao xs.length cap L xs _ hr hc (h.below hb) (by omega) rfl hs)
 have R2 := Lib.hid r2
 have HST := Lib.hid h2
 have HB := Lib.hid hb
 have e0 := r1.cell 0
 have e1 := r1.cell 1
 have e2 := r1.cell 2
 have HS := Lib.hid (And.intro hs (And.intro hm (And.intro hL hkb)))
 clear h h2 hL hs hm hkb hb r2 r1
 go_enter Tryz.func12, Tryz.ntmps12
 go_wp2_with fail
 generalize (w.alloc (.cells #[.int .i64 (r : Int), .int .i64 (c : Int), .slice ao xs.length cap] 24)).alloc (.cells #[.int .i64 0, .int .i64 0, .slice none 0 0] 24) = w2 at *
 have hs2 : w.heap.size + 1 < w2.heap.size := R2.out.lt
 refine HM.out.mono ?_
 rintro e w3 ⟨⟨b, rfl, hbb, hR⟩, hb3⟩
 have HR3 := Lib.hid hR
 have HB3 := Lib.hid (HB.out.trans (hb3.mono HB.out.size))
 have R23 := Lib.hid (R2.out.below hb3 R2.out.lt)
 have hs3 := hb3.size
 clear hR hb3 e0 e1 e2 HM R2 HB
 have rM := RowAt.new w3 #[.int .i64 (r : Int), .int .i64 (c : Int), .slice (some ⟨b, 0, none⟩) (r * c) (r * c)] 24
 have hb4 : Below w3.heap.size w3 (w3.alloc (.cells #[.int .i64 (r : Int), .int .i64 (c : Int), .slice (some ⟨b, 0, none⟩) (r * c) (r * c)] 24)) := (Below.refl _ _).alloc (Nat.le_refl _) _
 go_wp2
 generalize w3.alloc (.cells #[.int .i64 (r : Int), .int .i64 (c : Int), .slice (some ⟨b, 0, none⟩) (r * c) (r * c)] 24) = w4 at *
 have hs4 : w3.heap.size < w4.heap.size := rM.lt
 have HR4 := Lib.hid (HR3.out.below hb4)
 have HB4 := Lib.hid (HB3.out.trans (hb4.mono HB3.out.size))
 have R24 := Lib.hid (R23.out.below hb4 R23.out.lt)
 have RM := Lib.hid rM
 clear HR3 HB3 R23 rM hb4
 go_loopw [8] (fun s_ wr => ∃ (s : Nat) (ys : List Int), s <= ss.length /\ s_ = .int .i64 (s : Int) /\ ys.length = r * c /\ Hid (RowN wr b ys) /\ Hid (SpEq r (matE xs r c) r (matE ys r c)) /\ Hid (∀ y ∈ ys, y.natAbs < W ^ (m + kbd ss s)) /\ Hid (RowAt wr (w.heap.size + 1) 24 [.int .i64 0, .int .i64 0, .slice none 0 0]) /\ Hid (RowAt wr w3.heap.size 24 [.int .i64 (r : Int), .int .i64 (c : Int), .slice (some ⟨b, 0, none⟩) (r * c) (r * c)]) /\ Hid (Below w.heap.size w wr)) (fun s_ _ => ss.length - (intOf s_).toNat)
 case atStart => exact ⟨0, xs, Nat.zero_le _, rfl, HS.out.1, HR4, Lib.hid (SpEq.refl _ _), Lib.hid HS.out.2.1, R24, RM, HB4⟩
 case round =>
  obtain ⟨s, ys, hs, rfl, hyl, hR, hSp, hbd, hr2, hrm, hB⟩ := hrel
  by_cases hss : s < ss.length
  · by_cases hr0 : 0 < r
    · have hss1 : (s : Int) < (ss.length : Int) := by omega
      have hr01 : (0 : Int) < (r : Int) := by omega
      obtain ⟨bs, os, hso, hbsw, hcs⟩ := HST.out (by omega)
      subst hso
      obtain ⟨p, G0, G1, G2, G3, G4, hK⟩ := hcs s hss
      have g0 := (hB.out.cell (p := ⟨bs, os + s * 5, none⟩) hbsw).trans G0
      have g1 := (hB.out.cell (p := ⟨bs, os + s * 5 + 1, none⟩) hbsw).trans G1
      have g2 := (hB.out.cell (p := ⟨bs, os + s * 5 + 2, none⟩) hbsw).trans G2
      have g3 := (hB.out.cell (p := ⟨bs, os + s * 5 + 3, none⟩) hbsw).trans G3
      have g4 := (hB.out.cell (p := ⟨bs, os + s * 5 + 4, none⟩) hbsw).trans G4
      have hbs : bs < wr.heap.size := Nat.lt_of_lt_of_le hbsw hB.out.size
      have HG0 := Lib.hid G0
      clear G0 G1 G2 G3 G4
      clear hcs
      obtain ⟨i, hi⟩ : ∃ i, umod ss[s].i r = i := ⟨_, rfl⟩
      obtain ⟨j, hj⟩ : ∃ j, umod ss[s].j r = j := ⟨_, rfl⟩
      have hir : i < r := by rw [<- hi]; exact umod_lt _ hr0
      have hjr : j < r := by rw [<- hj]; exact umod_lt _ hr0
      have HI := Lib.hid (umod_ok ss[s].i hr0 hr)
      have HJ := Lib.hid (umod_ok ss[s].j hr0 hr)
      rw [hi] at HI
      rw [hj] at HJ
      obtain ⟨K, hKe⟩ : ∃ K, ss[s].K = K := ⟨_, rfl⟩
      rw [hKe] at hK
      have HK := Lib.hid (And.intro hKe hK)
      have rK := RowAt.new wr #[.bool p.1, .slice p.2.1 p.2.2.1 p.2.2.2] 45
      have hb5 : Below wr.heap.size wr (wr.alloc (.cells #[.bool p.1, .slice p.2.1 p.2.2.1 p.2.2.2] 45)) := (Below.refl _ _).alloc (Nat.le_refl _) _
      clear hi hj hK hKe
      go_wp2
      rw [HI.out, HJ.out]
      generalize wr.alloc (.cells #[.bool p.1, .slice p.2.1 p.2.2.1 p.2.2.2] 45) = w5 at *
      have hbo : b < wr.heap.size := hR.out.lt
      have RK5 := Lib.hid rK
      have HR5 := Lib.hid (hR.out.below hb5)
      have hr25 := Lib.hid (hr2.out.below hb5 hr2.out.lt)
      have hrm5 := Lib.hid (hrm.out.below hb5 hrm.out.lt)
      have hB5 := Lib.hid (hB.out.trans (hb5.mono hB.out.size))
      have HK5 := HK
      obtain ⟨ev, hev⟩ : ∃ ev, decide (ss[s].kind.tmod 2 = 0) = ev := ⟨_, rfl⟩
      have HEV := Lib.hid hev
      clear hR hr2 hrm hB rK hb5 g0 g1 g2 g3 g4 hev
      generalize wr.heap.size = wb at *
      go_loopw [12] (fun d_ wq => ∃ (d : Nat) (zs : List Int), d <= c /\ d_ = .int .i64 (d : Int) /\ zs.length = r * c /\ Hid (RowN wq b zs) /\ Hid (∀ a b', matE zs r c a b' = if b' < d then mvE i j ev K (matE ys r c) a b' else matE ys r c a b') /\ Hid (RowAt wq (w.heap.size + 1) 24 [.int .i64 0, .int .i64 0, .slice none 0 0]) /\ Hid (RowAt wq w3.heap.size 24 [.int .i64 (r : Int), .int .i64 (c : Int), .slice (some ⟨b, 0, none⟩) (r * c) (r * c)]) /\ Hid (RowAt wq wb 45 [.bool p.1, .slice p.2.1 p.2.2.1 p.2.2.2]) /\ Hid (Below w.heap.size w wq)) (fun d_ _ => c - (intOf d_).toNat)
      case atStart => exact ⟨0, ys, Nat.zero_le _, rfl, hyl, HR5, Lib.hid (fun a b' => by rw [if_neg (by omega)]), hr25, hrm5, RK5, hB5⟩
      case round =>
       obtain ⟨d, zs, hd, rfl, hzl, hR, hE, hr2, hrm, hrk, hB⟩ := hrel
       by_cases hdc : d < c
       · have hdc1 : (d : Int) < (c : Int) := by omega
         have m0 := hrm.out.cell 0
         have m1 := hrm.out.cell 1
         have m2 := hrm.out.cell 2
         simp only [List.getElem?_cons_zero, List.getElem?_cons_succ] at m0 m1 m2
         have hrc : r * c <= 4096 := Nat.mul_le_mul hr hc
         have hqi : i * c + d < r * c := idx_lt hir hdc
         have hqj : j * c + d < r * c := idx_lt hjr hdc
         obtain ⟨pi, a0, a1, hni⟩ := hR.out.get (i := i * c + d) (by omega)
         obtain ⟨pj, b0, b1, hnj⟩ := hR.out.get (i := j * c + d) (by omega)
         obtain ⟨Pi, hPi⟩ : ∃ P, i * c = P := ⟨_, rfl⟩
         obtain ⟨Pj, hPj⟩ : ∃ P, j * c = P := ⟨_, rfl⟩
         have hw1 : IntKind.i64.wrap ((i : Int) * (c : Int)) = (Pi : Int) := by
          rw [<- Int.natCast_mul, hPi]; exact wrap_small (by omega) (by omega)
         have hw2 : IntKind.i64.wrap ((j : Int) * (c : Int)) = (Pj : Int) := by
          rw [<- Int.natCast_mul, hPj]; exact wrap_small (by omega) (by omega)
         have hxe : zs[i * c + d]'(by omega) = matE zs r c i d := by
          rw [matE_eq hir hdc, List.getD_eq_getElem?_getD, List.getElem?_eq_getElem (by omega)]; rfl
         have hye : zs[j * c + d]'(by omega) = matE zs r c j d := by
          rw [matE_eq hjr hdc, List.getD_eq_getElem?_getD, List.getElem?_eq_getElem (by omega)]; rfl
         rw [hxe] at hni
         rw [hye] at hnj
         rw [hPi] at a0 a1 hqi
         rw [hPj] at b0 b1 hqj
         obtain ⟨qi, hqi'⟩ : ∃ q, Pi + d = q := ⟨_, rfl⟩
         obtain ⟨qj, hqj'⟩ : ∃ q, Pj + d = q := ⟨_, rfl⟩
         rw [hqi'] at a0 a1 hqi
         rw [hqj'] at b0 b1 hqj
         have hv1 : IntKind.i64.wrap ((Pi : Int) + (d : Int)) = (qi : Int) := by
          rw [<- Int.natCast_add, hqi']; exact wrap_small (by omega) (by omega)
         have hv2 : IntKind.i64.wrap ((Pj : Int) + (d : Int)) = (qj : Int) := by
          rw [<- Int.natCast_add, hqj']; exact wrap_small (by omega) (by omega)
         have hbl : b < wr.heap.size := hR.out.lt
         have hml : w3.heap.size < wr.heap.size := hrm.out.lt
         have hrl : w.heap.size + 1 < wr.heap.size := hr2.out.lt
         have hbsl : bs < wr.heap.size := Nat.lt_of_lt_of_le hbsw hB.out.size
         have hbm : b ≠ w3.heap.size := fun e => by
          obtain ⟨ps, hp, _⟩ := hR.out
          exact hp.ne hrm.out (by decide) e
         have hbr : b ≠ w.heap.size + 1 := fun e => by
          obtain ⟨ps, hp, _⟩ := hR.out
          exact hp.ne hr2.out (by decide) e
         have hbbs : b ≠ bs := by omega
         have hfr : ∀ o, wr.frozen? ⟨b, o, none⟩ = false := fun o => by obtain ⟨ps, hp, _⟩ := hR.out; exact hp.free o
         have fi0 := hfr (qi * 2)
         have fi1 := hfr (qi * 2 + 1)
         have fj0 := hfr (qj * 2)
         have fj1 := hfr (qj * 2 + 1)
         have hqq : i ≠ j -> qi ≠ qj := fun hne e => hne (flat_inj (i := i) (j := d) (a := j) (b := d) (c := c) hdc hdc (by omega)).1
         clear hfr
         have hqi1 : (qi : Int) < ((r * c : Nat) : Int) := by omega
         have hqj1 : (qj : Int) < ((r * c : Nat) : Int) := by omega
         obtain ⟨xi, hxi⟩ : ∃ x, matE zs r c i d = x := ⟨_, rfl⟩
         obtain ⟨xj, hxj⟩ : ∃ x, matE zs r c j d = x := ⟨_, rfl⟩
         rw [hxi] at hni
         rw [hxj] at hnj
         have HNI := Lib.hid (And.intro hxi hni)
         have HNJ := Lib.hid (And.intro hxj hnj)
         have HQ := Lib.hid (And.intro (And.intro hPi hqi') (And.intro hPj hqj'))
         clear hxe hye hxi hxj hni hnj hPi hPj hqi' hqj'
         have HWB := Lib.hid (show ∀ a, wlen (matE zs r c a d).natAbs <= 549755813888 from fun a => by rw [hE.out, if_neg (Nat.lt_irrefl _)]; exact Nat.le_trans (wlen_le_of_lt (matE_bound (Nat.pow_pos (by decide)) hbd.out a d)) (Nat.le_trans (Nat.add_le_add_left (kbd_mono ss hs) m) HS.out.2.2.2))
         by_cases hij : i = j
         · skip
           have hij1 : ((i : Int) == (j : Int)) = true := by simp [hij]
           have HIJ := Lib.hid hij
           clear hij
           obtain ⟨rx, ry, hb1⟩ := two_new wr #[.bool pi.1, .slice pi.2.1 pi.2.2.1 pi.2.2.2] #[.bool pj.1, .slice pj.2.1 pj.2.2.1 pj.2.2.2] 45 45
           have X2 := Lib.hid (hR.out.below hb1)
           have M2 := Lib.hid (hrm.out.below hb1 hml)
           have S2 := Lib.hid (hr2.out.below hb1 hrl)
           have k2' := hrk.out.below hb1 hrk.out.lt
           have HKL := Lib.hid hrk.out.lt
           have KR := Lib.hid k2'
           have B2 := Lib.hid (hB.out.trans (hb1.mono hB.out.size))
           have NX := Lib.hid ((HNI.out.2.below hb1).int (show wlen xi.natAbs <= 549755813888 by have := HWB.out i; rw [HNI.out.1] at this; exact this))
           have NY := Lib.hid ((HNJ.out.2.below hb1).int (show wlen xj.natAbs <= 549755813888 by have := HWB.out j; rw [HNJ.out.1] at this; exact this))
           have KK := Lib.hid ((HK.out.2.below B2.out).mono HS.out.2.2.1)
           have RX := Lib.hid rx
           have RY := Lib.hid ry
           have hsz := ry.lt
           have hqi2 : (qi : Int) < (r : Int) * (c : Int) := by rw [<- Int.natCast_mul]; exact hqi1
           clear hR hrm hr2 hrk hB hb1 rx ry k2'
           go_wp2
           generalize (wr.alloc (.cells #[.bool pi.1, .slice pi.2.1 pi.2.2.1 pi.2.2.2] 45)).alloc (.cells #[.bool pj.1, .slice pj.2.1 pj.2.2.1 pj.2.2.2] 45) = w2 at *
           clear a0 a1 b0 b1 m0 m1 m2 fi0 fi1 fj0 fj1
           have cm2 : w2.cell? ⟨w3.heap.size, 2, none⟩ = some (.slice (some ⟨b, 0, none⟩) (r * c) (r * c)) := M2.out.cell 2
           have cm1 : w2.cell? ⟨w3.heap.size, 1, none⟩ = some (.int .i64 (c : Int)) := M2.out.cell 1
           have cx0 : w2.cell? ⟨wr.heap.size, 0, none⟩ = some (.bool pi.1) := RX.out.cell 0
           have cx1 : w2.cell? ⟨wr.heap.size, 1, none⟩ = some (.slice pi.2.1 pi.2.2.1 pi.2.2.2) := RX.out.cell 1
           refine wp_region_K ⟨11, fun q_ => [100, 101, 102, 103, 104, 105, 106, 107, 108, 109, 110].getD q_ 0,
            fun q_ => [.val (.pointer (some ⟨w3.heap.size, 2, none⟩)), .val (.slice (some ⟨b, 0, none⟩) (r * c) (r * c)), .val (.int .i64 (i : Int)), .val (.pointer (some ⟨w3.heap.size, 1, none⟩)), .val (.int .i64 (c : Int)), .val (.int .i64 (Pi : Int)), .val (.int .i64 (d : Int)), .val (.int .i64 (qi : Int)), .val (.agg #[.bool pi.1, .slice pi.2.1 pi.2.2.1 pi.2.2.2]), .int 0 (-xi), .val (.pointer (some ⟨b, qi * 2, none⟩))].getD q_ .any,
            [],
            [(.agg #[.bool pi.1, .slice pi.2.1 pi.2.2.1 pi.2.2.2], .at_ 549755813888 xi)],
            [],
            [], [(⟨w3.heap.size, 2, none⟩, .slice (some ⟨b, 0, none⟩) (r * c) (r * c)), (⟨w3.heap.size, 1, none⟩, .int .i64 (c : Int)), (⟨wr.heap.size, 0, none⟩, .bool pi.1), (⟨wr.heap.size, 1, none⟩, .slice pi.2.1 pi.2.2.1 pi.2.2.2)], []⟩ [100, 101, 102, 103, 104, 105, 106, 107, 108, 109, 110] (w2.heap.size) (by kernel_rfl) (by kernel_rfl) (by kernel_rfl) (by kernel_rfl) (by kernel_rfl) ?_ ?_ ?_ ?_ ?_ ?_
           · intro p hp
             rcases mc hp with rfl | hp
             · exact NX.out
             cases hp
           · intro p hp
             cases hp
           · intro p hp
             rcases mc hp with rfl | hp
             · refine ⟨cm2, by show w3.heap.size < w2.heap.size; omega, ?_⟩
               intro t ht
               cases ht
             rcases mc hp with rfl | hp
             · refine ⟨cm1, by show w3.heap.size < w2.heap.size; omega, ?_⟩
               intro t ht
               cases ht
             rcases mc hp with rfl | hp
             · refine ⟨cx0, by show wr.heap.size < w2.heap.size; omega, ?_⟩
               intro t ht
               cases ht
             rcases mc hp with rfl | hp
             · refine ⟨cx1, by show wr.heap.size < w2.heap.size; omega, ?_⟩
               intro t ht
               cases ht
             cases hp
           · intro t ht
             cases ht
           · refine allc ?_ (allc ?_ (allc ?_ (allc ?_ (allc ?_ (allc ?_ (allc ?_ (allc ?_ (allc ?_ (allc ?_ (allc ?_ alln))))))))))
             · intro L fx w' hJ hL hp hcl
               refine wpOp_step rfl (fun K hK => ?_)
               simp only [pN, Nat.reduceEqDiff, ↓reduceIte]
               go_simp
               exact hK _ _ ⟨_, by kernel_rfl, hJ.pC 0 rfl (by kernel_rfl) rfl (by omega)⟩
             · intro L fx w' hJ hL hp hcl
               have e0 := hJ.pt 0 100 (.pointer (some ⟨w3.heap.size, 2, none⟩)) rfl rfl rfl (hp 0 (by decide))
               rw [e0] at hJ ⊢; clear e0
               refine wpOp_step rfl (fun K hK => ?_)
               simp only [pN, Nat.reduceEqDiff, ↓reduceIte]
               have cl0 := (hJ.cells _ mm0).1
               try dsimp only at cl0
               go_simp
               exact hK _ _ ⟨_, by kernel_rfl, hJ.pC 1 rfl (by kernel_rfl) rfl (by omega)⟩
             · intro L fx w' hJ hL hp hcl
               refine wpOp_step rfl (fun K hK => ?_)
               simp only [pN, Nat.reduceEqDiff, ↓reduceIte]
               go_simp
               exact hK _ _ ⟨_, by kernel_rfl, hJ.pC 2 rfl (by kernel_rfl) rfl (by omega)⟩
             · intro L fx w' hJ hL hp hcl
               refine wpOp_step rfl (fun K hK => ?_)
               simp only [pN, Nat.reduceEqDiff, ↓reduceIte]
               go_simp
               exact hK _ _ ⟨_, by kernel_rfl, hJ.pC 3 rfl (by kernel_rfl) rfl (by omega)⟩
             · intro L fx w' hJ hL hp hcl
               have e3 := hJ.pt 3 103 (.pointer (some ⟨w3.heap.size, 1, none⟩)) rfl rfl rfl (hp 3 (by decide))
               rw [e3] at hJ ⊢; clear e3
               refine wpOp_step rfl (fun K hK => ?_)
               simp only [pN, Nat.reduceEqDiff, ↓reduceIte]
               have cl0 := (hJ.cells _ mm1).1
               try dsimp only at cl0
               go_simp
               exact hK _ _ ⟨_, by kernel_rfl, hJ.pC 4 rfl (by kernel_rfl) rfl (by omega)⟩
             · intro L fx w' hJ hL hp hcl
               have e2 := hJ.pt 2 102 (.int .i64 (i : Int)) rfl rfl rfl (hp 2 (by decide))
               rw [e2] at hJ ⊢; clear e2
               have e4 := hJ.pt 4 104 (.int .i64 (c : Int)) rfl rfl rfl (hp 4 (by decide))
               rw [e4] at hJ ⊢; clear e4
               refine wpOp_step rfl (fun K hK => ?_)
               simp only [pN, Nat.reduceEqDiff, ↓reduceIte]
               go_simp
               exact hK _ _ ⟨_, by kernel_rfl, hJ.pC 5 rfl (by kernel_rfl) rfl (by omega)⟩
             · intro L fx w' hJ hL hp hcl
               refine wpOp_step rfl (fun K hK => ?_)
               simp only [pN, Nat.reduceEqDiff, ↓reduceIte]
               go_simp
               exact hK _ _ ⟨_, by kernel_rfl, hJ.pC 6 rfl (by kernel_rfl) rfl (by omega)⟩
             · intro L fx w' hJ hL hp hcl
               have e5 := hJ.pt 5 105 (.int .i64 (Pi : Int)) rfl rfl rfl (hp 5 (by decide))
               rw [e5] at hJ ⊢; clear e5
               have e6 := hJ.pt 6 106 (.int .i64 (d : Int)) rfl rfl rfl (hp 6 (by decide))
               rw [e6] at hJ ⊢; clear e6
               refine wpOp_step rfl (fun K hK => ?_)
               simp only [pN, Nat.reduceEqDiff, ↓reduceIte]
               go_simp
               exact hK _ _ ⟨_, by kernel_rfl, hJ.pC 7 rfl (by kernel_rfl) rfl (by omega)⟩
             · intro L fx w' hJ hL hp hcl
               refine wpOp_step rfl (fun K hK => ?_)
               simp only [pN, Nat.reduceEqDiff, ↓reduceIte]
               have cl0 := (hJ.cells _ mm2).1
               have cl1 := (hJ.cells _ mm3).1
               try dsimp only at cl0 cl1
               go_simp
               exact hK _ _ ⟨_, by kernel_rfl, hJ.pC 8 rfl (by kernel_rfl) rfl (by omega)⟩
             · intro L fx w' hJ hL hp hcl
               have e8 := hJ.pt 8 108 (.agg #[.bool pi.1, .slice pi.2.1 pi.2.2.1 pi.2.2.2]) rfl rfl rfl (hp 8 (by decide))
               rw [e8] at hJ ⊢; clear e8
               refine wpOp_step rfl (fun K hK => ?_)
               simp only [pN, Nat.reduceEqDiff, ↓reduceIte]
               go_simp
               go_at_call 39
               refine (RNeg_c _ _ _ _ (show IntAt w' 549755813888 (.agg #[.bool pi.1, .slice pi.2.1 pi.2.2.1 pi.2.2.2]) _ from hJ.base _ mm0) (by decide)).mono ?_
               rintro e w4 ⟨⟨v5, rfl, h5⟩, hb4⟩
               try dsimp only
               exact hK _ _ ⟨_, by kernel_rfl, hJ.gC 9 rfl (by kernel_rfl) hb4 (OwnI.mono h5 (Nat.zero_le _)) (by omega)⟩
             · intro L fx w' hJ hL hp hcl
               have e1 := hJ.pt 1 101 (.slice (some ⟨b, 0, none⟩) (r * c) (r * c)) rfl rfl rfl (hp 1 (by decide))
               rw [e1] at hJ ⊢; clear e1
               have e7 := hJ.pt 7 107 (.int .i64 (qi : Int)) rfl rfl rfl (hp 7 (by decide))
               rw [e7] at hJ ⊢; clear e7
               refine wpOp_step rfl (fun K hK => ?_)
               simp only [pN, Nat.reduceEqDiff, ↓reduceIte]
               go_simp
               exact hK _ _ ⟨_, by kernel_rfl, hJ.pC 10 rfl (by kernel_rfl) rfl (by omega)⟩
           · intro L x' w9 hL hJ
             have hfr : Below w2.drew.heap.size w2.drew w9 := hJ.fr
             have e9 : OwnI w9 0 (x' 109) (-xi) := hJ.slot 9 (by show 9 < 11; decide) (hL 9 (by show 9 < 11; decide))
             have e10 : x' 110 = .pointer (some ⟨b, qi * 2, none⟩) := hJ.slot 10 (by show 10 < 11; decide) (hL 10 (by show 10 < 11; decide))
             obtain ⟨pz, hpz⟩ := NumAt.parts e9.num
             rw [hpz] at e9
             unfold av at hpz
             rw [patchX (x := x') (d := 109) hpz]
             rw [patchX (x := updX x' 109 (.agg #[.bool pz.1, .slice pz.2.1 pz.2.2.1 pz.2.2.2])) (d := 110) (v := .pointer (some ⟨b, qi * 2, none⟩)) e10]
             clear hJ hL cm2 cm1 cx0 cx1
             have X3 := Lib.hid (RowN.below (w := w2.drew) X2.out hfr)
             have M3 := RowAt.below (w := w2.drew) M2.out hfr M2.out.lt
             have S3 := RowAt.below (w := w2.drew) S2.out hfr S2.out.lt
             have K3 := RowAt.below (w := w2.drew) KR.out hfr KR.out.lt
             have B3 := B2.out.trans (((Below.refl w.heap.size w2).drew).trans (hfr.mono B2.out.size))
             have M4 := Lib.hid ((M3.other (p := ⟨b, qi * 2, none⟩) (Ne.symm hbm) (.bool pz.1)).other (p := ⟨b, qi * 2 + 1, none⟩) (Ne.symm hbm) (.slice pz.2.1 pz.2.2.1 pz.2.2.2))
             have S4 := Lib.hid ((S3.other (p := ⟨b, qi * 2, none⟩) (Ne.symm hbr) (.bool pz.1)).other (p := ⟨b, qi * 2 + 1, none⟩) (Ne.symm hbr) (.slice pz.2.1 pz.2.2.1 pz.2.2.2))
             have K4 := Lib.hid ((K3.other (p := ⟨b, qi * 2, none⟩) (show _ ≠ b by omega) (.bool pz.1)).other (p := ⟨b, qi * 2 + 1, none⟩) (show _ ≠ b by omega) (.slice pz.2.1 pz.2.2.1 pz.2.2.2))
             have B4 := Lib.hid ((B3.setCell (p := ⟨b, qi * 2, none⟩) (show w.heap.size <= b by omega) (.bool pz.1)).setCell (p := ⟨b, qi * 2 + 1, none⟩) (show w.heap.size <= b by omega) (.slice pz.2.1 pz.2.2.1 pz.2.2.2))
             have HR4 := Lib.hid (X3.out.set qi e9.num)
             have HE4 := Lib.hid (show ∀ a b', matE (zs.set qi (-xi)) r c a b' = if b' < d + 1 then mvE i j ev K (matE ys r c) a b' else matE ys r c a b' from by have e := HIJ.out; subst e; exact mv_neg hzl hir hdc hE.out (by rw [HQ.out.1.1]; exact HQ.out.1.2) HNI.out.1)
             clear M3 S3 K3 B3 e9
             obtain ⟨pq, q0, q1, _⟩ := X3.out.get (i := qi) (by omega)
             have q2 := X3.out.free (qi * 2)
             have q3 := X3.out.free (qi * 2 + 1)
             refine wpOp_step rfl (fun KK hKK => ?_)
             simp only [pN, Nat.reduceEqDiff, ↓reduceIte]
             go_simp
             refine hKK _ _ ⟨⟨updX (updX x' 109 (.agg #[.bool pz.1, .slice pz.2.1 pz.2.2.1 pz.2.2.2])) 110 (.pointer (some ⟨b, qi * 2, none⟩)), by kernel_rfl⟩, ?_⟩
             clear hKK q0 q1 q2 q3
             go_wp2
             go_roundw
             case rel => exact ⟨d + 1, zs.set qi (-xi), by omega, by go_num, by simp [hzl], HR4, HE4, S4, M4, K4, B4⟩
             case measure => simp [intOf]; omega
         · cases ev
           · skip
             have hij1 : ((i : Int) == (j : Int)) = false := by simp; omega
             have hk2 : (ss[s].kind.tmod 2 == 0) = false := by have := HEV.out; simpa using this
             have hk : wr.cell? ⟨bs, os + s * 5, none⟩ = some (.int .i64 ss[s].kind) := (hB.out.cell (p := ⟨bs, os + s * 5, none⟩) hbsw).trans HG0.out
             obtain ⟨rx, ry, hb1⟩ := two_new wr #[.bool pi.1, .slice pi.2.1 pi.2.2.1 pi.2.2.2] #[.bool pj.1, .slice pj.2.1 pj.2.2.1 pj.2.2.2] 45 45
             have X2 := Lib.hid (hR.out.below hb1)
             have M2 := Lib.hid (hrm.out.below hb1 hml)
             have S2 := Lib.hid (hr2.out.below hb1 hrl)
             have k2' := hrk.out.below hb1 hrk.out.lt
             have HKL := Lib.hid hrk.out.lt
             have KR := Lib.hid k2'
             have B2 := Lib.hid (hB.out.trans (hb1.mono hB.out.size))
             have NX := Lib.hid ((HNI.out.2.below hb1).int (show wlen xi.natAbs <= 549755813888 by have := HWB.out i; rw [HNI.out.1] at this; exact this))
             have NY := Lib.hid ((HNJ.out.2.below hb1).int (show wlen xj.natAbs <= 549755813888 by have := HWB.out j; rw [HNJ.out.1] at this; exact this))
             have KK := Lib.hid ((HK.out.2.below B2.out).mono HS.out.2.2.1)
             have RX := Lib.hid rx
             have RY := Lib.hid ry
             have hsz := ry.lt
             have hqi2 : (qi : Int) < (r : Int) * (c : Int) := by rw [<- Int.natCast_mul]; exact hqi1
             clear hR hrm hr2 hrk hB hb1 rx ry k2'
             go_wp2
             generalize (wr.alloc (.cells #[.bool pi.1, .slice pi.2.1 pi.2.2.1 pi.2.2.2] 45)).alloc (.cells #[.bool pj.1, .slice pj.2.1 pj.2.2.1 pj.2.2.2] 45) = w2 at *
             clear a0 a1 b0 b1 m0 m1 m2 fi0 fi1 fj0 fj1
             have cm2 : w2.cell? ⟨w3.heap.size, 2, none⟩ = some (.slice (some ⟨b, 0, none⟩) (r * c) (r * c)) := M2.out.cell 2
             have cm1 : w2.cell? ⟨w3.heap.size, 1, none⟩ = some (.int .i64 (c : Int)) := M2.out.cell 1
             have cx0 : w2.cell? ⟨wr.heap.size, 0, none⟩ = some (.bool pi.1) := RX.out.cell 0
             have cx1 : w2.cell? ⟨wr.heap.size, 1, none⟩ = some (.slice pi.2.1 pi.2.2.1 pi.2.2.2) := RX.out.cell 1
             clear hk hk2
             have cy0 : w2.cell? ⟨wr.heap.size + 1, 0, none⟩ = some (.bool pj.1) := RY.out.cell 0
             have cy1 : w2.cell? ⟨wr.heap.size + 1, 1, none⟩ = some (.slice pj.2.1 pj.2.2.1 pj.2.2.2) := RY.out.cell 1
             have ck0 := KR.out.cell 0
             have ck1 := KR.out.cell 1
             simp only [List.getElem?_cons_zero, List.getElem?_cons_succ] at ck0 ck1
             have hkl := HKL.out
             refine wp_region_K ⟨13, fun q_ => [83, 84, 85, 86, 87, 88, 89, 90, 91, 92, 93, 94, 95].getD q_ 0,
              fun q_ => [.val (.pointer (some ⟨w3.heap.size, 2, none⟩)), .val (.slice (some ⟨b, 0, none⟩) (r * c) (r * c)), .val (.int .i64 (i : Int)), .val (.pointer (some ⟨w3.heap.size, 1, none⟩)), .val (.int .i64 (c : Int)), .val (.int .i64 (Pi : Int)), .val (.int .i64 (d : Int)), .val (.int .i64 (qi : Int)), .val (.agg #[.bool p.1, .slice p.2.1 p.2.2.1 p.2.2.2]), .val (.agg #[.bool pj.1, .slice pj.2.1 pj.2.2.1 pj.2.2.2]), .val (.agg #[.bool pi.1, .slice pi.2.1 pi.2.2.1 pi.2.2.2]), .int 0 (K * xj + xi), .val (.pointer (some ⟨b, qi * 2, none⟩))].getD q_ .any,
              [],
              [(.agg #[.bool p.1, .slice p.2.1 p.2.2.1 p.2.2.2], .at_ 549755813888 K), (.agg #[.bool pj.1, .slice pj.2.1 pj.2.2.1 pj.2.2.2], .at_ 549755813888 xj), (.agg #[.bool pi.1, .slice pi.2.1 pi.2.2.1 pi.2.2.2], .at_ 549755813888 xi)],
              [],
              [], [(⟨w3.heap.size, 2, none⟩, .slice (some ⟨b, 0, none⟩) (r * c) (r * c)), (⟨w3.heap.size, 1, none⟩, .int .i64 (c : Int)), (⟨wr.heap.size, 0, none⟩, .bool pi.1), (⟨wr.heap.size, 1, none⟩, .slice pi.2.1 pi.2.2.1 pi.2.2.2), (⟨wb, 0, none⟩, .bool p.1), (⟨wb, 1, none⟩, .slice p.2.1 p.2.2.1 p.2.2.2), (⟨wr.heap.size + 1, 0, none⟩, .bool pj.1), (⟨wr.heap.size + 1, 1, none⟩, .slice pj.2.1 pj.2.2.1 pj.2.2.2)], []⟩ [83, 84, 85, 86, 87, 88, 89, 90, 91, 92, 93, 94, 95] (w2.heap.size) (by kernel_rfl) (by kernel_rfl) (by kernel_rfl) (by kernel_rfl) (by kernel_rfl) ?_ ?_ ?_ ?_ ?_ ?_
             · intro p hp
               rcases mc hp with rfl | hp
               · exact KK.out
               rcases mc hp with rfl | hp
               · exact NY.out
               rcases mc hp with rfl | hp
               · exact NX.out
               cases hp
             · intro p hp
               cases hp
             · intro p hp
               rcases mc hp with rfl | hp
               · refine ⟨cm2, by show w3.heap.size < w2.heap.size; omega, ?_⟩
                 intro t ht
                 cases ht
               rcases mc hp with rfl | hp
               · refine ⟨cm1, by show w3.heap.size < w2.heap.size; omega, ?_⟩
                 intro t ht
                 cases ht
               rcases mc hp with rfl | hp
               · refine ⟨cx0, by show wr.heap.size < w2.heap.size; omega, ?_⟩
                 intro t ht
                 cases ht
               rcases mc hp with rfl | hp
               · refine ⟨cx1, by show wr.heap.size < w2.heap.size; omega, ?_⟩
                 intro t ht
                 cases ht
               rcases mc hp with rfl | hp
               · refine ⟨ck0, by show wb < w2.heap.size; omega, ?_⟩
                 intro t ht
                 cases ht
               rcases mc hp with rfl | hp
               · refine ⟨ck1, by show wb < w2.heap.size; omega, ?_⟩
                 intro t ht
                 cases ht
               rcases mc hp with rfl | hp
               · refine ⟨cy0, by show wr.heap.size + 1 < w2.heap.size; omega, ?_⟩
                 intro t ht
                 cases ht
               rcases mc hp with rfl | hp
               · refine ⟨cy1, by show wr.heap.size + 1 < w2.heap.size; omega, ?_⟩
                 intro t ht
                 cases ht
               cases hp
             · intro t ht
               cases ht
             · refine allc ?_ (allc ?_ (allc ?_ (allc ?_ (allc ?_ (allc ?_ (allc ?_ (allc ?_ (allc ?_ (allc ?_ (allc ?_ (allc ?_ (allc ?_ alln))))))))))))
               · intro L fx w' hJ hL hp hcl
                 refine wpOp_step rfl (fun K hK => ?_)
                 simp only [pN, Nat.reduceEqDiff, ↓reduceIte]
                 go_simp
                 exact hK _ _ ⟨_, by kernel_rfl, hJ.pC 0 rfl (by kernel_rfl) rfl (by omega)⟩
               · intro L fx w' hJ hL hp hcl
                 have e0 := hJ.pt 0 83 (.pointer (some ⟨w3.heap.size, 2, none⟩)) rfl rfl rfl (hp 0 (by decide))
                 rw [e0] at hJ ⊢; clear e0
                 refine wpOp_step rfl (fun K hK => ?_)
                 simp only [pN, Nat.reduceEqDiff, ↓reduceIte]
                 have cl0 := (hJ.cells _ mm0).1
                 try dsimp only at cl0
                 go_simp
                 exact hK _ _ ⟨_, by kernel_rfl, hJ.pC 1 rfl (by kernel_rfl) rfl (by omega)⟩
               · intro L fx w' hJ hL hp hcl
                 refine wpOp_step rfl (fun K hK => ?_)
                 simp only [pN, Nat.reduceEqDiff, ↓reduceIte]
                 go_simp
                 exact hK _ _ ⟨_, by kernel_rfl, hJ.pC 2 rfl (by kernel_rfl) rfl (by omega)⟩
               · intro L fx w' hJ hL hp hcl
                 refine wpOp_step rfl (fun K hK => ?_)
                 simp only [pN, Nat.reduceEqDiff, ↓reduceIte]
                 go_simp
                 exact hK _ _ ⟨_, by kernel_rfl, hJ.pC 3 rfl (by kernel_rfl) rfl (by omega)⟩
               · intro L fx w' hJ hL hp hcl
                 have e3 := hJ.pt 3 86 (.pointer (some ⟨w3.heap.size, 1, none⟩)) rfl rfl rfl (hp 3 (by decide))
                 rw [e3] at hJ ⊢; clear e3
                 refine wpOp_step rfl (fun K hK => ?_)
                 simp only [pN, Nat.reduceEqDiff, ↓reduceIte]
                 have cl0 := (hJ.cells _ mm1).1
                 try dsimp only at cl0
                 go_simp
                 exact hK _ _ ⟨_, by kernel_rfl, hJ.pC 4 rfl (by kernel_rfl) rfl (by omega)⟩
               · intro L fx w' hJ hL hp hcl
                 have e2 := hJ.pt 2 85 (.int .i64 (i : Int)) rfl rfl rfl (hp 2 (by decide))
                 rw [e2] at hJ ⊢; clear e2
                 have e4 := hJ.pt 4 87 (.int .i64 (c : Int)) rfl rfl rfl (hp 4 (by decide))
                 rw [e4] at hJ ⊢; clear e4
                 refine wpOp_step rfl (fun K hK => ?_)
                 simp only [pN, Nat.reduceEqDiff, ↓reduceIte]
                 go_simp
                 exact hK _ _ ⟨_, by kernel_rfl, hJ.pC 5 rfl (by kernel_rfl) rfl (by omega)⟩
               · intro L fx w' hJ hL hp hcl
                 refine wpOp_step rfl (fun K hK => ?_)
                 simp only [pN, Nat.reduceEqDiff, ↓reduceIte]
                 go_simp
                 exact hK _ _ ⟨_, by kernel_rfl, hJ.pC 6 rfl (by kernel_rfl) rfl (by omega)⟩
               · intro L fx w' hJ hL hp hcl
                 have e5 := hJ.pt 5 88 (.int .i64 (Pi : Int)) rfl rfl rfl (hp 5 (by decide))
                 rw [e5] at hJ ⊢; clear e5
                 have e6 := hJ.pt 6 89 (.int .i64 (d : Int)) rfl rfl rfl (hp 6 (by decide))
                 rw [e6] at hJ ⊢; clear e6
                 refine wpOp_step rfl (fun K hK => ?_)
                 simp only [pN, Nat.reduceEqDiff, ↓reduceIte]
                 go_simp
                 exact hK _ _ ⟨_, by kernel_rfl, hJ.pC 7 rfl (by kernel_rfl) rfl (by omega)⟩
               · intro L fx w' hJ hL hp hcl
                 refine wpOp_step rfl (fun K hK => ?_)
                 simp only [pN, Nat.reduceEqDiff, ↓reduceIte]
                 have cl0 := (hJ.cells _ mm4).1
                 have cl1 := (hJ.cells _ mm5).1
                 try dsimp only at cl0 cl1
                 go_simp
                 exact hK _ _ ⟨_, by kernel_rfl, hJ.pC 8 rfl (by kernel_rfl) rfl (by omega)⟩
               · intro L fx w' hJ hL hp hcl
                 refine wpOp_step rfl (fun K hK => ?_)
                 simp only [pN, Nat.reduceEqDiff, ↓reduceIte]
                 have cl0 := (hJ.cells _ mm6).1
                 have cl1 := (hJ.cells _ mm7).1
                 try dsimp only at cl0 cl1
                 go_simp
                 exact hK _ _ ⟨_, by kernel_rfl, hJ.pC 9 rfl (by kernel_rfl) rfl (by omega)⟩
               · intro L fx w' hJ hL hp hcl
                 refine wpOp_step rfl (fun K hK => ?_)
                 simp only [pN, Nat.reduceEqDiff, ↓reduceIte]
                 have cl0 := (hJ.cells _ mm2).1
                 have cl1 := (hJ.cells _ mm3).1
                 try dsimp only at cl0 cl1
                 go_simp
                 exact hK _ _ ⟨_, by kernel_rfl, hJ.pC 10 rfl (by kernel_rfl) rfl (by omega)⟩
               · intro L fx w' hJ hL hp hcl
                 have e8 := hJ.pt 8 91 (.agg #[.bool p.1, .slice p.2.1 p.2.2.1 p.2.2.2]) rfl rfl rfl (hp 8 (by decide))
                 rw [e8] at hJ ⊢; clear e8
                 have e9 := hJ.pt 9 92 (.agg #[.bool pj.1, .slice pj.2.1 pj.2.2.1 pj.2.2.2]) rfl rfl rfl (hp 9 (by decide))
                 rw [e9] at hJ ⊢; clear e9
                 have e10 := hJ.pt 10 93 (.agg #[.bool pi.1, .slice pi.2.1 pi.2.2.1 pi.2.2.2]) rfl rfl rfl (hp 10 (by decide))
                 rw [e10] at hJ ⊢; clear e10
                 refine wpOp_step rfl (fun K hK => ?_)
                 simp only [pN, Nat.reduceEqDiff, ↓reduceIte]
                 go_simp
                 go_at_call 40
                 refine (RMulAdd_c _ _ _ _ _ _ _ _ (show IntAt w' 549755813888 (.agg #[.bool p.1, .slice p.2.1 p.2.2.1 p.2.2.2]) _ from hJ.base _ mm0) (show IntAt w' 549755813888 (.agg #[.bool pj.1, .slice pj.2.1 pj.2.2.1 pj.2.2.2]) _ from hJ.base _ mm1) (show IntAt w' 549755813888 (.agg #[.bool pi.1, .slice pi.2.1 pi.2.2.1 pi.2.2.2]) _ from hJ.base _ mm2) (by decide)).mono ?_
                 rintro e w4 ⟨⟨v5, rfl, h5⟩, hb4⟩
                 try dsimp only
                 exact hK _ _ ⟨_, by kernel_rfl, hJ.gC 11 rfl (by kernel_rfl) hb4 (OwnI.mono h5 (Nat.zero_le _)) (by omega)⟩
               · intro L fx w' hJ hL hp hcl
                 have e1 := hJ.pt 1 84 (.slice (some ⟨b, 0, none⟩) (r * c) (r * c)) rfl rfl rfl (hp 1 (by decide))
                 rw [e1] at hJ ⊢; clear e1
                 have e7 := hJ.pt 7 90 (.int .i64 (qi : Int)) rfl rfl rfl (hp 7 (by decide))
                 rw [e7] at hJ ⊢; clear e7
                 refine wpOp_step rfl (fun K hK => ?_)
                 simp only [pN, Nat.reduceEqDiff, ↓reduceIte]
                 go_simp
                 exact hK _ _ ⟨_, by kernel_rfl, hJ.pC 12 rfl (by kernel_rfl) rfl (by omega)⟩
             · intro L x' w9 hL hJ
               have hfr : Below w2.drew.heap.size w2.drew w9 := hJ.fr
               have e9 : OwnI w9 0 (x' 94) (K * xj + xi) := hJ.slot 11 (by show 11 < 13; decide) (hL 11 (by show 11 < 13; decide))
               have e10 : x' 95 = .pointer (some ⟨b, qi * 2, none⟩) := hJ.slot 12 (by show 12 < 13; decide) (hL 12 (by show 12 < 13; decide))
               obtain ⟨pz, hpz⟩ := NumAt.parts e9.num
               rw [hpz] at e9
               unfold av at hpz
               rw [patchX (x := x') (d := 94) hpz]
               rw [patchX (x := updX x' 94 (.agg #[.bool pz.1, .slice pz.2.1 pz.2.2.1 pz.2.2.2])) (d := 95) (v := .pointer (some ⟨b, qi * 2, none⟩)) e10]
               clear hJ hL cm2 cm1 cx0 cx1 cy0 cy1 ck0 ck1
               have X3 := Lib.hid (RowN.below (w := w2.drew) X2.out hfr)
               have M3 := RowAt.below (w := w2.drew) M2.out hfr M2.out.lt
               have S3 := RowAt.below (w := w2.drew) S2.out hfr S2.out.lt
               have K3 := RowAt.below (w := w2.drew) KR.out hfr KR.out.lt
               have B3 := B2.out.trans (((Below.refl w.heap.size w2).drew).trans (hfr.mono B2.out.size))
               have M4 := Lib.hid ((M3.other (p := ⟨b, qi * 2, none⟩) (Ne.symm hbm) (.bool pz.1)).other (p := ⟨b, qi * 2 + 1, none⟩) (Ne.symm hbm) (.slice pz.2.1 pz.2.2.1 pz.2.2.2))
               have S4 := Lib.hid ((S3.other (p := ⟨b, qi * 2, none⟩) (Ne.symm hbr) (.bool pz.1)).other (p := ⟨b, qi * 2 + 1, none⟩) (Ne.symm hbr) (.slice pz.2.1 pz.2.2.1 pz.2.2.2))
               have K4 := Lib.hid ((K3.other (p := ⟨b, qi * 2, none⟩) (show _ ≠ b by omega) (.bool pz.1)).other (p := ⟨b, qi * 2 + 1, none⟩) (show _ ≠ b by omega) (.slice pz.2.1 pz.2.2.1 pz.2.2.2))
               have B4 := Lib.hid ((B3.setCell (p := ⟨b, qi * 2, none⟩) (show w.heap.size <= b by omega) (.bool pz.1)).setCell (p := ⟨b, qi * 2 + 1, none⟩) (show w.heap.size <= b by omega) (.slice pz.2.1 pz.2.2.1 pz.2.2.2))
               have HR4 := Lib.hid (X3.out.set qi e9.num)
               have HE4 := Lib.hid (show ∀ a b', matE (zs.set qi (K * xj + xi)) r c a b' = if b' < d + 1 then mvE i j false K (matE ys r c) a b' else matE ys r c a b' from mv_add hzl hir hij hdc hE.out (by rw [HQ.out.1.1]; exact HQ.out.1.2) HNI.out.1 HNJ.out.1)
               clear M3 S3 K3 B3 e9
               obtain ⟨pq, q0, q1, _⟩ := X3.out.get (i := qi) (by omega)
               have q2 := X3.out.free (qi * 2)
               have q3 := X3.out.free (qi * 2 + 1)
               refine wpOp_step rfl (fun KK hKK => ?_)
               simp only [pN, Nat.reduceEqDiff, ↓reduceIte]
               go_simp
               refine hKK _ _ ⟨⟨updX (updX x' 94 (.agg #[.bool pz.1, .slice pz.2.1 pz.2.2.1 pz.2.2.2])) 95 (.pointer (some ⟨b, qi * 2, none⟩)), by kernel_rfl⟩, ?_⟩
               clear hKK q0 q1 q2 q3
               go_wp2
               go_roundw
               case rel => exact ⟨d + 1, zs.set qi (K * xj + xi), by omega, by go_num, by simp [hzl], HR4, HE4, S4, M4, K4, B4⟩
               case measure => simp [intOf]; omega
           · have hij1 : ((i : Int) == (j : Int)) = false := by simp; omega
             have hq1 := hqq hij
             have hk2 : (ss[s].kind.tmod 2 == 0) = true := by have := HEV.out; simpa using this
             have hk : wr.cell? ⟨bs, os + s * 5, none⟩ = some (.int .i64 ss[s].kind) := (hB.out.cell (p := ⟨bs, os + s * 5, none⟩) hbsw).trans HG0.out
             go_wp2
             have hR1 := hR.out.set qi (p := pj) HNJ.out.2
             have hn1 := hR.out.num qi pj HNI.out.2
             have hR2 := hR1.set qj (p := pi) hn1
             have hm3 := ((((hrm.out.other (p := ⟨b, qi * 2, none⟩) (Ne.symm hbm) (.bool pj.1)).other (p := ⟨b, qi * 2 + 1, none⟩) (Ne.symm hbm) (.slice pj.2.1 pj.2.2.1 pj.2.2.2)).other (p := ⟨b, qj * 2, none⟩) (Ne.symm hbm) (.bool pi.1)).other (p := ⟨b, qj * 2 + 1, none⟩) (Ne.symm hbm) (.slice pi.2.1 pi.2.2.1 pi.2.2.2))
             have hr3 := ((((hr2.out.other (p := ⟨b, qi * 2, none⟩) (Ne.symm hbr) (.bool pj.1)).other (p := ⟨b, qi * 2 + 1, none⟩) (Ne.symm hbr) (.slice pj.2.1 pj.2.2.1 pj.2.2.2)).other (p := ⟨b, qj * 2, none⟩) (Ne.symm hbr) (.bool pi.1)).other (p := ⟨b, qj * 2 + 1, none⟩) (Ne.symm hbr) (.slice pi.2.1 pi.2.2.1 pi.2.2.2))
             have hk3 := ((((hrk.out.other (p := ⟨b, qi * 2, none⟩) (show _ ≠ b by omega) (.bool pj.1)).other (p := ⟨b, qi * 2 + 1, none⟩) (show _ ≠ b by omega) (.slice pj.2.1 pj.2.2.1 pj.2.2.2)).other (p := ⟨b, qj * 2, none⟩) (show _ ≠ b by omega) (.bool pi.1)).other (p := ⟨b, qj * 2 + 1, none⟩) (show _ ≠ b by omega) (.slice pi.2.1 pi.2.2.1 pi.2.2.2))
             have hB3' := (((hB.out.setCell (p := ⟨b, qi * 2, none⟩) (show w.heap.size <= b by omega) (.bool pj.1)).setCell (p := ⟨b, qi * 2 + 1, none⟩) (show w.heap.size <= b by omega) (.slice pj.2.1 pj.2.2.1 pj.2.2.2)).setCell (p := ⟨b, qj * 2, none⟩) (show w.heap.size <= b by omega) (.bool pi.1)).setCell (p := ⟨b, qj * 2 + 1, none⟩) (show w.heap.size <= b by omega) (.slice pi.2.1 pi.2.2.1 pi.2.2.2)
             generalize ((((wr.setCell ⟨b, qi * 2, none⟩ (.bool pj.1)).setCell ⟨b, qi * 2 + 1, none⟩ (.slice pj.2.1 pj.2.2.1 pj.2.2.2)).setCell ⟨b, qj * 2, none⟩ (.bool pi.1)).setCell ⟨b, qj * 2 + 1, none⟩ (.slice pi.2.1 pi.2.2.1 pi.2.2.2)) = w9 at *
             have hE2 := Lib.hid (show ∀ a b', matE ((zs.set qi xj).set qj xi) r c a b' = if b' < d + 1 then mvE i j true K (matE ys r c) a b' else matE ys r c a b' from mv_swap hzl hir hjr hij hdc hE.out (by rw [HQ.out.1.1]; exact HQ.out.1.2) (by rw [HQ.out.2.1]; exact HQ.out.2.2) HNI.out.1 HNJ.out.1)
             have hb9 : ∀ o1 o2, Below w9.heap.size w9 ((w9.alloc o1).alloc o2) := fun o1 o2 => ((Below.refl _ _).alloc (Nat.le_refl _) _).alloc (Nat.le_trans (Nat.le_succ _) (by rw [show (w9.alloc o1).heap.size = w9.heap.size + 1 from Array.size_push _]; exact Nat.le_refl _)) _
             have HR9 := Lib.hid (fun o1 o2 => hR2.below (hb9 o1 o2))
             have HM9 := Lib.hid (fun o1 o2 => hm3.below (hb9 o1 o2) hm3.lt)
             have HS9 := Lib.hid (fun o1 o2 => hr3.below (hb9 o1 o2) hr3.lt)
             have HK9 := Lib.hid (fun o1 o2 => hk3.below (hb9 o1 o2) hk3.lt)
             have HB9 := Lib.hid (fun o1 o2 => hB3'.trans ((hb9 o1 o2).mono hB3'.size))
             clear hR1 hn1 hR2 hm3 hr3 hk3 hB3' hb9
             go_roundw
             case rel => exact ⟨d + 1, (zs.set qi xj).set qj xi, by omega, by go_num, by simp [hzl], Lib.hid (HR9.out _ _), hE2, Lib.hid (HS9.out _ _), Lib.hid (HM9.out _ _), Lib.hid (HK9.out _ _), Lib.hid (HB9.out _ _)⟩
             case measure => simp [intOf]; omega
       · obtain rfl : d = c := by omega
         have m1 := hrm.out.cell 1
         simp only [List.getElem?_cons_zero, List.getElem?_cons_succ] at m1
         have hSp2 : SpEq r (matE xs r d) r (matE zs r d) := by
          refine (hSp.out.trans (mvE_sp hir hjr ev K (matE ys r d))).right (fun a b' => ?_)
          rw [hE.out]
          split
          · rfl
          · unfold mvE
            rw [matE_col a (by omega), matE_col i (by omega), matE_col j (by omega)]
            simp
         have HSp2 := Lib.hid hSp2
         have hbd2 : ∀ z ∈ zs, z.natAbs < W ^ (m + kbd ss (s + 1)) := bound_matE hzl (fun a b' ha hb => by
          rw [hE.out, if_pos hb]
          have h9 := mvE_bd (n := wlen K.natAbs) (E := matE ys r d) hir hjr ev (fun a b _ _ => matE_bound (r := r) (c := d) (Nat.pow_pos (by decide)) hbd.out a b) (lt_pow_wlen _) a b' ha hb
          have e : m + kbd ss (s + 1) = m + kbd ss s + wlen K.natAbs + 1 := by
           have e1 : (ss.getD s ⟨0, 0, 0, 0⟩).K = K := by rw [List.getD_eq_getElem?_getD, List.getElem?_eq_getElem hss]; exact HK5.out.1
           show m + (kbd ss s + wlen (ss.getD s ⟨0, 0, 0, 0⟩).K.natAbs + 1) = _
           rw [e1]; omega
          rw [e]; exact h9)
         have HBD2 := Lib.hid hbd2
         clear hSp2 hbd2
         go_wp2
         go_roundw
         case rel => exact ⟨s + 1, zs, by omega, by go_num, hzl, hR, HSp2, HBD2, hr2, hrm, hB⟩
         case measure => simp [intOf]; omega
    · have hr01 : decide ((0 : Int) < (r : Int)) = false := decide_eq_false (by omega)
      have hss1 : (s : Int) < (ss.length : Int) := by omega
      have z0 := hrm.out.cell 0
      have z1 := hrm.out.cell 1
      have z2 := hrm.out.cell 2
      have f0 := hr2.out.free 0
      have f1 := hr2.out.free 1
      have f2 := hr2.out.free 2
      have q0 := hr2.out.cell 0
      have q1 := hr2.out.cell 1
      have q2 := hr2.out.cell 2
      simp only [List.getElem?_cons_zero, List.getElem?_cons_succ] at z0 z1 z2 q0 q1 q2
      go_wp2
      refine bodyPost_ret (results_mat (p := 4) (by kernel_rfl) _ _ (w.heap.size + 1) _ _ _ rfl (hr2.out.set3 (.int .i64 (r : Int)) (.int .i64 (c : Int)) (.slice (some ⟨b, 0, none⟩) (r * c) (r * c)))) rfl ?_
      exact ⟨⟨b, ys, rfl, by omega, hR.out.setMat hr2.out _ _ _ _ _, hyl, hSp.out, fun y hy => Nat.lt_of_lt_of_le (hbd.out y hy) (Nat.pow_le_pow_right (by decide) (by have := kbd_mono ss hs; omega))⟩, ((hB.out.setCell (p := ⟨w.heap.size + 1, 0, none⟩) (Nat.le_succ _) _).setCell (p := ⟨w.heap.size + 1, 1, none⟩) (Nat.le_succ _) _).setCell (p := ⟨w.heap.size + 1, 2, none⟩) (Nat.le_succ _) _⟩
  · obtain rfl : s = ss.length := by omega
    have z0 := hrm.out.cell 0
    have z1 := hrm.out.cell 1
    have z2 := hrm.out.cell 2
    have f0 := hr2.out.free 0
    have f1 := hr2.out.free 1
    have f2 := hr2.out.free 2
    have q0 := hr2.out.cell 0
    have q1 := hr2.out.cell 1
    have q2 := hr2.out.cell 2
    simp only [List.getElem?_cons_zero, List.getElem?_cons_succ] at z0 z1 z2 q0 q1 q2
    go_wp2
    refine bodyPost_ret (results_mat (p := 4) (by kernel_rfl) _ _ (w.heap.size + 1) _ _ _ rfl (hr2.out.set3 (.int .i64 (r : Int)) (.int .i64 (c : Int)) (.slice (some ⟨b, 0, none⟩) (r * c) (r * c)))) rfl ?_
    exact ⟨⟨b, ys, rfl, by omega, hR.out.setMat hr2.out _ _ _ _ _, hyl, hSp.out, fun y hy => Nat.lt_of_lt_of_le (hbd.out y hy) (Nat.pow_le_pow_right (by decide) (by have := kbd_mono ss hs; omega))⟩, ((hB.out.setCell (p := ⟨w.heap.size + 1, 0, none⟩) (Nat.le_succ _) _).setCell (p := ⟨w.heap.size + 1, 1, none⟩) (Nat.le_succ _) _).setCell (p := ⟨w.heap.size + 1, 2, none⟩) (Nat.le_succ _) _⟩
theorem ownsRow_below {w w' : World} {base : Nat} {e : TypeId} {size : Nat} {v : Value} {n : Nat} {xs : List Value} (h : w.ownsRow base e size v n xs) (hb : Below w.heap.size w w') : w'.ownsRow base e size v n xs := by
 refine ⟨h.1, ?_⟩
 rcases h.2 with hn | ⟨g, cap, cur, hv, hg, hc, rest⟩
 · exact .inl hn
 · refine .inr ⟨g, cap, cur, hv, hg, ?_, rest⟩
   have hlt : g < w.heap.size := by
    by_cases e : g < w.heap.size
    · exact e
    · rw [Array.getElem?_eq_none (by omega)] at hc; cases hc
   rw [hb.block g hlt]; exact hc
structure PV (c : Nat) (E : Nat -> Nat -> Int) (i : Nat) (ls : List Nat) : Prop where
 len : ls.length = i
 herm : Herm i c E (fun a => ls.getD a 0)
def lastP (ls : List Nat) : Int := if ls.length = 0 then -1 else (ls.getD (ls.length - 1) 0 : Int)
theorem PV.start (c : Nat) (E : Nat -> Nat -> Int) : PV c E 0 [] :=
 ⟨rfl, ⟨⟨fun i k _ h => by omega, fun i h => by omega, fun i h => by omega, fun i h => by omega⟩, fun i k _ h => by omega⟩⟩
theorem PV.fi {c : Nat} {E : Nat -> Nat -> Int} {i : Nat} {ls : List Nat} (h : PV c E i ls) : FI c E i (lastP ls) := by
 refine ⟨i, fun a => ls.getD a 0, Nat.le_refl _, h.herm, fun a h1 h2 => by omega, ?_⟩
 rw [if_neg (by omega)]
 unfold lastP
 rw [h.len]
theorem Ech.leadAt {n c : Nat} {E : Nat -> Nat -> Int} {l : Nat -> Nat} (h : Ech n c E l) {a q : Nat} (ha : a < n) (h0 : ∀ b, b < q -> E a b = 0) (hn : E a q ≠ 0) : l a = q := by
 rcases Nat.lt_trichotomy (l a) q with e | e | e
 · have := h.pos a ha; have := h0 _ e; omega
 · exact e
 · exact absurd (h.zero a ha q e) hn
theorem Herm.lcongr {n c : Nat} {E : Nat -> Nat -> Int} {l l' : Nat -> Nat} (h : Herm n c E l) (e : ∀ a, a < n -> l' a = l a) : Herm n c E l' := by
 refine ⟨⟨fun i k hik hk => ?_, fun i hi => ?_, fun i hi j hj => ?_, fun i hi => ?_⟩, fun i k hik hk => ?_⟩
 · rw [e i (by omega), e k hk]; exact h.inc i k hik hk
 · rw [e i hi]; exact h.lt i hi
 · rw [e i hi] at hj; exact h.zero i hi j hj
 · rw [e i hi]; exact h.pos i hi
 · rw [e k hk]; exact h.red i k hik hk
theorem PV.next {c : Nat} {E : Nat -> Nat -> Int} {i j : Nat} {ls : List Nat} (h : PV c E i ls) (hl : IsLead c E i j) (hj : j < c) (hlast : lastP ls < (j : Int)) (hp : 0 < E i j) (hr : ∀ a, a < i -> 0 <= E a j /\ E a j < E i j) : PV c E (i + 1) (ls ++ [j]) := by
 obtain ⟨k, l, hk, hH, hz, hla⟩ := h.fi.next hl hj hlast hp hr
 have hki : k = i + 1 := by
  by_cases e : k < i + 1
  · rw [if_pos e] at hla; omega
  · omega
 subst hki
 refine ⟨by simp [h.len], hH.lcongr fun a ha => ?_⟩
 by_cases e : a < i
 · have e1 : (ls ++ [j]).getD a 0 = ls.getD a 0 := by
    rw [List.getD_eq_getElem?_getD, List.getD_eq_getElem?_getD, List.getElem?_append_left (by rw [h.len]; exact e)]
   show (ls ++ [j]).getD a 0 = l a
   rw [e1]
   exact (hH.leadAt ha (h.herm.zero a e) (by have := h.herm.pos a e; omega)).symm
 · obtain rfl : a = i := by omega
   have e1 : (ls ++ [j]).getD a 0 = j := by
    rw [List.getD_eq_getElem?_getD, List.getElem?_append_right (by rw [h.len]; exact Nat.le_refl _), h.len]; simp
   show (ls ++ [j]).getD a 0 = l a
   rw [e1]
   exact (hH.leadAt ha hl.zero (by omega)).symm
theorem PV.stop {r c : Nat} {E : Nat -> Nat -> Int} {i : Nat} {ls : List Nat} (h : PV c E i ls) (hi : i <= r) (hz : ∀ a, i <= a -> a < r -> ∀ b, E a b = 0) : HF r c E := ⟨i, _, hi, h.herm, hz⟩
theorem flat_no {xs : List Int} {r c i q : Nat} (hs : xs.length = r * c) (hq : q < xs.length) (hn : xs.getD q 0 ≠ 0) (hz : ∀ a, i <= a -> a < r -> ∀ b, matE xs r c a b = 0) (hiq : i * c <= q) : False := by
 rw [hs] at hq
 have hc : 0 < c := by
  rcases Nat.eq_zero_or_pos c with e | e
  · rw [e, Nat.mul_zero] at hq; omega
  · exact e
 have h1 : q / c < r := Nat.div_lt_of_lt_mul (by rw [Nat.mul_comm]; exact hq)
 have h2 : i <= q / c := (Nat.le_div_iff_mul_le hc).2 hiq
 have h3 := hz (q / c) h2 h1 (q % c)
 unfold matE at h3
 rw [if_pos ⟨h1, Nat.mod_lt _ hc⟩, show q / c * c + q % c = q by rw [Nat.mul_comm]; exact Nat.div_add_mod q c] at h3
 exact hn h3
theorem flat_zero {xs : List Int} {r c i : Nat} (h : ∀ u, i * c <= u -> u < xs.length -> xs.getD u 0 = 0) (hs : xs.length = r * c) : ∀ a, i <= a -> a < r -> ∀ b, matE xs r c a b = 0 := by
 intro a h1 h2 b
 unfold matE
 split
 · rename_i h3
   exact h _ (Nat.le_trans (Nat.mul_le_mul_right _ h1) (Nat.le_add_right _ _)) (by rw [hs]; exact idx_lt h3.1 h3.2)
 · rfl
def Pvs (r c : Nat) (E : Nat -> Nat -> Int) (ls : List Nat) : Prop := ∃ i, i <= r /\ PV c E i ls /\ ∀ a, i <= a -> a < r -> ∀ b, E a b = 0
theorem Pvs.hf {r c : Nat} {E : Nat -> Nat -> Int} {ls : List Nat} (h : Pvs r c E ls) : HF r c E := by
 obtain ⟨i, hi, hp, hz⟩ := h
 exact hp.stop hi hz
theorem zs_zero {x : Int} (h : x = 0) : (zsign x == 0) = true := by subst h; rfl
theorem zs_ne {x : Int} (h : x ≠ 0) : (zsign x == 0) = false := by
 unfold zsign
 rw [if_neg h]
 split <;> rfl
theorem info_intP : (Tryz.prog.info? 3).map (fun i => (i.zero, i.size, i.bytes)) = some (some (.int .i64 0), 1, 8) := by kernel_rfl
def litsN (ls : List Nat) : List Value := ls.map fun (a : Nat) => Value.int .i64 (a : Int)
theorem own_cells {w : World} {base : Nat} {e : TypeId} {v : Value} {ls : List Nat} (h : w.ownsRow base e 1 v ls.length (litsN ls)) :
 (v = .slice none 0 0 /\ ls = []) ∨ ∃ g cap, v = .slice (some ⟨g, 0, none⟩) ls.length cap /\ 0 < ls.length + 1 /\ g < w.heap.size /\ ∀ k (hk : k < ls.length), w.cell? ⟨g, k, none⟩ = some (.int .i64 (ls.getD k 0 : Nat)) := by
 rcases h.2 with ⟨hn, h0⟩ | ⟨g, cap, cur, hv, hg, hc, h1, h2, h3, h4⟩
 · exact .inl ⟨hn, List.eq_nil_of_length_eq_zero h0⟩
 · refine .inr ⟨g, cap, hv, by omega, ?_, fun k hk => ?_⟩
   · by_cases e : g < w.heap.size
     · exact e
     · rw [Array.getElem?_eq_none (by omega)] at hc; cases hc
   · have e1 : cur[k]? = some (Value.int .i64 (ls.getD k 0 : Nat)) := by
      rw [<- Array.getElem?_toList]
      have e2 : (cur.toList.take (ls.length * 1))[k]? = cur.toList[k]? := List.getElem?_take_of_lt (by omega)
      rw [<- e2, h4]
      unfold litsN
      rw [List.getElem?_map, List.getD_eq_getElem?_getD, List.getElem?_eq_getElem hk]
      rfl
     simp [World.cell?, hc, e1]
theorem own_ge {w : World} {base : Nat} {e : TypeId} {size n : Nat} {v : Value} {xs : List Value} (h : w.ownsRow base e size v n xs) : ∀ k, v.ownBlock = some k -> base <= k := by
 intro k hk
 rcases h.2 with ⟨rfl, _⟩ | ⟨g, cap, cur, rfl, hg, _⟩
 · cases hk
 · have : g = k := by simpa [Value.ownBlock] using hk
   omega
theorem own_form {w : World} {base : Nat} {e : TypeId} {v : Value} {ls : List Nat} (h : w.ownsRow base e 1 v ls.length (litsN ls)) :
 ∃ ao cap, v = .slice ao ls.length cap /\ (0 < ls.length -> ∃ g, ao = some ⟨g, 0, none⟩ /\ g < w.heap.size /\ ∀ k (hk : k < ls.length), w.cell? ⟨g, k, none⟩ = some (.int .i64 (ls.getD k 0 : Nat))) := by
 rcases own_cells h with ⟨rfl, rfl⟩ | ⟨g, cap, rfl, _, hg, hc⟩
 · exact ⟨none, 0, rfl, fun h => by simp at h⟩
 · exact ⟨_, cap, rfl, fun _ => ⟨g, rfl, hg, hc⟩⟩
set_option maxRecDepth 100000 in
set_option maxHeartbeats 4000000 in
theorem Pivots_c (r c L : Nat) (ao : Option Addr) (len cap : Nat) (xs : List Int) (w : World) (hr : r <= 64) (hc : c <= 64) (h : LsAt w L ao xs) (hL : L <= 1099511627776) (hl : len = xs.length) (hs : xs.length = r * c) :
 Calls Tryz.prog 15 #[.agg #[.int .i64 (r : Int), .int .i64 (c : Int), .slice ao len cap]] w fun e w' => (∃ v t, e = .returned (.tuple #[v, .bool t]) /\ (t = true -> ∃ ls, Pvs r c (matE xs r c) ls /\ w'.ownsRow w.heap.size 3 1 v ls.length (litsN ls)) /\ (t = false -> ¬ HF r c (matE xs r c))) /\ Below w.heap.size w w' := by
 subst hl
 have r1 := RowAt.new w #[.int .i64 (r : Int), .int .i64 (c : Int), .slice ao xs.length cap] 24
 have hb : Below w.heap.size w (w.alloc (.cells #[.int .i64 (r : Int), .int .i64 (c : Int), .slice ao xs.length cap] 24)) := (Below.refl _ _).alloc (Nat.le_refl _) _
 have hs2e : (w.alloc (.cells #[.int .i64 (r : Int), .int .i64 (c : Int), .slice ao xs.length cap] 24)).heap.size = w.heap.size + 1 := Array.size_push _
 have HXS := Lib.hid (h.below hb)
 have HS := Lib.hid hs
 have HLL := Lib.hid hL
 have hxl : xs.length <= 4096 := by rw [hs]; exact Nat.mul_le_mul hr hc
 clear h hs hL
 obtain ⟨i0, hi0, hz0, hz1, hz2⟩ := info_parts info_intP
 go_enter Tryz.func15, Tryz.ntmps15
 go_wp2_with fail
 generalize w.alloc (.cells #[.int .i64 (r : Int), .int .i64 (c : Int), .slice ao xs.length cap] 24) = w2 at *
 have hs2 : w.heap.size < w2.heap.size := r1.lt
 have HS2 := Lib.hid hs2e; clear hs2e
 have R1 := Lib.hid r1
 have B2 := Lib.hid hb
 clear r1 hb
 go_wp2
 go_loopw [4, 5] (fun v_ i_ wr => ∃ (i : Nat) (ls : List Nat), i <= r /\ i_ = .int .i64 (i : Int) /\ Hid (wr.ownsRow (w.heap.size + 1) 3 1 v_ ls.length (litsN ls)) /\ Hid (PV c (matE xs r c) i ls) /\ Hid (Below w2.heap.size w2 wr)) (fun _ i_ _ => r - (intOf i_).toNat)
 case atStart => exact ⟨0, [], Nat.zero_le _, rfl, Lib.hid ⟨by simp [litsN], .inl ⟨rfl, rfl⟩⟩, Lib.hid (PV.start _ _), Lib.hid (Below.refl _ _)⟩
 case round =>
  obtain ⟨i, ls, hi, rfl, hOwn, hPV, hBl⟩ := hrel
  have k0 := (R1.out.below hBl.out R1.out.lt).cell 0
  have k1 := (R1.out.below hBl.out R1.out.lt).cell 1
  have k2 := (R1.out.below hBl.out R1.out.lt).cell 2
  simp only [List.getElem?_cons_zero, List.getElem?_cons_succ] at k0 k1 k2
  by_cases hir : i < r
  · have hir1 : (i : Int) < (r : Int) := by omega
    clear k1 k2
    have HBl0 := hBl
    go_wp2
    go_loopw [6] (fun j_ wq => ∃ (j : Nat), j <= c /\ j_ = .int .i64 (j : Int) /\ Hid (∀ b, b < j -> matE xs r c i b = 0) /\ Hid (Below wr.heap.size wr wq)) (fun j_ _ => c - (intOf j_).toNat)
    case atStart => exact ⟨0, Nat.zero_le _, rfl, Lib.hid (fun b h => by omega), Lib.hid (Below.refl _ _)⟩
    case round =>
     obtain ⟨j, hj, rfl, hz, hBq⟩ := hrel
     have hBw := hBl.out.trans (hBq.out.mono hBl.out.size)
     have k1 := (R1.out.below hBw R1.out.lt).cell 1
     have k2 := (R1.out.below hBw R1.out.lt).cell 2
     simp only [List.getElem?_cons_zero, List.getElem?_cons_succ] at k1 k2
     have hLS := HXS.out.below hBw
     have HBw := Lib.hid hBw; clear hBw
     by_cases hjc : j < c
     · have hjc1 : (j : Int) < (c : Int) := by omega
       have hqx : i * c + j < xs.length := by rw [HS.out]; exact idx_lt hir hjc
       obtain ⟨P, hP⟩ : ∃ P, i * c = P := ⟨_, rfl⟩
       have hw1 : IntKind.i64.wrap ((i : Int) * (c : Int)) = (P : Int) := by
        rw [<- Int.natCast_mul, hP]; exact wrap_small (by omega) (by omega)
       rw [hP] at hqx
       have hE : matE xs r c i j = xs[P + j]'hqx := by
        unfold matE
        rw [if_pos ⟨hir, hjc⟩, hP, List.getD_eq_getElem?_getD, List.getElem?_eq_getElem hqx]; rfl
       obtain ⟨q, hq⟩ : ∃ q, P + j = q := ⟨_, rfl⟩
       have hw2 : IntKind.i64.wrap ((P : Int) + (j : Int)) = (q : Int) := by
        rw [<- Int.natCast_add, hq]; exact wrap_small (by omega) (by omega)
       subst hq
       obtain ⟨q, hq⟩ : ∃ q, q = P + j := ⟨_, rfl⟩
       obtain ⟨b, o, hao, hbb, hcl⟩ := hLS (by omega)
       subst hao
       obtain ⟨p, c0, c1, hn⟩ := hcl (P + j) hqx
       rw [<- hE] at hn
       rw [<- hq] at c0 c1 hqx hw2
       have hqx1 : (q : Int) < (xs.length : Int) := by omega
       have HE := Lib.hid (And.intro hP hq)
       clear hcl hLS hP hE hq
       obtain ⟨x, hx⟩ : ∃ x, matE xs r c i j = x := ⟨_, rfl⟩
       rw [hx] at hn
       obtain ⟨zs, hzs⟩ : ∃ zs, zsign x = zs := ⟨_, rfl⟩
       have HSg : Hid (Calls Tryz.prog 45 #[.agg #[.bool p.1, .slice p.2.1 p.2.2.1 p.2.2.2]] wr fun e w' => e = .returned (.int .i64 zs) /\ Below wr.heap.size wr w') := Lib.hid (by rw [<- hzs]; exact RSign_c (av p) x L wr hn (by have := HLL.out; omega))
       have HX := Lib.hid hx
       have HN := Lib.hid hn
       clear hx hn
       by_cases hx0 : x = 0
       · have t1 : (zs == 0) = true := by rw [<- hzs]; exact zs_zero hx0
         have hz2 := Lib.hid (fun b' (h : b' < j + 1) => (by
          by_cases e : b' = j
          · subst e; rw [HX.out, hx0]
          · exact hz.out b' (by omega) : matE xs r c i b' = 0))
         clear hzs hx0
         go_wp2_with fail
         refine HSg.out.mono ?_
         rintro e w5 ⟨rfl, hb5⟩
         have HB5 := Lib.hid (hBq.out.trans (hb5.mono hBq.out.size))
         clear hb5
         go_wp2
         go_roundw
         case rel => exact ⟨j + 1, by omega, by go_num, hz2, HB5⟩
         case measure => simp [intOf]; omega
       · have t1 : (zs == 0) = false := by rw [<- hzs]; exact zs_ne hx0
         have HX0 := Lib.hid hx0
         clear hzs hx0
         go_wp2_with fail
         refine HSg.out.mono ?_
         rintro e w5 ⟨rfl, hb5⟩
         have HB5 := Lib.hid (hBq.out.trans (hb5.mono hBq.out.size))
         have HBW5 := Lib.hid (HBw.out.trans (hb5.mono HBw.out.size))
         have f1 := (R1.out.below HBW5.out R1.out.lt).cell 1
         have f2 := (R1.out.below HBW5.out R1.out.lt).cell 2
         simp only [List.getElem?_cons_zero, List.getElem?_cons_succ] at f1 f2
         have d0 := (hb5.cell (p := ⟨b, o + q * 2, none⟩) hbb).trans c0
         have d1 := (hb5.cell (p := ⟨b, o + q * 2 + 1, none⟩) hbb).trans c1
         have hbb5 : b < w5.heap.size := Nat.lt_of_lt_of_le hbb hb5.size
         have HN5 := Lib.hid (IntAt.below HN.out hb5)
         have hjn : ((j : Int) == (c : Int)) = false := by simp; omega
         have rP := RowAt.new w5 #[.bool p.1, .slice p.2.1 p.2.2.1 p.2.2.2] 45
         have hb6 : Below w5.heap.size w5 (w5.alloc (.cells #[.bool p.1, .slice p.2.1 p.2.2.1 p.2.2.2] 45)) := (Below.refl _ _).alloc (Nat.le_refl _) _
         have HIL : Hid (IsLead c (matE xs r c) i j) := Lib.hid ⟨by omega, hz.out, fun _ => by rw [HX.out]; exact HX0.out⟩
         clear hb5 c0 c1 k1 k2 HSg HN hbb
         go_wp2_with fail
         generalize w5.alloc (.cells #[.bool p.1, .slice p.2.1 p.2.2.1 p.2.2.2] 45) = w6 at *
         obtain ⟨zs', hzs'⟩ : ∃ zs', zsign x = zs' := ⟨_, rfl⟩
         have hsg := RSign_c (av p) x L w6 (IntAt.below HN5.out hb6) (by have := HLL.out; omega)
         rw [hzs'] at hsg
         refine hsg.mono ?_
         rintro e w7 ⟨rfl, hb7⟩
         have RP := Lib.hid (rP.below hb7 rP.lt)
         have HB7 := Lib.hid (HB5.out.trans ((hb6.trans (hb7.mono hb6.size)).mono HB5.out.size))
         have HBW7 := Lib.hid (HBl0.out.trans (HB7.out.mono HBl0.out.size))
         have HBf := Lib.hid (B2.out.trans (HBW7.out.mono B2.out.size))
         have hs5 : w5.heap.size < w7.heap.size := RP.out.lt
         have HNx7 := Lib.hid (IntAt.below (IntAt.below HN5.out hb6) hb7)
         have HOwn7 := Lib.hid (ownsRow_below hOwn.out HB7.out)
         clear hsg hb6 hb7 rP d0 d1 f1 f2 HB5 HBW5
         by_cases hxn : x < 0
         · have t2 : decide (zs' < 0) = true := by rw [<- hzs']; unfold zsign; rw [if_pos hxn]; rfl
           have hno := Lib.hid (fun h : HF r c (matE xs r c) => by have := (h.row hir HIL.out hjc hPV.out.fi).2.1; rw [HX.out] at this; omega : HF r c (matE xs r c) -> False)
           clear hzs' hxn
           go_wp2
           go_ret2
           exact ⟨⟨_, false, rfl, (fun h => by cases h), fun _ => hno.out⟩, HBf.out⟩
         · have t2 : decide (zs' < 0) = false := by rw [<- hzs']; unfold zsign; rw [if_neg hxn]; split <;> rfl
           have hxp : 0 < x := by have := HX0.out; omega
           have HXP := Lib.hid hxp
           clear hzs' hxn hxp
           obtain ⟨ao', cap', rfl, hcell⟩ := own_form HOwn7.out
           have HC := Lib.hid hcell; clear hcell
           have p0 := RP.out.cell 0
           have p1 := RP.out.cell 1
           simp only [List.getElem?_cons_zero, List.getElem?_cons_succ] at p0 p1
           have hlen : ls.length <= 64 := by rw [hPV.out.len]; omega
           by_cases hlast : lastP ls < (j : Int)
           · have HLA := Lib.hid hlast
             have hnl : ls.length = 0 ∨ ∃ k, ls.length = k + 1 /\ ls.getD k 0 < j := by
              rcases Nat.eq_zero_or_pos ls.length with e | e
              · exact .inl e
              · refine .inr ⟨ls.length - 1, by omega, ?_⟩
                unfold lastP at hlast
                rw [if_neg (by omega)] at hlast
                omega
             clear hlast
             rcases hnl with hn0 | ⟨k, hn0, hk⟩
             · obtain rfl : ls = [] := List.eq_nil_of_length_eq_zero hn0
               clear hn0 HC
               go_wp2
               go_loopw [9] (fun a_ wq => ∃ (a : Nat), a <= i /\ a_ = .int .i64 (a : Int) /\ Hid (∀ a', a' < a -> 0 <= matE xs r c a' j /\ matE xs r c a' j < x) /\ Hid (Below w7.heap.size w7 wq)) (fun a_ _ => i - (intOf a_).toNat)
               case atStart => exact ⟨0, Nat.zero_le _, rfl, Lib.hid (fun a' h => by omega), Lib.hid (Below.refl _ _)⟩
               case round =>
                obtain ⟨a, ha, rfl, hag, hBa⟩ := hrel
                have hBw := HBW7.out.trans (hBa.out.mono HBW7.out.size)
                by_cases hai : a < i
                · have hai1 : (a : Int) < (i : Int) := by omega
                  have k1 := (R1.out.below hBw R1.out.lt).cell 1
                  have k2 := (R1.out.below hBw R1.out.lt).cell 2
                  simp only [List.getElem?_cons_zero, List.getElem?_cons_succ] at k1 k2
                  have hLS := HXS.out.below hBw
                  have HBw' := Lib.hid hBw; clear hBw
                  have har : a < r := by omega
                  have hqx' : a * c + j < xs.length := by rw [HS.out]; exact idx_lt har hjc
                  obtain ⟨P', hP'⟩ : ∃ P', a * c = P' := ⟨_, rfl⟩
                  have hv1 : IntKind.i64.wrap ((a : Int) * (c : Int)) = (P' : Int) := by
                   rw [<- Int.natCast_mul, hP']; exact wrap_small (by omega) (by omega)
                  rw [hP'] at hqx'
                  have hE' : matE xs r c a j = xs[P' + j]'hqx' := by
                   unfold matE
                   rw [if_pos ⟨har, hjc⟩, hP', List.getD_eq_getElem?_getD, List.getElem?_eq_getElem hqx']; rfl
                  obtain ⟨q', hq'⟩ : ∃ q', q' = P' + j := ⟨_, rfl⟩
                  have hv2 : IntKind.i64.wrap ((P' : Int) + (j : Int)) = (q' : Int) := by
                   rw [<- Int.natCast_add, <- hq']; exact wrap_small (by omega) (by omega)
                  obtain ⟨b', o', he, hbb', hcl⟩ := hLS (by omega)
                  have he2 : b = b' /\ o = o' := by injection he with h1; injection h1 with h2 h3; exact ⟨h2, h3⟩
                  rw [<- he2.1, <- he2.2] at hcl
                  rw [<- he2.1] at hbb'
                  obtain ⟨p', c0, c1, hn⟩ := hcl (P' + j) hqx'
                  rw [<- hE'] at hn
                  rw [<- hq'] at c0 c1 hqx'
                  have hqx1' : (q' : Int) < (xs.length : Int) := by omega
                  have p0 := (RP.out.below hBa.out RP.out.lt).cell 0
                  have p1 := (RP.out.below hBa.out RP.out.lt).cell 1
                  have RPa := Lib.hid (RP.out.below hBa.out RP.out.lt)
                  simp only [List.getElem?_cons_zero, List.getElem?_cons_succ] at p0 p1
                  clear hcl hLS hP' hE' hq' he he2 p0 p1
                  obtain ⟨y, hy⟩ : ∃ y, matE xs r c a j = y := ⟨_, rfl⟩
                  rw [hy] at hn
                  have HY := Lib.hid hy
                  have HNy := Lib.hid hn
                  have rX := RowAt.new wr #[.bool p'.1, .slice p'.2.1 p'.2.2.1 p'.2.2.2] 45
                  have hb8 : Below wr.heap.size wr (wr.alloc (.cells #[.bool p'.1, .slice p'.2.1 p'.2.2.1 p'.2.2.2] 45)) := (Below.refl _ _).alloc (Nat.le_refl _) _
                  clear hy hn
                  go_wp2_with fail
                  generalize wr.alloc (.cells #[.bool p'.1, .slice p'.2.1 p'.2.2.1 p'.2.2.2] 45) = w8 at *
                  obtain ⟨ys, hys⟩ : ∃ ys, zsign y = ys := ⟨_, rfl⟩
                  have hsg := RSign_c (av p') y L w8 (IntAt.below HNy.out hb8) (by have := HLL.out; omega)
                  rw [hys] at hsg
                  refine hsg.mono ?_
                  rintro e w9 ⟨rfl, hb9⟩
                  have RX := Lib.hid (rX.below hb9 rX.lt)
                  have hb89 := hb8.trans (hb9.mono hb8.size)
                  have HB9 := Lib.hid (hBa.out.trans (hb89.mono hBa.out.size))
                  have HBf9 := Lib.hid (HBf.out.trans (HB9.out.mono HBf.out.size))
                  have hs9 : wr.heap.size < w9.heap.size := RX.out.lt
                  have x0 := RX.out.cell 0
                  have x1 := RX.out.cell 1
                  have p0 := (RPa.out.below hb89 RPa.out.lt).cell 0
                  have p1 := (RPa.out.below hb89 RPa.out.lt).cell 1
                  simp only [List.getElem?_cons_zero, List.getElem?_cons_succ] at x0 x1 p0 p1
                  have HY9 := Lib.hid (IntAt.below HNy.out hb89)
                  have HX9 := Lib.hid (IntAt.below (IntAt.below HNx7.out hBa.out) hb89)
                  clear hsg hb8 hb9 hb89 rX c0 c1 k1 k2 hbb'
                  by_cases hyn : y < 0
                  · have t8 : decide (ys < 0) = true := by rw [<- hys]; unfold zsign; rw [if_pos hyn]; rfl
                    have hno := Lib.hid (fun h : HF r c (matE xs r c) => by have := (h.row hir HIL.out hjc hPV.out.fi).2.2 a hai; rw [HY.out] at this; omega : HF r c (matE xs r c) -> False)
                    clear hys hyn
                    go_wp2
                    go_ret2
                    exact ⟨⟨_, false, rfl, (fun h => by cases h), fun _ => hno.out⟩, HBf9.out⟩
                  · have t8 : decide (ys < 0) = false := by rw [<- hys]; unfold zsign; rw [if_neg hyn]; split <;> rfl
                    obtain ⟨zc, hzc⟩ : ∃ zc, zcmp y x = zc := ⟨_, rfl⟩
                    have hcm := RCmp_c (av p') (av p) y x L w9 HY9.out HX9.out HLL.out
                    rw [hzc] at hcm
                    have HCM := Lib.hid hcm
                    have HYN := Lib.hid hyn
                    clear hys hyn hcm
                    go_wp2_with fail
                    refine HCM.out.mono ?_
                    rintro e w10 ⟨rfl, hb10⟩
                    have HB10 := Lib.hid (HB9.out.trans (hb10.mono HB9.out.size))
                    have HBf10 := Lib.hid (HBf9.out.trans (hb10.mono HBf9.out.size))
                    clear hb10 x0 x1 p0 p1
                    by_cases hyx : y < x
                    · have t9 : decide (0 <= zc) = false := by rw [<- hzc]; unfold zcmp; rw [if_pos hyx]; rfl
                      have HYX := Lib.hid hyx
                      clear hzc hyx
                      go_wp2
                      go_roundw
                      case rel => exact ⟨a + 1, by omega, by go_num, Lib.hid (fun a' h => by
                       by_cases e : a' = a
                       · subst e; rw [HY.out]; exact ⟨by have := HYN.out; omega, HYX.out⟩
                       · exact hag.out a' (by omega)), HB10⟩
                      case measure => simp [intOf]; omega
                    · have t9 : decide (0 <= zc) = true := by rw [<- hzc]; unfold zcmp; rw [if_neg hyx]; split <;> rfl
                      have hno := Lib.hid (fun h : HF r c (matE xs r c) => by have := (h.row hir HIL.out hjc hPV.out.fi).2.2 a hai; rw [HY.out, HX.out] at this; omega : HF r c (matE xs r c) -> False)
                      clear hzc hyx
                      go_wp2
                      go_ret2
                      exact ⟨⟨_, false, rfl, (fun h => by cases h), fun _ => hno.out⟩, HBf10.out⟩
                · obtain rfl : a = i := by omega
                  have hOwn9 := ownsRow_below HOwn7.out hBa.out
                  have HPN := Lib.hid (hPV.out.next HIL.out hjc HLA.out (by rw [HX.out]; exact HXP.out) (fun a' h => by rw [HX.out]; exact hag.out a' h))
                  have HBo := Lib.hid hBw
                  have hsz : w.heap.size + 1 <= wr.heap.size := by have := hBw.size; omega
                  clear hBw
                  go_wp2_with (at_builtin; refine wpList_append_own _ rfl _ _ 33 rfl (w.heap.size + 1) 3 i0 (.int .i64 0) 1 8 Tryz.underlying33 hi0 hz0 hz1 hz2 rfl (by decide) _ _ _ rfl (hOwn9.alloc _) ⟨wr.heap.size, 0, none⟩ 1 1 [.int .i64 (j : Int)] rfl rfl (cell_one_new _ _ _) (by simp [Value.oneCell']) (by unfold maxLen; omega) (by omega) (by simp; omega) ?_; intro v' w11 hown' hgrow' hnil')
                  have hb12 := Lib.hid (Below.grown (HBo.out.alloc HBo.out.size _) hgrow' (HBo.out.alloc HBo.out.size _).size (fun k hk => by have h1 := own_ge hOwn9 k hk; have h2 := HS2.out; omega))
                  have hown'' := Lib.hid hown'
                  clear hown' hgrow' hnil'
                  go_roundw
                  case rel => exact ⟨a + 1, _ ++ [j], by omega, by go_num, Lib.hid (by have h9 := hown''.out; simpa [litsN] using h9), HPN, hb12⟩
                  case measure => simp [intOf]; omega
             · obtain ⟨g, rfl, hg, hcl⟩ := HC.out (by omega)
               have l0 := hcl k (by omega)
               obtain ⟨yl, hyl⟩ : ∃ y, ls.getD k 0 = y := ⟨_, rfl⟩
               rw [hyl] at l0 hk
               have t4 : decide ((0 : Int) < (ls.length : Int)) = true := decide_eq_true (by omega)
               have t5 : IntKind.i64.wrap ((ls.length : Int) - 1) = (k : Int) := by rw [hn0]; rw [show ((k + 1 : Nat) : Int) - 1 = (k : Int) by omega]; exact wrap_small (by omega) (by omega)
               have t6 : decide ((j : Int) <= (yl : Int)) = false := by simp; omega
               have t7 : (k : Int) < (ls.length : Int) := by omega
               have t6' : decide (j <= yl) = false := decide_eq_false (by omega)
               clear hn0 hcl hyl HC
               go_wp2
               go_loopw [9] (fun a_ wq => ∃ (a : Nat), a <= i /\ a_ = .int .i64 (a : Int) /\ Hid (∀ a', a' < a -> 0 <= matE xs r c a' j /\ matE xs r c a' j < x) /\ Hid (Below w7.heap.size w7 wq)) (fun a_ _ => i - (intOf a_).toNat)
               case atStart => exact ⟨0, Nat.zero_le _, rfl, Lib.hid (fun a' h => by omega), Lib.hid (Below.refl _ _)⟩
               case round =>
                obtain ⟨a, ha, rfl, hag, hBa⟩ := hrel
                have hBw := HBW7.out.trans (hBa.out.mono HBW7.out.size)
                by_cases hai : a < i
                · have hai1 : (a : Int) < (i : Int) := by omega
                  have k1 := (R1.out.below hBw R1.out.lt).cell 1
                  have k2 := (R1.out.below hBw R1.out.lt).cell 2
                  simp only [List.getElem?_cons_zero, List.getElem?_cons_succ] at k1 k2
                  have hLS := HXS.out.below hBw
                  have HBw' := Lib.hid hBw; clear hBw
                  have har : a < r := by omega
                  have hqx' : a * c + j < xs.length := by rw [HS.out]; exact idx_lt har hjc
                  obtain ⟨P', hP'⟩ : ∃ P', a * c = P' := ⟨_, rfl⟩
                  have hv1 : IntKind.i64.wrap ((a : Int) * (c : Int)) = (P' : Int) := by
                   rw [<- Int.natCast_mul, hP']; exact wrap_small (by omega) (by omega)
                  rw [hP'] at hqx'
                  have hE' : matE xs r c a j = xs[P' + j]'hqx' := by
                   unfold matE
                   rw [if_pos ⟨har, hjc⟩, hP', List.getD_eq_getElem?_getD, List.getElem?_eq_getElem hqx']; rfl
                  obtain ⟨q', hq'⟩ : ∃ q', q' = P' + j := ⟨_, rfl⟩
                  have hv2 : IntKind.i64.wrap ((P' : Int) + (j : Int)) = (q' : Int) := by
                   rw [<- Int.natCast_add, <- hq']; exact wrap_small (by omega) (by omega)
                  obtain ⟨b', o', he, hbb', hcl⟩ := hLS (by omega)
                  have he2 : b = b' /\ o = o' := by injection he with h1; injection h1 with h2 h3; exact ⟨h2, h3⟩
                  rw [<- he2.1, <- he2.2] at hcl
                  rw [<- he2.1] at hbb'
                  obtain ⟨p', c0, c1, hn⟩ := hcl (P' + j) hqx'
                  rw [<- hE'] at hn
                  rw [<- hq'] at c0 c1 hqx'
                  have hqx1' : (q' : Int) < (xs.length : Int) := by omega
                  have p0 := (RP.out.below hBa.out RP.out.lt).cell 0
                  have p1 := (RP.out.below hBa.out RP.out.lt).cell 1
                  have RPa := Lib.hid (RP.out.below hBa.out RP.out.lt)
                  simp only [List.getElem?_cons_zero, List.getElem?_cons_succ] at p0 p1
                  clear hcl hLS hP' hE' hq' he he2 p0 p1
                  obtain ⟨y, hy⟩ : ∃ y, matE xs r c a j = y := ⟨_, rfl⟩
                  rw [hy] at hn
                  have HY := Lib.hid hy
                  have HNy := Lib.hid hn
                  have rX := RowAt.new wr #[.bool p'.1, .slice p'.2.1 p'.2.2.1 p'.2.2.2] 45
                  have hb8 : Below wr.heap.size wr (wr.alloc (.cells #[.bool p'.1, .slice p'.2.1 p'.2.2.1 p'.2.2.2] 45)) := (Below.refl _ _).alloc (Nat.le_refl _) _
                  clear hy hn
                  go_wp2_with fail
                  generalize wr.alloc (.cells #[.bool p'.1, .slice p'.2.1 p'.2.2.1 p'.2.2.2] 45) = w8 at *
                  obtain ⟨ys, hys⟩ : ∃ ys, zsign y = ys := ⟨_, rfl⟩
                  have hsg := RSign_c (av p') y L w8 (IntAt.below HNy.out hb8) (by have := HLL.out; omega)
                  rw [hys] at hsg
                  refine hsg.mono ?_
                  rintro e w9 ⟨rfl, hb9⟩
                  have RX := Lib.hid (rX.below hb9 rX.lt)
                  have hb89 := hb8.trans (hb9.mono hb8.size)
                  have HB9 := Lib.hid (hBa.out.trans (hb89.mono hBa.out.size))
                  have HBf9 := Lib.hid (HBf.out.trans (HB9.out.mono HBf.out.size))
                  have hs9 : wr.heap.size < w9.heap.size := RX.out.lt
                  have x0 := RX.out.cell 0
                  have x1 := RX.out.cell 1
                  have p0 := (RPa.out.below hb89 RPa.out.lt).cell 0
                  have p1 := (RPa.out.below hb89 RPa.out.lt).cell 1
                  simp only [List.getElem?_cons_zero, List.getElem?_cons_succ] at x0 x1 p0 p1
                  have HY9 := Lib.hid (IntAt.below HNy.out hb89)
                  have HX9 := Lib.hid (IntAt.below (IntAt.below HNx7.out hBa.out) hb89)
                  clear hsg hb8 hb9 hb89 rX c0 c1 k1 k2 hbb'
                  by_cases hyn : y < 0
                  · have t8 : decide (ys < 0) = true := by rw [<- hys]; unfold zsign; rw [if_pos hyn]; rfl
                    have hno := Lib.hid (fun h : HF r c (matE xs r c) => by have := (h.row hir HIL.out hjc hPV.out.fi).2.2 a hai; rw [HY.out] at this; omega : HF r c (matE xs r c) -> False)
                    clear hys hyn
                    go_wp2
                    go_ret2
                    exact ⟨⟨_, false, rfl, (fun h => by cases h), fun _ => hno.out⟩, HBf9.out⟩
                  · have t8 : decide (ys < 0) = false := by rw [<- hys]; unfold zsign; rw [if_neg hyn]; split <;> rfl
                    obtain ⟨zc, hzc⟩ : ∃ zc, zcmp y x = zc := ⟨_, rfl⟩
                    have hcm := RCmp_c (av p') (av p) y x L w9 HY9.out HX9.out HLL.out
                    rw [hzc] at hcm
                    have HCM := Lib.hid hcm
                    have HYN := Lib.hid hyn
                    clear hys hyn hcm
                    go_wp2_with fail
                    refine HCM.out.mono ?_
                    rintro e w10 ⟨rfl, hb10⟩
                    have HB10 := Lib.hid (HB9.out.trans (hb10.mono HB9.out.size))
                    have HBf10 := Lib.hid (HBf9.out.trans (hb10.mono HBf9.out.size))
                    clear hb10 x0 x1 p0 p1
                    by_cases hyx : y < x
                    · have t9 : decide (0 <= zc) = false := by rw [<- hzc]; unfold zcmp; rw [if_pos hyx]; rfl
                      have HYX := Lib.hid hyx
                      clear hzc hyx
                      go_wp2
                      go_roundw
                      case rel => exact ⟨a + 1, by omega, by go_num, Lib.hid (fun a' h => by
                       by_cases e : a' = a
                       · subst e; rw [HY.out]; exact ⟨by have := HYN.out; omega, HYX.out⟩
                       · exact hag.out a' (by omega)), HB10⟩
                      case measure => simp [intOf]; omega
                    · have t9 : decide (0 <= zc) = true := by rw [<- hzc]; unfold zcmp; rw [if_neg hyx]; split <;> rfl
                      have hno := Lib.hid (fun h : HF r c (matE xs r c) => by have := (h.row hir HIL.out hjc hPV.out.fi).2.2 a hai; rw [HY.out, HX.out] at this; omega : HF r c (matE xs r c) -> False)
                      clear hzc hyx
                      go_wp2
                      go_ret2
                      exact ⟨⟨_, false, rfl, (fun h => by cases h), fun _ => hno.out⟩, HBf10.out⟩
                · obtain rfl : a = i := by omega
                  have hOwn9 := ownsRow_below HOwn7.out hBa.out
                  have HPN := Lib.hid (hPV.out.next HIL.out hjc HLA.out (by rw [HX.out]; exact HXP.out) (fun a' h => by rw [HX.out]; exact hag.out a' h))
                  have HBo := Lib.hid hBw
                  have hsz : w.heap.size + 1 <= wr.heap.size := by have := hBw.size; omega
                  clear hBw
                  go_wp2_with (at_builtin; refine wpList_append_own _ rfl _ _ 33 rfl (w.heap.size + 1) 3 i0 (.int .i64 0) 1 8 Tryz.underlying33 hi0 hz0 hz1 hz2 rfl (by decide) _ _ _ rfl (hOwn9.alloc _) ⟨wr.heap.size, 0, none⟩ 1 1 [.int .i64 (j : Int)] rfl rfl (cell_one_new _ _ _) (by simp [Value.oneCell']) (by unfold maxLen; omega) (by omega) (by simp; omega) ?_; intro v' w11 hown' hgrow' hnil')
                  have hb12 := Lib.hid (Below.grown (HBo.out.alloc HBo.out.size _) hgrow' (HBo.out.alloc HBo.out.size _).size (fun k hk => by have h1 := own_ge hOwn9 k hk; have h2 := HS2.out; omega))
                  have hown'' := Lib.hid hown'
                  clear hown' hgrow' hnil'
                  go_roundw
                  case rel => exact ⟨a + 1, _ ++ [j], by omega, by go_num, Lib.hid (by have h9 := hown''.out; simpa [litsN] using h9), HPN, hb12⟩
                  case measure => simp [intOf]; omega
           · have hno := Lib.hid (fun h : HF r c (matE xs r c) => by have := (h.row hir HIL.out hjc hPV.out.fi).1; omega : HF r c (matE xs r c) -> False)
             obtain ⟨k, hn0, hk⟩ : ∃ k, ls.length = k + 1 /\ j <= ls.getD k 0 := by
              unfold lastP at hlast
              by_cases e : ls.length = 0
              · rw [if_pos e] at hlast; omega
              · rw [if_neg e] at hlast; exact ⟨ls.length - 1, by omega, by omega⟩
             obtain ⟨g, rfl, hg, hcl⟩ := HC.out (by omega)
             have l0 := hcl k (by omega)
             obtain ⟨y, hy⟩ : ∃ y, ls.getD k 0 = y := ⟨_, rfl⟩
             rw [hy] at l0 hk
             have HN0 := Lib.hid (And.intro hn0 hy)
             obtain ⟨n, hn⟩ : ∃ n, ls.length = n := ⟨_, rfl⟩
             clear hlast hcl hy HC
             have t4 : decide ((0 : Int) < (ls.length : Int)) = true := decide_eq_true (by omega)
             have t5 : IntKind.i64.wrap ((ls.length : Int) - 1) = (k : Int) := by rw [hn0]; rw [show ((k + 1 : Nat) : Int) - 1 = (k : Int) by omega]; exact wrap_small (by omega) (by omega)
             have t6 : decide ((j : Int) <= (y : Int)) = true := by simpa using hk
             have t7 : (k : Int) < (ls.length : Int) := by omega
             clear hn hn0
             go_wp2
             go_ret2
             exact ⟨⟨_, false, rfl, (fun h => by cases h), fun _ => hno.out⟩, HBf.out⟩
     · obtain rfl : j = c := by omega
       obtain ⟨P, hP⟩ : ∃ P, i * j = P := ⟨_, rfl⟩
       have hPx : P <= xs.length := by rw [HS.out, <- hP]; exact Nat.mul_le_mul_right _ hi
       have hw1 : IntKind.i64.wrap ((i : Int) * (j : Int)) = (P : Int) := by
        rw [<- Int.natCast_mul, hP]; exact wrap_small (by omega) (by omega)
       have HP := Lib.hid hP
       have hj0 : ((j : Int) == (j : Int)) = true := by simp
       have hrow0 : ∀ b, matE xs r j i b = 0 := fun b => by
        by_cases e : b < j
        · exact hz.out b e
        · unfold matE; rw [if_neg (by omega)]
       have HR0 := Lib.hid hrow0
       have HOw := Lib.hid (ownsRow_below hOwn.out hBq.out)
       clear hP hrow0
       go_wp2
       go_loopw [7] (fun q_ wq => ∃ (q : Nat), P <= q /\ q <= xs.length /\ q_ = .int .i64 (q : Int) /\ Hid (∀ u, P <= u -> u < q -> xs.getD u 0 = 0) /\ Hid (Below wr.heap.size wr wq)) (fun q_ _ => xs.length - (intOf q_).toNat)
       case atStart => exact ⟨P, Nat.le_refl _, hPx, rfl, Lib.hid (fun u h1 h2 => by omega), Lib.hid (Below.refl _ _)⟩
       case round =>
        obtain ⟨q, hPq, hqx, rfl, hzq, hBa⟩ := hrel
        have hBw := HBw.out.trans (hBa.out.mono HBw.out.size)
        have k2 := (R1.out.below hBw R1.out.lt).cell 2
        simp only [List.getElem?_cons_zero, List.getElem?_cons_succ] at k2
        have HBf := Lib.hid (B2.out.trans (hBw.mono B2.out.size))
        by_cases hqn : q < xs.length
        · have hqn1 : (q : Int) < (xs.length : Int) := by omega
          have hLS := HXS.out.below hBw
          obtain ⟨b, o, hao, hbb, hcl⟩ := hLS (by omega)
          subst hao
          obtain ⟨p, c0, c1, hn⟩ := hcl q hqn
          obtain ⟨x, hx⟩ : ∃ x, xs[q] = x := ⟨_, rfl⟩
          rw [hx] at hn
          have hxd : xs.getD q 0 = x := by rw [List.getD_eq_getElem?_getD, List.getElem?_eq_getElem hqn, <- hx]; rfl
          have HX := Lib.hid hxd
          obtain ⟨zs, hzs⟩ : ∃ zs, zsign x = zs := ⟨_, rfl⟩
          have hsg := RSign_c (av p) x L wr hn (by have := HLL.out; omega)
          rw [hzs] at hsg
          have HSg : Hid (Calls Tryz.prog 45 #[.agg #[.bool p.1, .slice p.2.1 p.2.2.1 p.2.2.2]] wr fun e w' => e = .returned (.int .i64 zs) /\ Below wr.heap.size wr w') := Lib.hid hsg
          clear hcl hLS hn hx hxd hsg
          by_cases hx0 : x = 0
          · have t1 : (zs != 0) = false := by rw [bne, <- hzs, zs_zero hx0]; rfl
            have HX0 := Lib.hid hx0
            clear hzs hx0
            go_wp2_with fail
            refine HSg.out.mono ?_
            rintro e w5 ⟨rfl, hb5⟩
            have HB5 := Lib.hid (hBa.out.trans (hb5.mono hBa.out.size))
            clear hb5
            go_wp2
            go_roundw
            case rel => exact ⟨q + 1, by omega, by omega, by go_num, Lib.hid (fun u h1 h2 => by
             by_cases e : u = q
             · subst e; rw [HX.out]; exact HX0.out
             · exact hzq.out u h1 (by omega)), HB5⟩
            case measure => simp [intOf]; omega
          · have t1 : (zs != 0) = true := by rw [bne, <- hzs, zs_ne hx0]; rfl
            have hno := Lib.hid (fun h : HF r j (matE xs r j) => flat_no HS.out hqn (by rw [HX.out]; exact hx0) (h.zeros hir HR0.out) (by rw [HP.out]; exact hPq) : HF r j (matE xs r j) -> False)
            clear hzs hx0
            go_wp2_with fail
            refine HSg.out.mono ?_
            rintro e w5 ⟨rfl, hb5⟩
            have HB5 := Lib.hid (HBf.out.trans (hb5.mono HBf.out.size))
            clear hb5
            go_wp2
            go_ret2
            exact ⟨⟨_, false, rfl, (fun h => by cases h), fun _ => hno.out⟩, HB5.out⟩
        · obtain rfl : q = xs.length := by omega
          have HF0 : Hid (Pvs r j (matE xs r j) ls) := Lib.hid ⟨i, hi, hPV.out, flat_zero (r := r) (by rw [HP.out]; exact hzq.out) HS.out⟩
          have HOw2 := Lib.hid (ownsRow_below HOw.out hBa.out)
          go_wp2
          go_ret2
          exact ⟨⟨_, true, rfl, fun _ => ⟨ls, HF0.out, World.ownsRow.mono HOw2.out (Nat.le_succ _)⟩, fun h => by cases h⟩, HBf.out⟩
  · obtain rfl : i = r := by omega
    have HF0 : Hid (Pvs i c (matE xs i c) ls) := Lib.hid ⟨i, Nat.le_refl _, hPV.out, fun a h1 h2 => by omega⟩
    go_wp2
    go_ret2
    exact ⟨⟨_, true, rfl, fun _ => ⟨ls, HF0.out, World.ownsRow.mono hOwn.out (Nat.le_succ _)⟩, fun h => by cases h⟩, B2.out.trans (hBl.out.mono B2.out.size)⟩
theorem isLead_of {R : List Hd} {c i : Nat} (hi : i < R.length) (hs : Sh c R) : IsLead c (ent R) i (leadOf R i) := by
 have h := lead_ent hi hs
 exact ⟨h.1, h.2.1, h.2.2⟩
set_option maxRecDepth 100000 in
set_option maxHeartbeats 4000000 in
theorem IsForm_c (r c m : Nat) (ao : Option Addr) (len cap : Nat) (xs : List Int) (w : World) (hr : r <= 64) (hc : c <= 64) (h : LsAt w 17592186044415 ao xs) (hm : ∀ x ∈ xs, wlen x.natAbs <= m) (hm1 : m <= 8796093022208) (hl : len = xs.length) (hs : xs.length = r * c) :
 Calls Tryz.prog 16 #[.agg #[.int .i64 (r : Int), .int .i64 (c : Int), .slice ao len cap]] w fun e w' => (∃ t, e = .returned (.tuple #[.bool t, .int .i64 0]) /\ (t = true ↔ HF r c (matE xs r c))) /\ Below w.heap.size w w' := by
 subst hl
 have hwl : ∀ x ∈ xs, wlen x.natAbs <= 17592186044415 := fun x hx => Nat.le_trans (hm x hx) (by omega)
 have HXS := Lib.hid h; clear h
 have HWL := Lib.hid hwl; clear hwl
 have hsnd : soundM (r : Int) (c : Int) xs.length = true := by
  unfold soundM sideOk
  rw [hs]; simp; omega
 have HS := Lib.hid hs; clear hs
 have HM := Lib.hid hm; clear hm
 have HCK := Lib.hid (chkM_ok hsnd); clear hsnd
 have r1 := RowAt.new w #[.int .i64 (r : Int), .int .i64 (c : Int), .slice ao xs.length cap] 24
 have hb : Below w.heap.size w (w.alloc (.cells #[.int .i64 (r : Int), .int .i64 (c : Int), .slice ao xs.length cap] 24)) := (Below.refl _ _).alloc (Nat.le_refl _) _
 go_enter Tryz.func16, Tryz.ntmps16
 go_wp2_with fail
 generalize w.alloc (.cells #[.int .i64 (r : Int), .int .i64 (c : Int), .slice ao xs.length cap] 24) = w2 at *
 refine (Check_c (r : Int) (c : Int) ao xs.length cap _ (by omega) (by omega)).mono ?_
 rintro e w3 ⟨rfl, hb3⟩
 rw [HCK.out]
 have R1 := Lib.hid (r1.below hb3 r1.lt)
 have L3 := Lib.hid ((HXS.out.below hb).below hb3)
 have B3 := Lib.hid (hb.trans (hb3.mono hb.size))
 have e0 := R1.out.cell 0
 have e1 := R1.out.cell 1
 have e2 := R1.out.cell 2
 have hs3 : w.heap.size < w3.heap.size := R1.out.lt
 clear r1 hb hb3
 go_wp2_with fail
 refine (callsIn_wide.1 (lines_c r c ao xs.length cap xs w3 hr hc L3.out HWL.out rfl HS.out)).mono ?_
 rintro e w4 ⟨⟨o, R, rfl, hM, hRl, hRx, hob, hRb⟩, hb4⟩
 obtain ⟨hSh, hE⟩ := ent_rows hRl HS.out hRx
 have hbd : ∀ q ∈ R, ∀ x ∈ q.xs, wlen x.natAbs <= m := fun q hq x hx => by
  obtain ⟨k, hk, rfl⟩ := List.getElem_of_mem hq
  rw [hRx k hk] at hx
  exact HM.out x (List.mem_of_mem_drop (List.mem_of_mem_take hx))
 have HH := Lib.hid (And.intro hSh (And.intro hE hbd))
 have HMN := Lib.hid hM; clear hM
 have R14 := Lib.hid (R1.out.below hb4 R1.out.lt)
 have B4 := Lib.hid (B3.out.trans (hb4.mono B3.out.size))
 have HRl := Lib.hid hRl
 clear hb4 e0 e1 e2 hSh hE hRx hbd R1 L3 B3 hob hRb
 rw [hRl]
 clear hRl
 go_wp2
 go_loopw [5, 21] (fun l_ i_ wr => ∃ (i : Nat) (last : Int), i <= r /\ i_ = .int .i64 (i : Int) /\ l_ = .int .i64 last /\ -1 <= last /\ last <= 64 /\ Hid (FI c (ent R) i last) /\ Hid (Below w4.heap.size w4 wr)) (fun _ i_ _ => r - (intOf i_).toNat)
 case atStart => exact ⟨0, -1, Nat.zero_le _, rfl, rfl, by omega, by omega, Lib.hid (FI.start c _), Lib.hid (Below.refl _ _)⟩
 case round =>
  obtain ⟨i, last, hi, rfl, rfl, hla1, hla2, hF, hBl⟩ := hrel
  by_cases hin : i < r
  · have hin1 : (i : Int) < (r : Int) := by omega
    have hiR : i < R.length := by rw [HRl.out]; exact hin
    have hM' := HMN.out.below hBl.out
    have c0 := hM'.hdr hiR
    have hxl : R[i].xs.length = c := HH.out.1.get hiR
    unfold Hd.hdr at c0
    have hlead := Lead_c R[i].blk R[i].cap R[i].xs wr (hM'.row _ (List.getElem_mem hiR)) (fun x hx => Nat.le_trans (HH.out.2.2 _ (List.getElem_mem hiR) x hx) (by omega)) (by omega)
    have hle := leadOf_eq hiR
    rw [<- hle] at hlead
    rw [hxl] at c0 hlead
    have hIL := isLead_of hiR HH.out.1
    obtain ⟨j, hj⟩ : ∃ j, leadOf R i = j := ⟨_, rfl⟩
    rw [hj] at hlead hIL
    have HLead := Lib.hid hlead; clear hlead
    have HIL := Lib.hid hIL
    have hjc : j <= c := hIL.le
    have g1 := (R14.out.below hBl.out R14.out.lt).cell 1
    simp only [List.getElem?_cons_zero, List.getElem?_cons_succ] at g1
    clear hIL hle hj
    go_wp2_with fail
    refine HLead.out.mono ?_
    rintro e w5 ⟨rfl, hb5⟩
    have B5 := Lib.hid (hBl.out.trans (hb5.mono hBl.out.size))
    have g1' := (R14.out.below B5.out R14.out.lt).cell 1
    simp only [List.getElem?_cons_zero, List.getElem?_cons_succ] at g1'
    clear hb5 g1 c0 hBl
    by_cases hjl : j = c
    · subst hjl
      have hs2 := Lib.hid (hF.out.skip HIL.out)
      have hjj : ((j : Int) == (j : Int)) = true := by simp
      go_wp2
      go_roundw
      case rel => exact ⟨i + 1, (j : Int), by omega, by go_num, rfl, by omega, by omega, hs2, B5⟩
      case measure => simp [intOf]; omega
    · have hjn : ((j : Int) == (c : Int)) = false := by simp; omega
      have hjc2 : j < c := by omega
      obtain ⟨p, q0, q1, hn⟩ := ((HMN.out.below B5.out).row _ (List.getElem_mem hiR)).get (i := j) (by rw [hxl]; exact hjc2)
      have hjx : (j : Int) < (c : Int) := by omega
      have hent : ent R i j = R[i].xs[j]'(by rw [hxl]; exact hjc2) := ent_eq hiR (by rw [hxl]; exact hjc2)
      rw [<- hent] at hn
      have hwx : wlen (ent R i j).natAbs <= m := by rw [hent]; exact HH.out.2.2 _ (List.getElem_mem hiR) _ (List.getElem_mem _)
      have HN := Lib.hid (hn.int (L := 17592186044415) (by omega))
      have HENT := Lib.hid hent
      clear hn hent hwx
      have hnot : ∀ t : Bool, t = false -> (∀ h : HF r c (ent R), False) -> (t = true ↔ HF r c (matE xs r c)) := fun t ht hno => by
       subst ht
       exact Iff.intro (fun h => by cases h) (fun h => (hno (HF.congr h (fun a _ b => HH.out.2.1 a b))).elim)
      have HNo := Lib.hid hnot; clear hnot
      have hBf : Below w.heap.size w w5 := B4.out.trans (B5.out.mono B4.out.size)
      have HBf := Lib.hid hBf; clear hBf
      by_cases hjla : (j : Int) <= last
      · have hno := Lib.hid (fun h : HF r c (ent R) => by have := (h.row hin HIL.out hjc2 hF.out).1; omega : HF r c (ent R) -> False)
        have t1 : decide ((j : Int) <= last) = true := by simpa using hjla
        go_wp2
        go_ret2
        exact ⟨⟨false, rfl, HNo.out _ rfl hno.out⟩, HBf.out⟩
      · have t1 : decide ((j : Int) <= last) = false := by simpa using hjla
        have hF' := Lib.hid (And.intro hF.out (show last < (j : Int) by omega))
        have hs1 := ISign_c (av p) (ent R i j) w5 HN.out
        obtain ⟨x, hx⟩ : ∃ x, ent R i j = x := ⟨_, rfl⟩
        rw [hx] at hs1
        obtain ⟨zs, hzs⟩ : ∃ zs, zsign x = zs := ⟨_, rfl⟩
        rw [hzs] at hs1
        have HS1 := Lib.hid hs1; clear hs1
        unfold av at *
        clear hjla hF
        by_cases hxn : x < 0
        · have t2 : decide (zs < 0) = true := by rw [<- hzs]; unfold zsign; rw [if_pos hxn]; rfl
          have hno := Lib.hid (fun h : HF r c (ent R) => by have := (h.row hin HIL.out hjc2 hF'.out.1).2.1; omega : HF r c (ent R) -> False)
          clear hx hzs hxn
          go_wp2_with fail
          refine HS1.out.mono ?_
          rintro e w6 ⟨rfl, hb6⟩
          have HB6 := Lib.hid (HBf.out.trans (hb6.mono HBf.out.size)); clear hb6
          go_wp2
          go_ret2
          exact ⟨⟨false, rfl, HNo.out _ rfl hno.out⟩, HB6.out⟩
        · have t2 : decide (zs < 0) = false := by rw [<- hzs]; unfold zsign; rw [if_neg hxn]; split <;> rfl
          have hxp : 0 < x := by have := HIL.out.ne hjc2; rw [hx] at this; omega
          have HX := Lib.hid (And.intro hx hxp); clear hx hzs hxn hxp
          go_wp2_with fail
          refine HS1.out.mono ?_
          rintro e w6 ⟨rfl, hb6⟩
          have B6 := Lib.hid (B5.out.trans (hb6.mono B5.out.size)); clear hb6 q0 q1 g1' HS1
          clear B5 HBf HN
          go_wp2
          go_loopw [49] (fun a_ wq => ∃ (a : Nat), a <= i /\ a_ = .int .i64 (a : Int) /\ Hid (∀ a', a' < a -> 0 <= ent R a' j /\ ent R a' j < x) /\ Hid (Below w4.heap.size w4 wq)) (fun a_ _ => i - (intOf a_).toNat)
          case atStart => exact ⟨0, Nat.zero_le _, rfl, Lib.hid (fun a' h => by omega), B6⟩
          case round =>
           obtain ⟨a, ha, rfl, hag, hBl⟩ := hrel
           by_cases hai : a < i
           · have hai1 : (a : Int) < (i : Int) := by omega
             have haR : a < R.length := by omega
             have hM' := HMN.out.below hBl.out
             have c0 := hM'.hdr haR
             unfold Hd.hdr at c0
             have hal : R[a].xs.length = c := HH.out.1.get haR
             rw [hal] at c0
             obtain ⟨pa, qa0, qa1, hna⟩ := (hM'.row _ (List.getElem_mem haR)).get (i := j) (by rw [hal]; exact hjc2)
             obtain ⟨pi, qi0, qi1, hni⟩ := (hM'.row _ (List.getElem_mem hiR)).get (i := j) (by rw [hxl]; exact hjc2)
             have hea : ent R a j = R[a].xs[j]'(by rw [hal]; exact hjc2) := ent_eq haR (by rw [hal]; exact hjc2)
             rw [<- hea] at hna
             rw [<- HENT.out, HX.out.1] at hni
             have hwa : wlen (ent R a j).natAbs <= m := by rw [hea]; exact HH.out.2.2 _ (List.getElem_mem haR) _ (List.getElem_mem _)
             have hwi : wlen x.natAbs <= m := by rw [<- HX.out.1, HENT.out]; exact HH.out.2.2 _ (List.getElem_mem hiR) _ (List.getElem_mem _)
             have hba : R[a].blk < wr.heap.size := (hM'.row _ (List.getElem_mem haR)).lt
             have hbi : R[i].blk < wr.heap.size := (hM'.row _ (List.getElem_mem hiR)).lt
             obtain ⟨y, hy⟩ : ∃ y, ent R a j = y := ⟨_, rfl⟩
             rw [hy] at hna hwa
             have HY := Lib.hid hy; clear hy hea
             have HNa := Lib.hid (hna.int (L := 17592186044415) (by omega))
             have HNi := Lib.hid (hni.int (L := 17592186044415) (by omega))
             clear hna hni hwa hwi hM'
             obtain ⟨za, hza⟩ : ∃ za, zsign y = za := ⟨_, rfl⟩
             obtain ⟨zc, hzc⟩ : ∃ zc, zcmp y x = zc := ⟨_, rfl⟩
             have hS : Hid (Calls Tryz.prog 47 #[.agg #[.bool pa.1, .slice pa.2.1 pa.2.2.1 pa.2.2.2]] wr.drew fun e w' => e = .returned (.int .i64 za) /\ Below wr.drew.heap.size wr.drew w') := Lib.hid (by
              have := ISign_c (av pa) y wr.drew (IntAt.below (w := wr) HNa.out (Below.refl _ _).drew); rw [hza] at this; exact this)
             have hC : Hid (∀ W : World, Below wr.heap.size wr W -> Calls Tryz.prog 48 #[.agg #[.bool pa.1, .slice pa.2.1 pa.2.2.1 pa.2.2.2], .agg #[.bool pi.1, .slice pi.2.1 pi.2.2.1 pi.2.2.2]] W fun e w' => e = .returned (.int .i64 zc) /\ Below W.heap.size W w') := Lib.hid (fun W hW => by
              have := ICmp_c (av pa) (av pi) y x W (IntAt.below HNa.out hW) (IntAt.below HNi.out hW); rw [hzc] at this; exact this)
             unfold av at *
             by_cases hyn : y < 0
             · have t3 : decide (za < 0) = true := by rw [<- hza]; unfold zsign; rw [if_pos hyn]; rfl
               have hno := Lib.hid (fun h : HF r c (ent R) => by have := (h.row hin HIL.out hjc2 hF'.out.1).2.2 a hai; rw [HY.out] at this; omega : HF r c (ent R) -> False)
               have T3 := Lib.hid t3
               clear hza hzc hyn hC qi0 qi1 t3
               go_wp2
               have t3 : decide (za < 0) = true := T3.out
               refine wp_region_any (by kernel_rfl) ?_
               try (change wpAny _ _ _ _ _ _ _ (World.drew _))
               refine wpAny_take (i := 0) (v := ?_) rfl (by kernel_rfl) (by kernel_rfl) (by kernel_rfl) (fun _ _ _ h => h) (Or.inl ⟨by kernel_rfl, ?_⟩) ?_
               rotate_left
               · intro w; go_simp; try (with_reducible rfl)
               refine wpAny_take (i := 1) (v := ?_) rfl (by kernel_rfl) (by kernel_rfl) (by kernel_rfl) (fun _ _ _ h => h) (Or.inl ⟨by kernel_rfl, ?_⟩) ?_
               rotate_left
               · intro w; go_simp; try (with_reducible rfl)
               refine wpAny_take (i := 2) (v := ?_) rfl (by kernel_rfl) (by kernel_rfl) (by kernel_rfl) (fun _ _ _ h => h) (Or.inl ⟨by kernel_rfl, ?_⟩) ?_
               rotate_left
               · intro w; go_simp; try (with_reducible rfl)
               refine wpAny_ready (rs := [3]) (by kernel_rfl) (by simp) ?_
               refine AllReady.cons rfl (fun K hK => ?_) AllReady.nil
               go_simp
               refine hK _ _ ?_
               clear hK K
               refine wpAny_ready (rs := [4]) (by kernel_rfl) (by simp) ?_
               refine AllReady.cons rfl (fun K hK => ?_) AllReady.nil
               go_simp
               go_wp2_with (first | (go_at_call 47; refine hS.out.mono ?_; rintro e w7 ⟨rfl, hb7⟩))
               refine wpAny_take (i := 5) (v := ?_) rfl (by kernel_rfl) (by kernel_rfl) (by kernel_rfl) (fun _ _ _ h => h) (Or.inl ⟨by kernel_rfl, ?_⟩) ?_
               rotate_left
               · intro w; go_simp; try (with_reducible rfl)
               refine wpAny_take (i := 6) (v := ?_) rfl (by kernel_rfl) (by kernel_rfl) (by kernel_rfl) (fun _ _ _ h => h) (Or.inl ⟨by kernel_rfl, ?_⟩) ?_
               rotate_left
               · intro w; go_simp; try (with_reducible rfl)
               refine wpAny_take (i := 7) (v := undef) rfl (by kernel_rfl) (by kernel_rfl) (by kernel_rfl) (fun _ _ _ h => h) (Or.inr ⟨by kernel_rfl, rfl⟩) ?_
               refine wpAny_take (i := 8) (v := undef) rfl (by kernel_rfl) (by kernel_rfl) (by kernel_rfl) (fun _ _ _ h => h) (Or.inr ⟨by kernel_rfl, rfl⟩) ?_
               refine wpAny_take (i := 9) (v := undef) rfl (by kernel_rfl) (by kernel_rfl) (by kernel_rfl) (fun _ _ _ h => h) (Or.inr ⟨by kernel_rfl, rfl⟩) ?_
               refine wpAny_take (i := 10) (v := undef) rfl (by kernel_rfl) (by kernel_rfl) (by kernel_rfl) (fun _ _ _ h => h) (Or.inr ⟨by kernel_rfl, rfl⟩) ?_
               refine wpAny_take (i := 11) (v := undef) rfl (by kernel_rfl) (by kernel_rfl) (by kernel_rfl) (fun _ _ _ h => h) (Or.inr ⟨by kernel_rfl, rfl⟩) ?_
               refine wpAny_take (i := 12) (v := undef) rfl (by kernel_rfl) (by kernel_rfl) (by kernel_rfl) (fun _ _ _ h => h) (Or.inr ⟨by kernel_rfl, rfl⟩) ?_
               refine wpAny_take (i := 13) (v := undef) rfl (by kernel_rfl) (by kernel_rfl) (by kernel_rfl) (fun _ _ _ h => h) (Or.inr ⟨by kernel_rfl, rfl⟩) ?_
               refine wpAny_take (i := 14) (v := undef) rfl (by kernel_rfl) (by kernel_rfl) (by kernel_rfl) (fun _ _ _ h => h) (Or.inr ⟨by kernel_rfl, rfl⟩) ?_
               refine wpAny_take (i := 15) (v := undef) rfl (by kernel_rfl) (by kernel_rfl) (by kernel_rfl) (fun _ _ _ h => h) (Or.inr ⟨by kernel_rfl, rfl⟩) ?_
               refine wpAny_take (i := 16) (v := undef) rfl (by kernel_rfl) (by kernel_rfl) (by kernel_rfl) (fun _ _ _ h => h) (Or.inr ⟨by kernel_rfl, rfl⟩) ?_
               refine wpAny_take (i := 17) (v := ?_) rfl (by kernel_rfl) (by kernel_rfl) (by kernel_rfl) (fun _ _ _ h => h) (Or.inl ⟨by kernel_rfl, ?_⟩) ?_
               rotate_left
               · intro w; go_simp; try (with_reducible rfl)
               refine wpAny_done (by kernel_rfl) ?_ _
               have HB7 : Hid (Below w.heap.size w w7) := Lib.hid (B4.out.trans ((hBl.out.drew.trans (hb7.mono hBl.out.size)).mono B4.out.size))
               clear hb7 hS hBl
               go_simp
               go_wp2
               go_ret2
               exact ⟨⟨false, rfl, HNo.out _ rfl hno.out⟩, HB7.out⟩
             · have t3 : decide (za < 0) = false := by rw [<- hza]; unfold zsign; rw [if_neg hyn]; split <;> rfl
               obtain ⟨t, ht⟩ : ∃ t, decide (0 <= zc) = t := ⟨_, rfl⟩
               have hty : t = false -> y < x := fun e => by
                subst e
                rw [decide_eq_false_iff_not, <- hzc] at ht
                unfold zcmp at ht
                by_cases h : y < x
                · exact h
                · rw [if_neg h] at ht; split at ht <;> omega
               have hty2 : t = true -> ¬ y < x := fun e h => by
                subst e
                rw [decide_eq_true_iff, <- hzc] at ht
                unfold zcmp at ht
                rw [if_pos h] at ht
                omega
               have HTY := Lib.hid (And.intro hty (And.intro hty2 hyn))
               have T3 := Lib.hid t3
               clear hza hzc hyn hty hty2 t3
               go_wp2
               have t3 : decide (za < 0) = false := T3.out
               refine wp_region_any (by kernel_rfl) ?_
               try (change wpAny _ _ _ _ _ _ _ (World.drew _))
               refine wpAny_take (i := 0) (v := ?_) rfl (by kernel_rfl) (by kernel_rfl) (by kernel_rfl) (fun _ _ _ h => h) (Or.inl ⟨by kernel_rfl, ?_⟩) ?_
               rotate_left
               · intro w; go_simp; try (with_reducible rfl)
               refine wpAny_take (i := 1) (v := ?_) rfl (by kernel_rfl) (by kernel_rfl) (by kernel_rfl) (fun _ _ _ h => h) (Or.inl ⟨by kernel_rfl, ?_⟩) ?_
               rotate_left
               · intro w; go_simp; try (with_reducible rfl)
               refine wpAny_take (i := 2) (v := ?_) rfl (by kernel_rfl) (by kernel_rfl) (by kernel_rfl) (fun _ _ _ h => h) (Or.inl ⟨by kernel_rfl, ?_⟩) ?_
               rotate_left
               · intro w; go_simp; try (with_reducible rfl)
               refine wpAny_ready (rs := [3]) (by kernel_rfl) (by simp) ?_
               refine AllReady.cons rfl (fun K hK => ?_) AllReady.nil
               go_simp
               refine hK _ _ ?_
               clear hK K
               refine wpAny_ready (rs := [4]) (by kernel_rfl) (by simp) ?_
               refine AllReady.cons rfl (fun K hK => ?_) AllReady.nil
               go_simp
               go_wp2_with (first | (go_at_call 47; refine hS.out.mono ?_; rintro e w7 ⟨rfl, hb7⟩; have k0 := (hb7.cell (p := ⟨R[a].blk, j * 2, none⟩) hba).trans qa0; have k1 := (hb7.cell (p := ⟨R[a].blk, j * 2 + 1, none⟩) hba).trans qa1; have k2 := (hb7.cell (p := ⟨R[i].blk, j * 2, none⟩) hbi).trans qi0; have k3 := (hb7.cell (p := ⟨R[i].blk, j * 2 + 1, none⟩) hbi).trans qi1))
               refine wpAny_take (i := 5) (v := ?_) rfl (by kernel_rfl) (by kernel_rfl) (by kernel_rfl) (fun _ _ _ h => h) (Or.inl ⟨by kernel_rfl, ?_⟩) ?_
               rotate_left
               · intro w; go_simp; try (with_reducible rfl)
               refine wpAny_take (i := 6) (v := ?_) rfl (by kernel_rfl) (by kernel_rfl) (by kernel_rfl) (fun _ _ _ h => h) (Or.inl ⟨by kernel_rfl, ?_⟩) ?_
               rotate_left
               · intro w; go_simp; try (with_reducible rfl)
               refine wpAny_take (i := 7) (v := ?_) rfl (by kernel_rfl) (by kernel_rfl) (by kernel_rfl) (fun _ _ _ h => h) (Or.inl ⟨by kernel_rfl, ?_⟩) ?_
               rotate_left
               · intro w; go_simp; try (with_reducible rfl)
               refine wpAny_take (i := 8) (v := ?_) rfl (by kernel_rfl) (by kernel_rfl) (by kernel_rfl) (fun _ _ _ h => h) (Or.inl ⟨by kernel_rfl, ?_⟩) ?_
               rotate_left
               · intro w; go_simp; try (with_reducible rfl)
               refine wpAny_take (i := 9) (v := ?_) rfl (by kernel_rfl) (by kernel_rfl) (by kernel_rfl) (fun _ _ _ h => h) (Or.inl ⟨by kernel_rfl, ?_⟩) ?_
               rotate_left
               · intro w; go_simp; try (with_reducible rfl)
               refine wpAny_take (i := 11) (v := ?_) rfl (by kernel_rfl) (by kernel_rfl) (by kernel_rfl) (fun _ _ _ h => h) (Or.inl ⟨by kernel_rfl, ?_⟩) ?_
               rotate_left
               · intro w; go_simp; try (with_reducible rfl)
               refine wpAny_take (i := 12) (v := ?_) rfl (by kernel_rfl) (by kernel_rfl) (by kernel_rfl) (fun _ _ _ h => h) (Or.inl ⟨by kernel_rfl, ?_⟩) ?_
               rotate_left
               · intro w; go_simp; try (with_reducible rfl)
               refine wpAny_take (i := 13) (v := ?_) rfl (by kernel_rfl) (by kernel_rfl) (by kernel_rfl) (fun _ _ _ h => h) (Or.inl ⟨by kernel_rfl, ?_⟩) ?_
               rotate_left
               · intro w; go_simp; try (with_reducible rfl)
               refine wpAny_ready (rs := [10, 14]) (by kernel_rfl) (by simp) ?_
               refine AllReady.cons rfl (fun K hK => ?_) (AllReady.cons rfl (fun K hK => ?_) AllReady.nil)
               · go_simp
                 refine hK _ _ ?_
                 clear hK K
                 refine wpAny_ready (rs := [14]) (by kernel_rfl) (by simp) ?_
                 refine AllReady.cons rfl (fun K hK => ?_) AllReady.nil
                 go_simp
                 refine hK _ _ ?_
                 clear hK K
                 refine wpAny_ready (rs := [15]) (by kernel_rfl) (by simp) ?_
                 refine AllReady.cons rfl (fun K hK => ?_) AllReady.nil
                 go_simp
                 go_wp2_with (first | (go_at_call 48; refine (hC.out _ ((Below.refl _ wr).drew.trans hb7)).mono ?_; rintro e w8 ⟨rfl, hb8⟩))
                 refine wpAny_take (i := 16) (v := ?_) rfl (by kernel_rfl) (by kernel_rfl) (by kernel_rfl) (fun _ _ _ h => h) (Or.inl ⟨by kernel_rfl, ?_⟩) ?_
                 rotate_left
                 · intro w; go_simp; try (with_reducible rfl)
                 refine wpAny_take (i := 17) (v := ?_) rfl (by kernel_rfl) (by kernel_rfl) (by kernel_rfl) (fun _ _ _ h => h) (Or.inl ⟨by kernel_rfl, ?_⟩) ?_
                 rotate_left
                 · intro w; go_simp; try (with_reducible rfl)
                 refine wpAny_done (by kernel_rfl) ?_ _
                 have HB8 : Hid (Below w4.heap.size w4 w8) := Lib.hid ((hBl.out.drew.trans (hb7.mono hBl.out.size)).trans (hb8.mono (Nat.le_trans hBl.out.size hb7.size)))
                 clear hb7 hb8 hS hC hBl k0 k1 k2 k3 qa0 qa1 qi0 qi1 c0
                 clear ht
                 go_simp
                 cases t
                 · go_wp2
                   go_roundw
                   case rel => exact ⟨a + 1, by omega, by go_num, Lib.hid (fun a' h => by
                    by_cases e : a' = a
                    · subst e; rw [HY.out]; exact ⟨by have := HTY.out.2.2; omega, HTY.out.1 rfl⟩
                    · exact hag.out a' (by omega)), HB8⟩
                   case measure => simp [intOf]; omega
                 · have hno := Lib.hid (fun h : HF r c (ent R) => by have := (h.row hin HIL.out hjc2 hF'.out.1).2.2 a hai; rw [HY.out, HX.out.1] at this; have h8 := HTY.out.2.1 rfl; omega : HF r c (ent R) -> False)
                   have HB9 : Hid (Below w.heap.size w w8) := Lib.hid (B4.out.trans (HB8.out.mono B4.out.size))
                   go_wp2
                   go_ret2
                   first | exact ⟨⟨false, rfl, HNo.out _ rfl hno.out⟩, HB9.out⟩ | exact ⟨.inl ⟨rfl, fun h => by have h8 := (HNo.out _ rfl hno.out).2 h; cases h8⟩, HB9.out⟩
               · go_simp
                 refine hK _ _ ?_
                 clear hK K
                 refine wpAny_ready (rs := [10]) (by kernel_rfl) (by simp) ?_
                 refine AllReady.cons rfl (fun K hK => ?_) AllReady.nil
                 go_simp
                 refine hK _ _ ?_
                 clear hK K
                 refine wpAny_ready (rs := [15]) (by kernel_rfl) (by simp) ?_
                 refine AllReady.cons rfl (fun K hK => ?_) AllReady.nil
                 go_simp
                 go_wp2_with (first | (go_at_call 48; refine (hC.out _ ((Below.refl _ wr).drew.trans hb7)).mono ?_; rintro e w8 ⟨rfl, hb8⟩))
                 refine wpAny_take (i := 16) (v := ?_) rfl (by kernel_rfl) (by kernel_rfl) (by kernel_rfl) (fun _ _ _ h => h) (Or.inl ⟨by kernel_rfl, ?_⟩) ?_
                 rotate_left
                 · intro w; go_simp; try (with_reducible rfl)
                 refine wpAny_take (i := 17) (v := ?_) rfl (by kernel_rfl) (by kernel_rfl) (by kernel_rfl) (fun _ _ _ h => h) (Or.inl ⟨by kernel_rfl, ?_⟩) ?_
                 rotate_left
                 · intro w; go_simp; try (with_reducible rfl)
                 refine wpAny_done (by kernel_rfl) ?_ _
                 have HB8 : Hid (Below w4.heap.size w4 w8) := Lib.hid ((hBl.out.drew.trans (hb7.mono hBl.out.size)).trans (hb8.mono (Nat.le_trans hBl.out.size hb7.size)))
                 clear hb7 hb8 hS hC hBl k0 k1 k2 k3 qa0 qa1 qi0 qi1 c0
                 clear ht
                 go_simp
                 cases t
                 · go_wp2
                   go_roundw
                   case rel => exact ⟨a + 1, by omega, by go_num, Lib.hid (fun a' h => by
                    by_cases e : a' = a
                    · subst e; rw [HY.out]; exact ⟨by have := HTY.out.2.2; omega, HTY.out.1 rfl⟩
                    · exact hag.out a' (by omega)), HB8⟩
                   case measure => simp [intOf]; omega
                 · have hno := Lib.hid (fun h : HF r c (ent R) => by have := (h.row hin HIL.out hjc2 hF'.out.1).2.2 a hai; rw [HY.out, HX.out.1] at this; have h8 := HTY.out.2.1 rfl; omega : HF r c (ent R) -> False)
                   have HB9 : Hid (Below w.heap.size w w8) := Lib.hid (B4.out.trans (HB8.out.mono B4.out.size))
                   go_wp2
                   go_ret2
                   first | exact ⟨⟨false, rfl, HNo.out _ rfl hno.out⟩, HB9.out⟩ | exact ⟨.inl ⟨rfl, fun h => by have h8 := (HNo.out _ rfl hno.out).2 h; cases h8⟩, HB9.out⟩
           · obtain rfl : a = i := by omega
             have hnx := Lib.hid (hF'.out.1.next HIL.out hjc2 hF'.out.2 (by rw [HX.out.1]; exact HX.out.2) (fun a' h => by rw [HX.out.1]; exact hag.out a' h))
             go_wp2
             go_roundw
             case rel => exact ⟨a + 1, (j : Int), by omega, by go_num, rfl, by omega, by omega, hnx, hBl⟩
             case measure => simp [intOf]; omega
  · obtain rfl : i = r := by omega
    have hfin : HF i c (ent R) := hF.out.fin (fun a b hb => HH.out.1.wide a hb)
    have HFN := Lib.hid hfin; clear hfin
    go_wp2
    go_ret2
    refine ⟨⟨true, rfl, fun _ => HFN.out.congr (fun a _ b => (HH.out.2.1 a b).symm), fun _ => rfl⟩, B4.out.trans (hBl.out.mono B4.out.size)⟩
theorem alike_self (l : List Int) (x y : Int) : (decide (l = l) && (x == x) && (y == y)) = true := by simp
theorem hW_le {m k : Nat} (h : m <= k) : hW m <= 132 * (k + 1) + 1 := by unfold hW hermW; omega
theorem LsAt.mono {w : World} {L L' : Nat} {ao : Option Addr} {xs : List Int} (h : LsAt w L ao xs) (hL : L <= L') : LsAt w L' ao xs := fun hl => by
 obtain ⟨b, o, e, hlt, hc⟩ := h hl
 exact ⟨b, o, e, hlt, fun i hi => by obtain ⟨p, h0, h1, hn⟩ := hc i hi; exact ⟨p, h0, h1, hn.mono hL⟩⟩
set_option maxRecDepth 100000 in
set_option maxHeartbeats 4000000 in
theorem Unique_u (r c : Int) (ao : Option Addr) (len cap : Nat) (so : Option Addr) (slen scap : Nat) (w : World) (hs : soundM r c len = false) :
 Calls Tryz.prog 3 #[.agg #[.int .i64 r, .int .i64 c, .slice ao len cap], .slice so slen scap] w fun e w' => e = .returned (.bool true) /\ Below w.heap.size w w' := by
 have HSnd := Lib.hid hs
 clear hs
 have b_0 : Hid (Below w.heap.size w w) := Lib.hid (Below.refl _ _)
 go_enter Tryz.func3, Tryz.ntmps3
 have r_ := RowAt.new w #[.int .i64 r, .int .i64 c, .slice ao len cap] 24
 have hb_ : Below w.heap.size w (w.alloc (.cells #[.int .i64 r, .int .i64 c, .slice ao len cap] 24)) := (Below.refl _ _).alloc (Nat.le_refl _) _
 go_wp2_with fail
 generalize w.alloc (.cells #[.int .i64 r, .int .i64 c, .slice ao len cap] 24) = w1 at *
 have b_1 : Hid (Below w.heap.size w w1) := Lib.hid (b_0.out.trans (Below.mono (hb_) b_0.out.size))
 have sz_1 := (hb_).size
 clear b_0
 have A_1 : Hid (RowAt w1 (w.heap.size) 24 [.int .i64 r, .int .i64 c, .slice ao len cap]) := Lib.hid (r_)
 clear r_ hb_
 refine (Wakes_c _).mono ?_
 rintro e w2 ⟨rfl, hb_⟩
 have A_2 : Hid (RowAt w2 (w.heap.size) 24 [.int .i64 r, .int .i64 c, .slice ao len cap]) := Lib.hid (RowAt.below (w := w1) A_1.out (hb_) A_1.out.lt)
 have b_2 : Hid (Below w.heap.size w w2) := Lib.hid (b_1.out.trans (Below.mono (hb_) b_1.out.size))
 have sz_2 := (hb_).size
 clear A_1 b_1
 clear hb_
 have l2_A : w.heap.size < w2.heap.size := A_2.out.lt
 have c2_A0 : w2.cell? ⟨w.heap.size, 0, none⟩ = some (.int .i64 r) := A_2.out.cell 0
 have c2_A1 : w2.cell? ⟨w.heap.size, 1, none⟩ = some (.int .i64 c) := A_2.out.cell 1
 have c2_A2 : w2.cell? ⟨w.heap.size, 2, none⟩ = some (.slice ao len cap) := A_2.out.cell 2
 go_wp2_with fail
 clear l2_A c2_A0 c2_A1 c2_A2
 refine (Sound_c r c ao len cap _).mono ?_
 rintro e w3 ⟨rfl, hb_⟩
 have A_3 : Hid (RowAt w3 (w.heap.size) 24 [.int .i64 r, .int .i64 c, .slice ao len cap]) := Lib.hid (RowAt.below (w := w2) A_2.out (hb_) A_2.out.lt)
 have b_3 : Hid (Below w.heap.size w w3) := Lib.hid (b_2.out.trans (Below.mono (hb_) b_2.out.size))
 have sz_3 := (hb_).size
 clear A_2 b_2
 clear hb_
 rw [HSnd.out]
 go_wp2
 go_ret
 exact ⟨rfl, b_3.out⟩
set_option maxRecDepth 100000 in
set_option maxHeartbeats 4000000 in
theorem Unique_c (r c L m : Nat) (ao : Option Addr) (len cap : Nat) (xs : List Int) (so : Option Addr) (slen scap : Nat) (ss : List Stp) (w : World) (hr : r <= 64) (hc : c <= 64) (h : LsAt w L ao xs) (hL : L <= 1048576) (hl : len = xs.length) (hs : xs.length = r * c)
 (hm : ∀ x ∈ xs, x.natAbs < W ^ m) (h2 : StpAt w L so ss) (hsl : slen = ss.length) (hsn : ss.length <= 8796093022208) (hkb : m + kbd ss ss.length <= 1048576) :
 Calls Tryz.prog 3 #[.agg #[.int .i64 (r : Int), .int .i64 (c : Int), .slice ao len cap], .slice so slen scap] w fun e w' => e = .returned (.bool true) /\ Below w.heap.size w w' := by
 subst hl hsl
 have hsnd : soundM (r : Int) (c : Int) xs.length = true := by
  unfold soundM sideOk
  rw [hs]; simp; omega
 have HSnd := Lib.hid hsnd
 have hsnd2 : soundM (r : Int) (c : Int) (r * c) = true := by rw [<- hs]; exact hsnd
 have HSnd2 := Lib.hid hsnd2
 have hhw : hW m <= 140000000 := Nat.le_trans (hW_le (k := 1048576) (by omega)) (by decide)
 have hhw2 : hW (hW m) <= 17592186044415 := Nat.le_trans (hW_le hhw) (by decide)
 have hhb : hW (m + kbd ss ss.length) <= 140000000 := Nat.le_trans (hW_le hkb) (by decide)
 have HHW := Lib.hid (And.intro hhw (And.intro hhw2 hhb))
 have HS := Lib.hid hs
 have HM := Lib.hid (And.intro hm (And.intro hL hkb))
 have hml : m <= 1048576 := by omega
 have hrc : r * c <= 4096 := Nat.mul_le_mul hr hc
 have hxl : xs.length <= 4096 := by omega
 clear hsnd hsnd2 hhw hhw2 hhb hs hm hL hkb
 have HX_0 : Hid (LsAt w L ao xs) := Lib.hid (h)
 have HT_0 : Hid (StpAt w L so ss) := Lib.hid (h2)
 have b_0 : Hid (Below w.heap.size w w) := Lib.hid (Below.refl _ _)
 clear h h2
 go_enter Tryz.func3, Tryz.ntmps3
 have r_ := RowAt.new w #[.int .i64 (r : Int), .int .i64 (c : Int), .slice ao xs.length cap] 24
 have hb_ : Below w.heap.size w (w.alloc (.cells #[.int .i64 (r : Int), .int .i64 (c : Int), .slice ao xs.length cap] 24)) := (Below.refl _ _).alloc (Nat.le_refl _) _
 go_wp2_with fail
 generalize w.alloc (.cells #[.int .i64 (r : Int), .int .i64 (c : Int), .slice ao xs.length cap] 24) = w1 at *
 have HX_1 : Hid (LsAt w1 L ao xs) := Lib.hid (LsAt.below (w := w) HX_0.out (hb_))
 have HT_1 : Hid (StpAt w1 L so ss) := Lib.hid (StpAt.below (w := w) HT_0.out (hb_))
 have b_1 : Hid (Below w.heap.size w w1) := Lib.hid (b_0.out.trans (Below.mono (hb_) b_0.out.size))
 have sz_1 := (hb_).size
 clear HX_0 HT_0 b_0
 have A_1 : Hid (RowAt w1 (w.heap.size) 24 [.int .i64 (r : Int), .int .i64 (c : Int), .slice ao xs.length cap]) := Lib.hid (r_)
 clear r_ hb_
 refine (Wakes_c _).mono ?_
 rintro e w2 ⟨rfl, hb_⟩
 have HX_2 : Hid (LsAt w2 L ao xs) := Lib.hid (LsAt.below (w := w1) HX_1.out (hb_))
 have HT_2 : Hid (StpAt w2 L so ss) := Lib.hid (StpAt.below (w := w1) HT_1.out (hb_))
 have A_2 : Hid (RowAt w2 (w.heap.size) 24 [.int .i64 (r : Int), .int .i64 (c : Int), .slice ao xs.length cap]) := Lib.hid (RowAt.below (w := w1) A_1.out (hb_) A_1.out.lt)
 have b_2 : Hid (Below w.heap.size w w2) := Lib.hid (b_1.out.trans (Below.mono (hb_) b_1.out.size))
 have sz_2 := (hb_).size
 clear HX_1 HT_1 A_1 b_1
 clear hb_
 have l2_A : w.heap.size < w2.heap.size := A_2.out.lt
 have c2_A0 : w2.cell? ⟨w.heap.size, 0, none⟩ = some (.int .i64 (r : Int)) := A_2.out.cell 0
 have c2_A1 : w2.cell? ⟨w.heap.size, 1, none⟩ = some (.int .i64 (c : Int)) := A_2.out.cell 1
 have c2_A2 : w2.cell? ⟨w.heap.size, 2, none⟩ = some (.slice ao xs.length cap) := A_2.out.cell 2
 go_wp2_with fail
 clear l2_A c2_A0 c2_A1 c2_A2
 refine (Sound_c (r : Int) (c : Int) ao xs.length cap _).mono ?_
 rintro e w3 ⟨rfl, hb_⟩
 have HX_3 : Hid (LsAt w3 L ao xs) := Lib.hid (LsAt.below (w := w2) HX_2.out (hb_))
 have HT_3 : Hid (StpAt w3 L so ss) := Lib.hid (StpAt.below (w := w2) HT_2.out (hb_))
 have A_3 : Hid (RowAt w3 (w.heap.size) 24 [.int .i64 (r : Int), .int .i64 (c : Int), .slice ao xs.length cap]) := Lib.hid (RowAt.below (w := w2) A_2.out (hb_) A_2.out.lt)
 have b_3 : Hid (Below w.heap.size w w3) := Lib.hid (b_2.out.trans (Below.mono (hb_) b_2.out.size))
 have sz_3 := (hb_).size
 clear HX_2 HT_2 A_2 b_2
 clear hb_
 rw [HSnd.out]
 have l3_A : w.heap.size < w3.heap.size := A_3.out.lt
 have c3_A0 : w3.cell? ⟨w.heap.size, 0, none⟩ = some (.int .i64 (r : Int)) := A_3.out.cell 0
 have c3_A1 : w3.cell? ⟨w.heap.size, 1, none⟩ = some (.int .i64 (c : Int)) := A_3.out.cell 1
 have c3_A2 : w3.cell? ⟨w.heap.size, 2, none⟩ = some (.slice ao xs.length cap) := A_3.out.cell 2
 go_wp2_with fail
 clear l3_A c3_A0 c3_A1 c3_A2
 refine (Moved_c r c L m ao xs.length cap xs so ss.length scap ss w3 hr hc HX_3.out (by have := HM.out.2.1; omega) rfl HS.out HM.out.1 HT_3.out rfl hsn (by have := HM.out.2.2; omega)).mono ?_
 rintro e w4 ⟨⟨b, ys, rfl, hbb, hRb, hyl, hsp, hyb⟩, hb_⟩
 have HX_4 : Hid (LsAt w4 L ao xs) := Lib.hid (LsAt.below (w := w3) HX_3.out (hb_))
 have HT_4 : Hid (StpAt w4 L so ss) := Lib.hid (StpAt.below (w := w3) HT_3.out (hb_))
 have A_4 : Hid (RowAt w4 (w.heap.size) 24 [.int .i64 (r : Int), .int .i64 (c : Int), .slice ao xs.length cap]) := Lib.hid (RowAt.below (w := w3) A_3.out (hb_) A_3.out.lt)
 have b_4 : Hid (Below w.heap.size w w4) := Lib.hid (b_3.out.trans (Below.mono (hb_) b_3.out.size))
 have sz_4 := (hb_).size
 clear HX_3 HT_3 A_3 b_3
 clear hb_
 have HY := Lib.hid (And.intro hyl (And.intro hsp hyb))
 have RB_4 : Hid (RowN w4 b ys) := Lib.hid (hRb)
 clear HT_4
 clear hRb hyl hsp hyb
 have r_ := RowAt.new w4 #[.int .i64 (r : Int), .int .i64 (c : Int), .slice (some ⟨b, 0, none⟩) (r * c) (r * c)] 24
 have hb_ : Below w4.heap.size w4 (w4.alloc (.cells #[.int .i64 (r : Int), .int .i64 (c : Int), .slice (some ⟨b, 0, none⟩) (r * c) (r * c)] 24)) := (Below.refl _ _).alloc (Nat.le_refl _) _
 have l4_A : w.heap.size < w4.heap.size := A_4.out.lt
 have c4_A0 : w4.cell? ⟨w.heap.size, 0, none⟩ = some (.int .i64 (r : Int)) := A_4.out.cell 0
 have c4_A1 : w4.cell? ⟨w.heap.size, 1, none⟩ = some (.int .i64 (c : Int)) := A_4.out.cell 1
 have c4_A2 : w4.cell? ⟨w.heap.size, 2, none⟩ = some (.slice ao xs.length cap) := A_4.out.cell 2
 go_wp2_with fail
 generalize w4.alloc (.cells #[.int .i64 (r : Int), .int .i64 (c : Int), .slice (some ⟨b, 0, none⟩) (r * c) (r * c)] 24) = w5 at *
 clear l4_A c4_A0 c4_A1 c4_A2
 have HX_5 : Hid (LsAt w5 L ao xs) := Lib.hid (LsAt.below (w := w4) HX_4.out (hb_))
 have A_5 : Hid (RowAt w5 (w.heap.size) 24 [.int .i64 (r : Int), .int .i64 (c : Int), .slice ao xs.length cap]) := Lib.hid (RowAt.below (w := w4) A_4.out (hb_) A_4.out.lt)
 have RB_5 : Hid (RowN w5 b ys) := Lib.hid (RowN.below (w := w4) RB_4.out (hb_))
 have b_5 : Hid (Below w.heap.size w w5) := Lib.hid (b_4.out.trans (Below.mono (hb_) b_4.out.size))
 have sz_5 := (hb_).size
 clear HX_4 A_4 RB_4 b_4
 have B_5 : Hid (RowAt w5 (w4.heap.size) 24 [.int .i64 (r : Int), .int .i64 (c : Int), .slice (some ⟨b, 0, none⟩) (r * c) (r * c)]) := Lib.hid (r_)
 clear r_ hb_
 refine (Form_c r c m ao xs.length cap xs w5 hr hc (HX_5.out.mono (by have := HM.out.2.1; omega)) HM.out.1 (by omega) rfl HS.out).mono ?_
 rintro e w6 ⟨⟨b1, hs1, k1, l1, rfl, hbb1, hR1, hH1, hd1⟩, hb_⟩
 have HX_6 : Hid (LsAt w6 L ao xs) := Lib.hid (LsAt.below (w := w5) HX_5.out (hb_))
 have A_6 : Hid (RowAt w6 (w.heap.size) 24 [.int .i64 (r : Int), .int .i64 (c : Int), .slice ao xs.length cap]) := Lib.hid (RowAt.below (w := w5) A_5.out (hb_) A_5.out.lt)
 have RB_6 : Hid (RowN w6 b ys) := Lib.hid (RowN.below (w := w5) RB_5.out (hb_))
 have B_6 : Hid (RowAt w6 (w4.heap.size) 24 [.int .i64 (r : Int), .int .i64 (c : Int), .slice (some ⟨b, 0, none⟩) (r * c) (r * c)]) := Lib.hid (RowAt.below (w := w5) B_5.out (hb_) B_5.out.lt)
 have b_6 : Hid (Below w.heap.size w w6) := Lib.hid (b_5.out.trans (Below.mono (hb_) b_5.out.size))
 have sz_6 := (hb_).size
 clear HX_5 A_5 RB_5 B_5 b_5
 clear hb_
 have H1 := Lib.hid (And.intro hH1 hd1)
 have R1_6 : Hid (RowN w6 b1 hs1) := Lib.hid (hR1)
 clear hR1 hH1 hd1
 have r_ := RowAt.new w6 #[.int .i64 (r : Int), .int .i64 (c : Int), .slice (some ⟨b1, 0, none⟩) (r * c) (r * c)] 24
 have hb_ : Below w6.heap.size w6 (w6.alloc (.cells #[.int .i64 (r : Int), .int .i64 (c : Int), .slice (some ⟨b1, 0, none⟩) (r * c) (r * c)] 24)) := (Below.refl _ _).alloc (Nat.le_refl _) _
 have l6_B : w4.heap.size < w6.heap.size := B_6.out.lt
 have c6_B0 : w6.cell? ⟨w4.heap.size, 0, none⟩ = some (.int .i64 (r : Int)) := B_6.out.cell 0
 have c6_B1 : w6.cell? ⟨w4.heap.size, 1, none⟩ = some (.int .i64 (c : Int)) := B_6.out.cell 1
 have c6_B2 : w6.cell? ⟨w4.heap.size, 2, none⟩ = some (.slice (some ⟨b, 0, none⟩) (r * c) (r * c)) := B_6.out.cell 2
 go_wp2_with fail
 generalize w6.alloc (.cells #[.int .i64 (r : Int), .int .i64 (c : Int), .slice (some ⟨b1, 0, none⟩) (r * c) (r * c)] 24) = w7 at *
 clear l6_B c6_B0 c6_B1 c6_B2
 have HX_7 : Hid (LsAt w7 L ao xs) := Lib.hid (LsAt.below (w := w6) HX_6.out (hb_))
 have A_7 : Hid (RowAt w7 (w.heap.size) 24 [.int .i64 (r : Int), .int .i64 (c : Int), .slice ao xs.length cap]) := Lib.hid (RowAt.below (w := w6) A_6.out (hb_) A_6.out.lt)
 have RB_7 : Hid (RowN w7 b ys) := Lib.hid (RowN.below (w := w6) RB_6.out (hb_))
 have B_7 : Hid (RowAt w7 (w4.heap.size) 24 [.int .i64 (r : Int), .int .i64 (c : Int), .slice (some ⟨b, 0, none⟩) (r * c) (r * c)]) := Lib.hid (RowAt.below (w := w6) B_6.out (hb_) B_6.out.lt)
 have R1_7 : Hid (RowN w7 b1 hs1) := Lib.hid (RowN.below (w := w6) R1_6.out (hb_))
 have b_7 : Hid (Below w.heap.size w w7) := Lib.hid (b_6.out.trans (Below.mono (hb_) b_6.out.size))
 have sz_7 := (hb_).size
 clear HX_6 A_6 RB_6 B_6 R1_6 b_6
 have X_7 : Hid (RowAt w7 (w6.heap.size) 24 [.int .i64 (r : Int), .int .i64 (c : Int), .slice (some ⟨b1, 0, none⟩) (r * c) (r * c)]) := Lib.hid (r_)
 clear r_ hb_
 have hyw : ∀ y ∈ ys, wlen y.natAbs <= 17592186044415 := fun y hy => Nat.le_trans (wlen_le_of_lt (HY.out.2.2 y hy)) (by have := HM.out.2.2; omega)
 have HF2 := Lib.hid (Form_c r c (m + kbd ss ss.length) (some ⟨b, 0, none⟩) (r * c) (r * c) ys w7 hr hc (RB_7.out.lsAt hyw) HY.out.2.2 (by have := HM.out.2.2; omega) HY.out.1.symm HY.out.1)
 clear hyw
 refine (HF2.out).mono ?_
 rintro e w8 ⟨⟨b2, hs2, k2, l2, rfl, hbb2, hR2, hH2, hd2⟩, hb_⟩
 have HX_8 : Hid (LsAt w8 L ao xs) := Lib.hid (LsAt.below (w := w7) HX_7.out (hb_))
 have A_8 : Hid (RowAt w8 (w.heap.size) 24 [.int .i64 (r : Int), .int .i64 (c : Int), .slice ao xs.length cap]) := Lib.hid (RowAt.below (w := w7) A_7.out (hb_) A_7.out.lt)
 have RB_8 : Hid (RowN w8 b ys) := Lib.hid (RowN.below (w := w7) RB_7.out (hb_))
 have B_8 : Hid (RowAt w8 (w4.heap.size) 24 [.int .i64 (r : Int), .int .i64 (c : Int), .slice (some ⟨b, 0, none⟩) (r * c) (r * c)]) := Lib.hid (RowAt.below (w := w7) B_7.out (hb_) B_7.out.lt)
 have R1_8 : Hid (RowN w8 b1 hs1) := Lib.hid (RowN.below (w := w7) R1_7.out (hb_))
 have X_8 : Hid (RowAt w8 (w6.heap.size) 24 [.int .i64 (r : Int), .int .i64 (c : Int), .slice (some ⟨b1, 0, none⟩) (r * c) (r * c)]) := Lib.hid (RowAt.below (w := w7) X_7.out (hb_) X_7.out.lt)
 have b_8 : Hid (Below w.heap.size w w8) := Lib.hid (b_7.out.trans (Below.mono (hb_) b_7.out.size))
 have sz_8 := (hb_).size
 clear HX_7 A_7 RB_7 B_7 R1_7 X_7 b_7
 clear hb_
 obtain ⟨rfl, -, -⟩ := hH2.unique (H1.out.1.same HY.out.2.1.symm)
 have R2_8 : Hid (RowN w8 b2 hs2) := Lib.hid (hR2)
 clear hR2 hH2 hd2 HF2
 clear B_8
 clear RB_8
 have hxw : ∀ y ∈ hs2, wlen y.natAbs <= 17592186044415 := fun y hy => Nat.le_trans (wlen_le_of_lt (H1.out.2 y hy)) (by have := HHW.out.1; omega)
 have HXW := Lib.hid hxw
 clear hxw
 have hl1 : hs2.length = r * c := H1.out.1.len
 have HL1 := Lib.hid hl1
 clear hl1
 have r_ := RowAt.new w8 #[.int .i64 (r : Int), .int .i64 (c : Int), .slice (some ⟨b2, 0, none⟩) (r * c) (r * c)] 24
 have hb_ : Below w8.heap.size w8 (w8.alloc (.cells #[.int .i64 (r : Int), .int .i64 (c : Int), .slice (some ⟨b2, 0, none⟩) (r * c) (r * c)] 24)) := (Below.refl _ _).alloc (Nat.le_refl _) _
 have l8_X : w6.heap.size < w8.heap.size := X_8.out.lt
 have c8_X0 : w8.cell? ⟨w6.heap.size, 0, none⟩ = some (.int .i64 (r : Int)) := X_8.out.cell 0
 have c8_X1 : w8.cell? ⟨w6.heap.size, 1, none⟩ = some (.int .i64 (c : Int)) := X_8.out.cell 1
 have c8_X2 : w8.cell? ⟨w6.heap.size, 2, none⟩ = some (.slice (some ⟨b1, 0, none⟩) (r * c) (r * c)) := X_8.out.cell 2
 have l8_A : w.heap.size < w8.heap.size := A_8.out.lt
 have c8_A0 : w8.cell? ⟨w.heap.size, 0, none⟩ = some (.int .i64 (r : Int)) := A_8.out.cell 0
 have c8_A1 : w8.cell? ⟨w.heap.size, 1, none⟩ = some (.int .i64 (c : Int)) := A_8.out.cell 1
 have c8_A2 : w8.cell? ⟨w.heap.size, 2, none⟩ = some (.slice ao xs.length cap) := A_8.out.cell 2
 go_wp2_with fail
 generalize w8.alloc (.cells #[.int .i64 (r : Int), .int .i64 (c : Int), .slice (some ⟨b2, 0, none⟩) (r * c) (r * c)] 24) = w9 at *
 clear l8_X c8_X0 c8_X1 c8_X2 l8_A c8_A0 c8_A1 c8_A2
 have HX_9 : Hid (LsAt w9 L ao xs) := Lib.hid (LsAt.below (w := w8) HX_8.out (hb_))
 have A_9 : Hid (RowAt w9 (w.heap.size) 24 [.int .i64 (r : Int), .int .i64 (c : Int), .slice ao xs.length cap]) := Lib.hid (RowAt.below (w := w8) A_8.out (hb_) A_8.out.lt)
 have R1_9 : Hid (RowN w9 b1 hs2) := Lib.hid (RowN.below (w := w8) R1_8.out (hb_))
 have X_9 : Hid (RowAt w9 (w6.heap.size) 24 [.int .i64 (r : Int), .int .i64 (c : Int), .slice (some ⟨b1, 0, none⟩) (r * c) (r * c)]) := Lib.hid (RowAt.below (w := w8) X_8.out (hb_) X_8.out.lt)
 have R2_9 : Hid (RowN w9 b2 hs2) := Lib.hid (RowN.below (w := w8) R2_8.out (hb_))
 have b_9 : Hid (Below w.heap.size w w9) := Lib.hid (b_8.out.trans (Below.mono (hb_) b_8.out.size))
 have sz_9 := (hb_).size
 clear HX_8 A_8 R1_8 X_8 R2_8 b_8
 have Y_9 : Hid (RowAt w9 (w8.heap.size) 24 [.int .i64 (r : Int), .int .i64 (c : Int), .slice (some ⟨b2, 0, none⟩) (r * c) (r * c)]) := Lib.hid (r_)
 clear r_ hb_
 refine (AlikeMats_c (r : Int) (c : Int) (r : Int) (c : Int) (some ⟨b1, 0, none⟩) (some ⟨b2, 0, none⟩) (r * c) (r * c) (r * c) (r * c) hs2 hs2 _ R1_9.out.lsN R2_9.out.lsN HL1.out.symm HL1.out.symm (by omega) (by omega) HXW.out HXW.out).mono ?_
 rintro e w10 ⟨rfl, hb_⟩
 have HX_10 : Hid (LsAt w10 L ao xs) := Lib.hid (LsAt.below (w := w9) HX_9.out (hb_))
 have A_10 : Hid (RowAt w10 (w.heap.size) 24 [.int .i64 (r : Int), .int .i64 (c : Int), .slice ao xs.length cap]) := Lib.hid (RowAt.below (w := w9) A_9.out (hb_) A_9.out.lt)
 have R1_10 : Hid (RowN w10 b1 hs2) := Lib.hid (RowN.below (w := w9) R1_9.out (hb_))
 have X_10 : Hid (RowAt w10 (w6.heap.size) 24 [.int .i64 (r : Int), .int .i64 (c : Int), .slice (some ⟨b1, 0, none⟩) (r * c) (r * c)]) := Lib.hid (RowAt.below (w := w9) X_9.out (hb_) X_9.out.lt)
 have R2_10 : Hid (RowN w10 b2 hs2) := Lib.hid (RowN.below (w := w9) R2_9.out (hb_))
 have Y_10 : Hid (RowAt w10 (w8.heap.size) 24 [.int .i64 (r : Int), .int .i64 (c : Int), .slice (some ⟨b2, 0, none⟩) (r * c) (r * c)]) := Lib.hid (RowAt.below (w := w9) Y_9.out (hb_) Y_9.out.lt)
 have b_10 : Hid (Below w.heap.size w w10) := Lib.hid (b_9.out.trans (Below.mono (hb_) b_9.out.size))
 have sz_10 := (hb_).size
 clear HX_9 A_9 R1_9 X_9 R2_9 Y_9 b_9
 clear hb_
 rw [alike_self]
 have l10_X : w6.heap.size < w10.heap.size := X_10.out.lt
 have c10_X0 : w10.cell? ⟨w6.heap.size, 0, none⟩ = some (.int .i64 (r : Int)) := X_10.out.cell 0
 have c10_X1 : w10.cell? ⟨w6.heap.size, 1, none⟩ = some (.int .i64 (c : Int)) := X_10.out.cell 1
 have c10_X2 : w10.cell? ⟨w6.heap.size, 2, none⟩ = some (.slice (some ⟨b1, 0, none⟩) (r * c) (r * c)) := X_10.out.cell 2
 have l10_A : w.heap.size < w10.heap.size := A_10.out.lt
 have c10_A0 : w10.cell? ⟨w.heap.size, 0, none⟩ = some (.int .i64 (r : Int)) := A_10.out.cell 0
 have c10_A1 : w10.cell? ⟨w.heap.size, 1, none⟩ = some (.int .i64 (c : Int)) := A_10.out.cell 1
 have c10_A2 : w10.cell? ⟨w.heap.size, 2, none⟩ = some (.slice ao xs.length cap) := A_10.out.cell 2
 go_wp2_with fail
 clear l10_X c10_X0 c10_X1 c10_X2 l10_A c10_A0 c10_A1 c10_A2
 refine (Sound_c (r : Int) (c : Int) _ _ _ _).mono ?_
 rintro e w11 ⟨rfl, hb_⟩
 have HX_11 : Hid (LsAt w11 L ao xs) := Lib.hid (LsAt.below (w := w10) HX_10.out (hb_))
 have A_11 : Hid (RowAt w11 (w.heap.size) 24 [.int .i64 (r : Int), .int .i64 (c : Int), .slice ao xs.length cap]) := Lib.hid (RowAt.below (w := w10) A_10.out (hb_) A_10.out.lt)
 have R1_11 : Hid (RowN w11 b1 hs2) := Lib.hid (RowN.below (w := w10) R1_10.out (hb_))
 have X_11 : Hid (RowAt w11 (w6.heap.size) 24 [.int .i64 (r : Int), .int .i64 (c : Int), .slice (some ⟨b1, 0, none⟩) (r * c) (r * c)]) := Lib.hid (RowAt.below (w := w10) X_10.out (hb_) X_10.out.lt)
 have R2_11 : Hid (RowN w11 b2 hs2) := Lib.hid (RowN.below (w := w10) R2_10.out (hb_))
 have Y_11 : Hid (RowAt w11 (w8.heap.size) 24 [.int .i64 (r : Int), .int .i64 (c : Int), .slice (some ⟨b2, 0, none⟩) (r * c) (r * c)]) := Lib.hid (RowAt.below (w := w10) Y_10.out (hb_) Y_10.out.lt)
 have b_11 : Hid (Below w.heap.size w w11) := Lib.hid (b_10.out.trans (Below.mono (hb_) b_10.out.size))
 have sz_11 := (hb_).size
 clear HX_10 A_10 R1_10 X_10 R2_10 Y_10 b_10
 clear hb_
 rw [HSnd2.out]
 have l11_X : w6.heap.size < w11.heap.size := X_11.out.lt
 have c11_X0 : w11.cell? ⟨w6.heap.size, 0, none⟩ = some (.int .i64 (r : Int)) := X_11.out.cell 0
 have c11_X1 : w11.cell? ⟨w6.heap.size, 1, none⟩ = some (.int .i64 (c : Int)) := X_11.out.cell 1
 have c11_X2 : w11.cell? ⟨w6.heap.size, 2, none⟩ = some (.slice (some ⟨b1, 0, none⟩) (r * c) (r * c)) := X_11.out.cell 2
 have l11_A : w.heap.size < w11.heap.size := A_11.out.lt
 have c11_A0 : w11.cell? ⟨w.heap.size, 0, none⟩ = some (.int .i64 (r : Int)) := A_11.out.cell 0
 have c11_A1 : w11.cell? ⟨w.heap.size, 1, none⟩ = some (.int .i64 (c : Int)) := A_11.out.cell 1
 have c11_A2 : w11.cell? ⟨w.heap.size, 2, none⟩ = some (.slice ao xs.length cap) := A_11.out.cell 2
 go_wp2_with fail
 clear l11_X c11_X0 c11_X1 c11_X2 l11_A c11_A0 c11_A1 c11_A2
 have HP := Lib.hid (Pivots_c r c 140000000 (some ⟨b1, 0, none⟩) (r * c) (r * c) hs2 w11 hr hc (R1_11.out.lsAt (fun y hy => Nat.le_trans (wlen_le_of_lt (H1.out.2 y hy)) HHW.out.1)) (by omega) HL1.out.symm HL1.out)
 refine (HP.out).mono ?_
 rintro e w12 ⟨⟨pv, t, rfl, -, ht⟩, hb_⟩
 have HX_12 : Hid (LsAt w12 L ao xs) := Lib.hid (LsAt.below (w := w11) HX_11.out (hb_))
 have A_12 : Hid (RowAt w12 (w.heap.size) 24 [.int .i64 (r : Int), .int .i64 (c : Int), .slice ao xs.length cap]) := Lib.hid (RowAt.below (w := w11) A_11.out (hb_) A_11.out.lt)
 have R1_12 : Hid (RowN w12 b1 hs2) := Lib.hid (RowN.below (w := w11) R1_11.out (hb_))
 have X_12 : Hid (RowAt w12 (w6.heap.size) 24 [.int .i64 (r : Int), .int .i64 (c : Int), .slice (some ⟨b1, 0, none⟩) (r * c) (r * c)]) := Lib.hid (RowAt.below (w := w11) X_11.out (hb_) X_11.out.lt)
 have R2_12 : Hid (RowN w12 b2 hs2) := Lib.hid (RowN.below (w := w11) R2_11.out (hb_))
 have Y_12 : Hid (RowAt w12 (w8.heap.size) 24 [.int .i64 (r : Int), .int .i64 (c : Int), .slice (some ⟨b2, 0, none⟩) (r * c) (r * c)]) := Lib.hid (RowAt.below (w := w11) Y_11.out (hb_) Y_11.out.lt)
 have b_12 : Hid (Below w.heap.size w w12) := Lib.hid (b_11.out.trans (Below.mono (hb_) b_11.out.size))
 have sz_12 := (hb_).size
 clear HX_11 A_11 R1_11 X_11 R2_11 Y_11 b_11
 clear hb_
 clear HP
 obtain rfl : t = true := by cases t with | true => rfl | false => exact absurd H1.out.1.hf (ht rfl)
 clear ht
 have l12_X : w6.heap.size < w12.heap.size := X_12.out.lt
 have c12_X0 : w12.cell? ⟨w6.heap.size, 0, none⟩ = some (.int .i64 (r : Int)) := X_12.out.cell 0
 have c12_X1 : w12.cell? ⟨w6.heap.size, 1, none⟩ = some (.int .i64 (c : Int)) := X_12.out.cell 1
 have c12_X2 : w12.cell? ⟨w6.heap.size, 2, none⟩ = some (.slice (some ⟨b1, 0, none⟩) (r * c) (r * c)) := X_12.out.cell 2
 have l12_A : w.heap.size < w12.heap.size := A_12.out.lt
 have c12_A0 : w12.cell? ⟨w.heap.size, 0, none⟩ = some (.int .i64 (r : Int)) := A_12.out.cell 0
 have c12_A1 : w12.cell? ⟨w.heap.size, 1, none⟩ = some (.int .i64 (c : Int)) := A_12.out.cell 1
 have c12_A2 : w12.cell? ⟨w.heap.size, 2, none⟩ = some (.slice ao xs.length cap) := A_12.out.cell 2
 go_wp2_with fail
 clear l12_X c12_X0 c12_X1 c12_X2 l12_A c12_A0 c12_A1 c12_A2
 have HF3 := Lib.hid (Form_c r c (hW m) (some ⟨b1, 0, none⟩) (r * c) (r * c) hs2 w12 hr hc (R1_12.out.lsAt HXW.out) H1.out.2 HHW.out.1 HL1.out.symm HL1.out)
 refine (HF3.out).mono ?_
 rintro e w13 ⟨⟨b3, hs3, k3, l3, rfl, hbb3, hR3, hH3, hd3⟩, hb_⟩
 have HX_13 : Hid (LsAt w13 L ao xs) := Lib.hid (LsAt.below (w := w12) HX_12.out (hb_))
 have A_13 : Hid (RowAt w13 (w.heap.size) 24 [.int .i64 (r : Int), .int .i64 (c : Int), .slice ao xs.length cap]) := Lib.hid (RowAt.below (w := w12) A_12.out (hb_) A_12.out.lt)
 have R1_13 : Hid (RowN w13 b1 hs2) := Lib.hid (RowN.below (w := w12) R1_12.out (hb_))
 have X_13 : Hid (RowAt w13 (w6.heap.size) 24 [.int .i64 (r : Int), .int .i64 (c : Int), .slice (some ⟨b1, 0, none⟩) (r * c) (r * c)]) := Lib.hid (RowAt.below (w := w12) X_12.out (hb_) X_12.out.lt)
 have R2_13 : Hid (RowN w13 b2 hs2) := Lib.hid (RowN.below (w := w12) R2_12.out (hb_))
 have Y_13 : Hid (RowAt w13 (w8.heap.size) 24 [.int .i64 (r : Int), .int .i64 (c : Int), .slice (some ⟨b2, 0, none⟩) (r * c) (r * c)]) := Lib.hid (RowAt.below (w := w12) Y_12.out (hb_) Y_12.out.lt)
 have b_13 : Hid (Below w.heap.size w w13) := Lib.hid (b_12.out.trans (Below.mono (hb_) b_12.out.size))
 have sz_13 := (hb_).size
 clear HX_12 A_12 R1_12 X_12 R2_12 Y_12 b_12
 clear hb_
 obtain ⟨k9, l9, h9⟩ := HF.own HL1.out H1.out.1.hf
 obtain rfl : hs2 = hs3 := (h9.unique hH3).1
 have R3_13 : Hid (RowN w13 b3 hs2) := Lib.hid (hR3)
 clear hR3 hH3 hd3 h9 HF3
 have r_ := RowAt.new w13 #[.int .i64 (r : Int), .int .i64 (c : Int), .slice (some ⟨b3, 0, none⟩) (r * c) (r * c)] 24
 have hb_ : Below w13.heap.size w13 (w13.alloc (.cells #[.int .i64 (r : Int), .int .i64 (c : Int), .slice (some ⟨b3, 0, none⟩) (r * c) (r * c)] 24)) := (Below.refl _ _).alloc (Nat.le_refl _) _
 have l13_X : w6.heap.size < w13.heap.size := X_13.out.lt
 have c13_X0 : w13.cell? ⟨w6.heap.size, 0, none⟩ = some (.int .i64 (r : Int)) := X_13.out.cell 0
 have c13_X1 : w13.cell? ⟨w6.heap.size, 1, none⟩ = some (.int .i64 (c : Int)) := X_13.out.cell 1
 have c13_X2 : w13.cell? ⟨w6.heap.size, 2, none⟩ = some (.slice (some ⟨b1, 0, none⟩) (r * c) (r * c)) := X_13.out.cell 2
 have l13_A : w.heap.size < w13.heap.size := A_13.out.lt
 have c13_A0 : w13.cell? ⟨w.heap.size, 0, none⟩ = some (.int .i64 (r : Int)) := A_13.out.cell 0
 have c13_A1 : w13.cell? ⟨w.heap.size, 1, none⟩ = some (.int .i64 (c : Int)) := A_13.out.cell 1
 have c13_A2 : w13.cell? ⟨w.heap.size, 2, none⟩ = some (.slice ao xs.length cap) := A_13.out.cell 2
 go_wp2_with fail
 generalize w13.alloc (.cells #[.int .i64 (r : Int), .int .i64 (c : Int), .slice (some ⟨b3, 0, none⟩) (r * c) (r * c)] 24) = w14 at *
 clear l13_X c13_X0 c13_X1 c13_X2 l13_A c13_A0 c13_A1 c13_A2
 have HX_14 : Hid (LsAt w14 L ao xs) := Lib.hid (LsAt.below (w := w13) HX_13.out (hb_))
 have A_14 : Hid (RowAt w14 (w.heap.size) 24 [.int .i64 (r : Int), .int .i64 (c : Int), .slice ao xs.length cap]) := Lib.hid (RowAt.below (w := w13) A_13.out (hb_) A_13.out.lt)
 have R1_14 : Hid (RowN w14 b1 hs2) := Lib.hid (RowN.below (w := w13) R1_13.out (hb_))
 have X_14 : Hid (RowAt w14 (w6.heap.size) 24 [.int .i64 (r : Int), .int .i64 (c : Int), .slice (some ⟨b1, 0, none⟩) (r * c) (r * c)]) := Lib.hid (RowAt.below (w := w13) X_13.out (hb_) X_13.out.lt)
 have R2_14 : Hid (RowN w14 b2 hs2) := Lib.hid (RowN.below (w := w13) R2_13.out (hb_))
 have Y_14 : Hid (RowAt w14 (w8.heap.size) 24 [.int .i64 (r : Int), .int .i64 (c : Int), .slice (some ⟨b2, 0, none⟩) (r * c) (r * c)]) := Lib.hid (RowAt.below (w := w13) Y_13.out (hb_) Y_13.out.lt)
 have R3_14 : Hid (RowN w14 b3 hs2) := Lib.hid (RowN.below (w := w13) R3_13.out (hb_))
 have b_14 : Hid (Below w.heap.size w w14) := Lib.hid (b_13.out.trans (Below.mono (hb_) b_13.out.size))
 have sz_14 := (hb_).size
 clear HX_13 A_13 R1_13 X_13 R2_13 Y_13 R3_13 b_13
 have Z_14 : Hid (RowAt w14 (w13.heap.size) 24 [.int .i64 (r : Int), .int .i64 (c : Int), .slice (some ⟨b3, 0, none⟩) (r * c) (r * c)]) := Lib.hid (r_)
 clear r_ hb_
 refine (AlikeMats_c (r : Int) (c : Int) (r : Int) (c : Int) (some ⟨b3, 0, none⟩) (some ⟨b1, 0, none⟩) (r * c) (r * c) (r * c) (r * c) hs2 hs2 _ R3_14.out.lsN R1_14.out.lsN HL1.out.symm HL1.out.symm (by omega) (by omega) HXW.out HXW.out).mono ?_
 rintro e w15 ⟨rfl, hb_⟩
 have HX_15 : Hid (LsAt w15 L ao xs) := Lib.hid (LsAt.below (w := w14) HX_14.out (hb_))
 have A_15 : Hid (RowAt w15 (w.heap.size) 24 [.int .i64 (r : Int), .int .i64 (c : Int), .slice ao xs.length cap]) := Lib.hid (RowAt.below (w := w14) A_14.out (hb_) A_14.out.lt)
 have R1_15 : Hid (RowN w15 b1 hs2) := Lib.hid (RowN.below (w := w14) R1_14.out (hb_))
 have X_15 : Hid (RowAt w15 (w6.heap.size) 24 [.int .i64 (r : Int), .int .i64 (c : Int), .slice (some ⟨b1, 0, none⟩) (r * c) (r * c)]) := Lib.hid (RowAt.below (w := w14) X_14.out (hb_) X_14.out.lt)
 have R2_15 : Hid (RowN w15 b2 hs2) := Lib.hid (RowN.below (w := w14) R2_14.out (hb_))
 have Y_15 : Hid (RowAt w15 (w8.heap.size) 24 [.int .i64 (r : Int), .int .i64 (c : Int), .slice (some ⟨b2, 0, none⟩) (r * c) (r * c)]) := Lib.hid (RowAt.below (w := w14) Y_14.out (hb_) Y_14.out.lt)
 have R3_15 : Hid (RowN w15 b3 hs2) := Lib.hid (RowN.below (w := w14) R3_14.out (hb_))
 have Z_15 : Hid (RowAt w15 (w13.heap.size) 24 [.int .i64 (r : Int), .int .i64 (c : Int), .slice (some ⟨b3, 0, none⟩) (r * c) (r * c)]) := Lib.hid (RowAt.below (w := w14) Z_14.out (hb_) Z_14.out.lt)
 have b_15 : Hid (Below w.heap.size w w15) := Lib.hid (b_14.out.trans (Below.mono (hb_) b_14.out.size))
 have sz_15 := (hb_).size
 clear HX_14 A_14 R1_14 X_14 R2_14 Y_14 R3_14 Z_14 b_14
 clear hb_
 rw [alike_self]
 clear Z_15
 clear R3_15
 clear Y_15
 clear R2_15
 have l15_X : w6.heap.size < w15.heap.size := X_15.out.lt
 have c15_X0 : w15.cell? ⟨w6.heap.size, 0, none⟩ = some (.int .i64 (r : Int)) := X_15.out.cell 0
 have c15_X1 : w15.cell? ⟨w6.heap.size, 1, none⟩ = some (.int .i64 (c : Int)) := X_15.out.cell 1
 have c15_X2 : w15.cell? ⟨w6.heap.size, 2, none⟩ = some (.slice (some ⟨b1, 0, none⟩) (r * c) (r * c)) := X_15.out.cell 2
 have l15_A : w.heap.size < w15.heap.size := A_15.out.lt
 have c15_A0 : w15.cell? ⟨w.heap.size, 0, none⟩ = some (.int .i64 (r : Int)) := A_15.out.cell 0
 have c15_A1 : w15.cell? ⟨w.heap.size, 1, none⟩ = some (.int .i64 (c : Int)) := A_15.out.cell 1
 have c15_A2 : w15.cell? ⟨w.heap.size, 2, none⟩ = some (.slice ao xs.length cap) := A_15.out.cell 2
 go_wp2_with fail
 clear l15_X c15_X0 c15_X1 c15_X2 l15_A c15_A0 c15_A1 c15_A2
 have HP2 := Lib.hid (Pivots_c r c L ao xs.length cap xs w15 hr hc HX_15.out (by have := HM.out.2.1; omega) rfl HS.out)
 refine (HP2.out).mono ?_
 rintro e w16 ⟨⟨pv2, t2, rfl, ht2, hf2⟩, hb_⟩
 have HX_16 : Hid (LsAt w16 L ao xs) := Lib.hid (LsAt.below (w := w15) HX_15.out (hb_))
 have A_16 : Hid (RowAt w16 (w.heap.size) 24 [.int .i64 (r : Int), .int .i64 (c : Int), .slice ao xs.length cap]) := Lib.hid (RowAt.below (w := w15) A_15.out (hb_) A_15.out.lt)
 have R1_16 : Hid (RowN w16 b1 hs2) := Lib.hid (RowN.below (w := w15) R1_15.out (hb_))
 have X_16 : Hid (RowAt w16 (w6.heap.size) 24 [.int .i64 (r : Int), .int .i64 (c : Int), .slice (some ⟨b1, 0, none⟩) (r * c) (r * c)]) := Lib.hid (RowAt.below (w := w15) X_15.out (hb_) X_15.out.lt)
 have b_16 : Hid (Below w.heap.size w w16) := Lib.hid (b_15.out.trans (Below.mono (hb_) b_15.out.size))
 have sz_16 := (hb_).size
 clear HX_15 A_15 R1_15 X_15 b_15
 clear hb_
 have hq2 : t2 = true ↔ HF r c (matE xs r c) := ⟨fun e => (ht2 e).choose_spec.1.hf, fun h => by cases t2 with | true => rfl | false => exact absurd h (hf2 rfl)⟩
 have HQ2 := Lib.hid hq2
 clear hq2 ht2 hf2 HP2
 have l16_X : w6.heap.size < w16.heap.size := X_16.out.lt
 have c16_X0 : w16.cell? ⟨w6.heap.size, 0, none⟩ = some (.int .i64 (r : Int)) := X_16.out.cell 0
 have c16_X1 : w16.cell? ⟨w6.heap.size, 1, none⟩ = some (.int .i64 (c : Int)) := X_16.out.cell 1
 have c16_X2 : w16.cell? ⟨w6.heap.size, 2, none⟩ = some (.slice (some ⟨b1, 0, none⟩) (r * c) (r * c)) := X_16.out.cell 2
 have l16_A : w.heap.size < w16.heap.size := A_16.out.lt
 have c16_A0 : w16.cell? ⟨w.heap.size, 0, none⟩ = some (.int .i64 (r : Int)) := A_16.out.cell 0
 have c16_A1 : w16.cell? ⟨w.heap.size, 1, none⟩ = some (.int .i64 (c : Int)) := A_16.out.cell 1
 have c16_A2 : w16.cell? ⟨w.heap.size, 2, none⟩ = some (.slice ao xs.length cap) := A_16.out.cell 2
 go_wp2_with fail
 clear l16_X c16_X0 c16_X1 c16_X2 l16_A c16_A0 c16_A1 c16_A2
 have HI := Lib.hid (IsForm_c r c m ao xs.length cap xs w16 hr hc (HX_16.out.mono (by have := HM.out.2.1; omega)) (fun x hx => wlen_le_of_lt (HM.out.1 x hx)) (by omega) rfl HS.out)
 refine (HI.out).mono ?_
 rintro e w17 ⟨⟨t3, rfl, hq3⟩, hb_⟩
 have HX_17 : Hid (LsAt w17 L ao xs) := Lib.hid (LsAt.below (w := w16) HX_16.out (hb_))
 have A_17 : Hid (RowAt w17 (w.heap.size) 24 [.int .i64 (r : Int), .int .i64 (c : Int), .slice ao xs.length cap]) := Lib.hid (RowAt.below (w := w16) A_16.out (hb_) A_16.out.lt)
 have R1_17 : Hid (RowN w17 b1 hs2) := Lib.hid (RowN.below (w := w16) R1_16.out (hb_))
 have X_17 : Hid (RowAt w17 (w6.heap.size) 24 [.int .i64 (r : Int), .int .i64 (c : Int), .slice (some ⟨b1, 0, none⟩) (r * c) (r * c)]) := Lib.hid (RowAt.below (w := w16) X_16.out (hb_) X_16.out.lt)
 have b_17 : Hid (Below w.heap.size w w17) := Lib.hid (b_16.out.trans (Below.mono (hb_) b_16.out.size))
 have sz_17 := (hb_).size
 clear HX_16 A_16 R1_16 X_16 b_16
 clear hb_
 have HQ3 := Lib.hid hq3
 clear hq3 HI
 have l17_X : w6.heap.size < w17.heap.size := X_17.out.lt
 have c17_X0 : w17.cell? ⟨w6.heap.size, 0, none⟩ = some (.int .i64 (r : Int)) := X_17.out.cell 0
 have c17_X1 : w17.cell? ⟨w6.heap.size, 1, none⟩ = some (.int .i64 (c : Int)) := X_17.out.cell 1
 have c17_X2 : w17.cell? ⟨w6.heap.size, 2, none⟩ = some (.slice (some ⟨b1, 0, none⟩) (r * c) (r * c)) := X_17.out.cell 2
 have l17_A : w.heap.size < w17.heap.size := A_17.out.lt
 have c17_A0 : w17.cell? ⟨w.heap.size, 0, none⟩ = some (.int .i64 (r : Int)) := A_17.out.cell 0
 have c17_A1 : w17.cell? ⟨w.heap.size, 1, none⟩ = some (.int .i64 (c : Int)) := A_17.out.cell 1
 have c17_A2 : w17.cell? ⟨w.heap.size, 2, none⟩ = some (.slice ao xs.length cap) := A_17.out.cell 2
 go_wp2_with fail
 clear l17_X c17_X0 c17_X1 c17_X2 l17_A c17_A0 c17_A1 c17_A2
 refine (M9Least_c r c ao xs.length cap L xs w17 hr hc HX_17.out (by have := HM.out.2.1; omega) rfl HS.out).mono ?_
 rintro e w18 ⟨⟨b4, rfl, hbb4, hR4⟩, hb_⟩
 have HX_18 : Hid (LsAt w18 L ao xs) := Lib.hid (LsAt.below (w := w17) HX_17.out (hb_))
 have A_18 : Hid (RowAt w18 (w.heap.size) 24 [.int .i64 (r : Int), .int .i64 (c : Int), .slice ao xs.length cap]) := Lib.hid (RowAt.below (w := w17) A_17.out (hb_) A_17.out.lt)
 have R1_18 : Hid (RowN w18 b1 hs2) := Lib.hid (RowN.below (w := w17) R1_17.out (hb_))
 have X_18 : Hid (RowAt w18 (w6.heap.size) 24 [.int .i64 (r : Int), .int .i64 (c : Int), .slice (some ⟨b1, 0, none⟩) (r * c) (r * c)]) := Lib.hid (RowAt.below (w := w17) X_17.out (hb_) X_17.out.lt)
 have b_18 : Hid (Below w.heap.size w w18) := Lib.hid (b_17.out.trans (Below.mono (hb_) b_17.out.size))
 have sz_18 := (hb_).size
 clear HX_17 A_17 R1_17 X_17 b_17
 clear hb_
 have R4_18 : Hid (RowN w18 b4 xs) := Lib.hid (hR4)
 clear hR4
 have hxw2 : ∀ x ∈ xs, wlen x.natAbs <= 17592186044415 := fun x hx => Nat.le_trans (wlen_le_of_lt (HM.out.1 x hx)) (by omega)
 have HW := Lib.hid hxw2
 clear hxw2
 have he : (xs = hs2) ↔ HF r c (matE xs r c) := ⟨fun e => by have := H1.out.1.hf; rw [<- e] at this; exact this, fun h => by obtain ⟨k8, l8, h8⟩ := HF.own HS.out h; exact (h8.unique H1.out.1).1⟩
 have hta : (decide (xs = hs2) && ((r : Int) == (r : Int)) && ((c : Int) == (c : Int))) = t2 := by
  rw [Bool.eq_iff_iff]; simp only [beq_self_eq_true, Bool.and_true, decide_eq_true_eq]; exact he.trans HQ2.out.symm
 have HTA := Lib.hid hta
 clear hta he
 obtain rfl : t2 = t3 := by rw [Bool.eq_iff_iff]; exact HQ2.out.trans HQ3.out.symm
 cases t2
 · skip
   have r_ := RowAt.new w18 #[.int .i64 (r : Int), .int .i64 (c : Int), .slice (some ⟨b4, 0, none⟩) (r * c) (r * c)] 24
   have hb_ : Below w18.heap.size w18 (w18.alloc (.cells #[.int .i64 (r : Int), .int .i64 (c : Int), .slice (some ⟨b4, 0, none⟩) (r * c) (r * c)] 24)) := (Below.refl _ _).alloc (Nat.le_refl _) _
   have l18_X : w6.heap.size < w18.heap.size := X_18.out.lt
   have c18_X0 : w18.cell? ⟨w6.heap.size, 0, none⟩ = some (.int .i64 (r : Int)) := X_18.out.cell 0
   have c18_X1 : w18.cell? ⟨w6.heap.size, 1, none⟩ = some (.int .i64 (c : Int)) := X_18.out.cell 1
   have c18_X2 : w18.cell? ⟨w6.heap.size, 2, none⟩ = some (.slice (some ⟨b1, 0, none⟩) (r * c) (r * c)) := X_18.out.cell 2
   have l18_A : w.heap.size < w18.heap.size := A_18.out.lt
   have c18_A0 : w18.cell? ⟨w.heap.size, 0, none⟩ = some (.int .i64 (r : Int)) := A_18.out.cell 0
   have c18_A1 : w18.cell? ⟨w.heap.size, 1, none⟩ = some (.int .i64 (c : Int)) := A_18.out.cell 1
   have c18_A2 : w18.cell? ⟨w.heap.size, 2, none⟩ = some (.slice ao xs.length cap) := A_18.out.cell 2
   go_wp2_with fail
   generalize w18.alloc (.cells #[.int .i64 (r : Int), .int .i64 (c : Int), .slice (some ⟨b4, 0, none⟩) (r * c) (r * c)] 24) = w19 at *
   clear l18_X c18_X0 c18_X1 c18_X2 l18_A c18_A0 c18_A1 c18_A2
   have HX_19 : Hid (LsAt w19 L ao xs) := Lib.hid (LsAt.below (w := w18) HX_18.out (hb_))
   have A_19 : Hid (RowAt w19 (w.heap.size) 24 [.int .i64 (r : Int), .int .i64 (c : Int), .slice ao xs.length cap]) := Lib.hid (RowAt.below (w := w18) A_18.out (hb_) A_18.out.lt)
   have R1_19 : Hid (RowN w19 b1 hs2) := Lib.hid (RowN.below (w := w18) R1_18.out (hb_))
   have X_19 : Hid (RowAt w19 (w6.heap.size) 24 [.int .i64 (r : Int), .int .i64 (c : Int), .slice (some ⟨b1, 0, none⟩) (r * c) (r * c)]) := Lib.hid (RowAt.below (w := w18) X_18.out (hb_) X_18.out.lt)
   have R4_19 : Hid (RowN w19 b4 xs) := Lib.hid (RowN.below (w := w18) R4_18.out (hb_))
   have b_19 : Hid (Below w.heap.size w w19) := Lib.hid (b_18.out.trans (Below.mono (hb_) b_18.out.size))
   have sz_19 := (hb_).size
   clear HX_18 A_18 R1_18 X_18 R4_18 b_18
   have L_19 : Hid (RowAt w19 (w18.heap.size) 24 [.int .i64 (r : Int), .int .i64 (c : Int), .slice (some ⟨b4, 0, none⟩) (r * c) (r * c)]) := Lib.hid (r_)
   clear r_ hb_
   refine (AlikeMats_c (r : Int) (c : Int) (r : Int) (c : Int) (some ⟨b4, 0, none⟩) (some ⟨b1, 0, none⟩) (r * c) (r * c) (r * c) (r * c) xs hs2 _ R4_19.out.lsN R1_19.out.lsN HS.out.symm HL1.out.symm (by omega) (by omega) HW.out HXW.out).mono ?_
   rintro e w20 ⟨rfl, hb_⟩
   have HX_20 : Hid (LsAt w20 L ao xs) := Lib.hid (LsAt.below (w := w19) HX_19.out (hb_))
   have A_20 : Hid (RowAt w20 (w.heap.size) 24 [.int .i64 (r : Int), .int .i64 (c : Int), .slice ao xs.length cap]) := Lib.hid (RowAt.below (w := w19) A_19.out (hb_) A_19.out.lt)
   have R1_20 : Hid (RowN w20 b1 hs2) := Lib.hid (RowN.below (w := w19) R1_19.out (hb_))
   have X_20 : Hid (RowAt w20 (w6.heap.size) 24 [.int .i64 (r : Int), .int .i64 (c : Int), .slice (some ⟨b1, 0, none⟩) (r * c) (r * c)]) := Lib.hid (RowAt.below (w := w19) X_19.out (hb_) X_19.out.lt)
   have R4_20 : Hid (RowN w20 b4 xs) := Lib.hid (RowN.below (w := w19) R4_19.out (hb_))
   have L_20 : Hid (RowAt w20 (w18.heap.size) 24 [.int .i64 (r : Int), .int .i64 (c : Int), .slice (some ⟨b4, 0, none⟩) (r * c) (r * c)]) := Lib.hid (RowAt.below (w := w19) L_19.out (hb_) L_19.out.lt)
   have b_20 : Hid (Below w.heap.size w w20) := Lib.hid (b_19.out.trans (Below.mono (hb_) b_19.out.size))
   have sz_20 := (hb_).size
   clear HX_19 A_19 R1_19 X_19 R4_19 L_19 b_19
   clear hb_
   rw [HTA.out]
   go_wp2
   go_ret
   exact ⟨rfl, b_20.out⟩
 · skip
   have r_ := RowAt.new w18 #[.int .i64 (r : Int), .int .i64 (c : Int), .slice (some ⟨b4, 0, none⟩) (r * c) (r * c)] 24
   have hb_ : Below w18.heap.size w18 (w18.alloc (.cells #[.int .i64 (r : Int), .int .i64 (c : Int), .slice (some ⟨b4, 0, none⟩) (r * c) (r * c)] 24)) := (Below.refl _ _).alloc (Nat.le_refl _) _
   have l18_X : w6.heap.size < w18.heap.size := X_18.out.lt
   have c18_X0 : w18.cell? ⟨w6.heap.size, 0, none⟩ = some (.int .i64 (r : Int)) := X_18.out.cell 0
   have c18_X1 : w18.cell? ⟨w6.heap.size, 1, none⟩ = some (.int .i64 (c : Int)) := X_18.out.cell 1
   have c18_X2 : w18.cell? ⟨w6.heap.size, 2, none⟩ = some (.slice (some ⟨b1, 0, none⟩) (r * c) (r * c)) := X_18.out.cell 2
   have l18_A : w.heap.size < w18.heap.size := A_18.out.lt
   have c18_A0 : w18.cell? ⟨w.heap.size, 0, none⟩ = some (.int .i64 (r : Int)) := A_18.out.cell 0
   have c18_A1 : w18.cell? ⟨w.heap.size, 1, none⟩ = some (.int .i64 (c : Int)) := A_18.out.cell 1
   have c18_A2 : w18.cell? ⟨w.heap.size, 2, none⟩ = some (.slice ao xs.length cap) := A_18.out.cell 2
   go_wp2_with fail
   generalize w18.alloc (.cells #[.int .i64 (r : Int), .int .i64 (c : Int), .slice (some ⟨b4, 0, none⟩) (r * c) (r * c)] 24) = w19 at *
   clear l18_X c18_X0 c18_X1 c18_X2 l18_A c18_A0 c18_A1 c18_A2
   have HX_19 : Hid (LsAt w19 L ao xs) := Lib.hid (LsAt.below (w := w18) HX_18.out (hb_))
   have A_19 : Hid (RowAt w19 (w.heap.size) 24 [.int .i64 (r : Int), .int .i64 (c : Int), .slice ao xs.length cap]) := Lib.hid (RowAt.below (w := w18) A_18.out (hb_) A_18.out.lt)
   have R1_19 : Hid (RowN w19 b1 hs2) := Lib.hid (RowN.below (w := w18) R1_18.out (hb_))
   have X_19 : Hid (RowAt w19 (w6.heap.size) 24 [.int .i64 (r : Int), .int .i64 (c : Int), .slice (some ⟨b1, 0, none⟩) (r * c) (r * c)]) := Lib.hid (RowAt.below (w := w18) X_18.out (hb_) X_18.out.lt)
   have R4_19 : Hid (RowN w19 b4 xs) := Lib.hid (RowN.below (w := w18) R4_18.out (hb_))
   have b_19 : Hid (Below w.heap.size w w19) := Lib.hid (b_18.out.trans (Below.mono (hb_) b_18.out.size))
   have sz_19 := (hb_).size
   clear HX_18 A_18 R1_18 X_18 R4_18 b_18
   have L_19 : Hid (RowAt w19 (w18.heap.size) 24 [.int .i64 (r : Int), .int .i64 (c : Int), .slice (some ⟨b4, 0, none⟩) (r * c) (r * c)]) := Lib.hid (r_)
   clear r_ hb_
   refine (AlikeMats_c (r : Int) (c : Int) (r : Int) (c : Int) (some ⟨b4, 0, none⟩) (some ⟨b1, 0, none⟩) (r * c) (r * c) (r * c) (r * c) xs hs2 _ R4_19.out.lsN R1_19.out.lsN HS.out.symm HL1.out.symm (by omega) (by omega) HW.out HXW.out).mono ?_
   rintro e w20 ⟨rfl, hb_⟩
   have HX_20 : Hid (LsAt w20 L ao xs) := Lib.hid (LsAt.below (w := w19) HX_19.out (hb_))
   have A_20 : Hid (RowAt w20 (w.heap.size) 24 [.int .i64 (r : Int), .int .i64 (c : Int), .slice ao xs.length cap]) := Lib.hid (RowAt.below (w := w19) A_19.out (hb_) A_19.out.lt)
   have R1_20 : Hid (RowN w20 b1 hs2) := Lib.hid (RowN.below (w := w19) R1_19.out (hb_))
   have X_20 : Hid (RowAt w20 (w6.heap.size) 24 [.int .i64 (r : Int), .int .i64 (c : Int), .slice (some ⟨b1, 0, none⟩) (r * c) (r * c)]) := Lib.hid (RowAt.below (w := w19) X_19.out (hb_) X_19.out.lt)
   have R4_20 : Hid (RowN w20 b4 xs) := Lib.hid (RowN.below (w := w19) R4_19.out (hb_))
   have L_20 : Hid (RowAt w20 (w18.heap.size) 24 [.int .i64 (r : Int), .int .i64 (c : Int), .slice (some ⟨b4, 0, none⟩) (r * c) (r * c)]) := Lib.hid (RowAt.below (w := w19) L_19.out (hb_) L_19.out.lt)
   have b_20 : Hid (Below w.heap.size w w20) := Lib.hid (b_19.out.trans (Below.mono (hb_) b_19.out.size))
   have sz_20 := (hb_).size
   clear HX_19 A_19 R1_19 X_19 R4_19 L_19 b_19
   clear hb_
   rw [HTA.out]
   go_wp2
   go_ret
   exact ⟨rfl, b_20.out⟩
end Go.Proofs.YtknkkceioockjaaGreat
namespace Go.Proofs.YtknkkceioockjaaGreat
open Go.ChangeShapes Go.WideShapes Go.ChangeAt Go.RowKit Go.Deep
section
variable {H : Type} {enc : TypeId × Value -> H} {w : World} {base : Nat} {sp : Nat -> Bool} {held : Bool}
set_option maxRecDepth 100000 in
theorem open_step {fuel : Nat} {cs : List Value} {x : DataW H × List MemPlace} (h : DataW.trod enc Tryz.prog w base sp held fuel 78 cs = some x) :
 ∃ (s : Stp) (p : P4) (L : Nat), cs = [.int .i64 s.kind, .int .i64 s.i, .int .i64 s.j, .bool p.1, .slice p.2.1 p.2.2.1 p.2.2.2] /\ IntAt w L (av p) s.K /\ L + 4 <= Rows.uptoBulk x.1 := by
 obtain ⟨y0, y1, y2, y3, n, rfl, hl, h0, h1, h2, h3⟩ := Joins.trod_struct4 Tryz.underlying78 h
 obtain ⟨c0, c1, c2, c3, c4, rfl⟩ : ∃ c0 c1 c2 c3 c4, cs = [c0, c1, c2, c3, c4] := by
  have e : cs.length = 5 := hl.trans (by kernel_rfl)
  match cs, e with
  | [a, b, c, d, e], _ => exact ⟨a, b, c, d, e, rfl⟩
 rw [show Tryz.prog.cellsOf 3 = 1 by kernel_rfl] at h0 h1 h2
 rw [show Tryz.prog.cellsOf 45 = 2 by kernel_rfl] at h3
 obtain ⟨k, e0, -, -⟩ := DataW.trod_int Tryz.underlying3 h0
 obtain ⟨i, e1, -, -⟩ := DataW.trod_int Tryz.underlying3 h1
 obtain ⟨j, e2, -, -⟩ := DataW.trod_int Tryz.underlying3 h2
 obtain ⟨p, L, z, e3, hI, hbk⟩ := open_num h3
 simp at e0 e1 e2 e3
 obtain ⟨e3, e4⟩ := e3
 subst e0 e1 e2 e3 e4
 refine ⟨⟨k, i, j, z⟩, p, L, rfl, hI, ?_⟩
 rw [bulk_agg]
 simp only [Rows.uptoBulkAll]
 have := bulk_one y0.1
 omega
set_option maxRecDepth 100000 in
theorem open_steps {fuel : Nat} {cs : List Value} {x : DataW H × List MemPlace} (h : DataW.trod enc Tryz.prog w base sp held fuel 25 cs = some x) :
 ∃ so slen scap ss, cs = [.slice so slen scap] /\ slen = ss.length /\ StpAt w (Rows.uptoBulk x.1) so ss /\ kbd ss ss.length <= Rows.uptoBulk x.1 /\ ss.length <= Rows.uptoBulk x.1 := by
 rcases open_slice Tryz.underlying25 h with ⟨rfl, rfl⟩ | ⟨a, len, cap, m, n, D, Pl, rfl, hb, hl, hm, hmm, rfl, hi⟩
 · exact ⟨none, 0, 0, [], rfl, rfl, fun h => absurd h (by simp), Nat.zero_le _, Nat.zero_le _⟩
 · have hlm : len <= m := by rw [hmm]; split <;> omega
   have hD : ∀ i, i < len -> Rows.uptoBulk (D i) <= Rows.uptoBulkAll ((List.range len).map D) := fun i hi => bulk_mem (List.mem_map.2 ⟨i, List.mem_range.2 hi, rfl⟩)
   obtain ⟨l, hll, hp⟩ := list_of (n := len) (p := fun i (q : P4 × Stp) => (w.cell? (a.add (i * 5)) = some (.int .i64 q.2.kind) /\ w.cell? (a.add (i * 5 + 1)) = some (.int .i64 q.2.i) /\ w.cell? (a.add (i * 5 + 2)) = some (.int .i64 q.2.j) /\ w.cell? (a.add (i * 5 + 3)) = some (.bool q.1.1) /\ w.cell? (a.add (i * 5 + 4)) = some (.slice q.1.2.1 q.1.2.2.1 q.1.2.2.2)) /\ (IntAt w (Rows.uptoBulkAll ((List.range len).map D)) (av q.1) q.2.K /\ wlen q.2.K.natAbs + 1 <= Rows.uptoBulk (D i))) (fun i hil => by
    obtain ⟨cs', hc, ht⟩ := hi i (by omega)
    rw [show Tryz.prog.cellsOf 78 = 5 by kernel_rfl] at hc
    obtain ⟨s, p, L, rfl, hI, hbk⟩ := open_step ht
    obtain ⟨_, _, hcell⟩ := World.cells?_some hc
    have c0 := hcell 0 (by omega)
    have c1 := hcell 1 (by omega)
    have c2 := hcell 2 (by omega)
    have c3 := hcell 3 (by omega)
    have c4 := hcell 4 (by omega)
    rw [add_add] at c0 c1 c2 c3 c4
    have hbk' : L + 4 <= Rows.uptoBulk (D i) := hbk
    have hw := hI.wlen
    exact ⟨(p, s), ⟨by simpa using c0, by simpa using c1, by simpa using c2, by simpa using c3, by simpa using c4⟩, hI.mono (by have := hD i hil; omega), by show wlen s.K.natAbs + 1 <= _; omega⟩)
   have hbl : len <= Rows.uptoBulkAll ((List.range len).map D) := by have := bulk_length ((List.range len).map D); simpa using this
   have hkb : ∀ k, k <= len -> kbd (l.map Prod.snd) k <= Rows.uptoBulkAll ((List.range k).map D) := by
    intro k
    induction k with
    | zero => intro _; exact Nat.zero_le _
    | succ k ih =>
     intro hk
     have h1 := ih (by omega)
     have h2 := (hp k (by omega)).2.2
     rw [List.range_succ, List.map_append, bulk_append]
     have e : ((l.map Prod.snd).getD k ⟨0, 0, 0, 0⟩) = (l[k]'(by omega)).2 := by
      rw [List.getD_eq_getElem?_getD, List.getElem?_eq_getElem (by simpa using (by omega : k < l.length))]; simp
     show kbd (l.map Prod.snd) k + wlen ((l.map Prod.snd).getD k ⟨0, 0, 0, 0⟩).K.natAbs + 1 <= _
     rw [e]
     simp only [List.map_cons, List.map_nil, Rows.uptoBulkAll]
     omega
   refine ⟨some a, len, cap, l.map Prod.snd, rfl, by simp [hll], fun hpos => ?_, ?_, ?_⟩
   · have hpos' : 0 < len := by simpa [hll] using hpos
     have h0 := (hp 0 (by omega)).1.1
     obtain ⟨b, o, rfl, hblt⟩ := addr_none (a := a) (w := w) (by simpa [Addr.add] using h0)
     refine ⟨b, o, rfl, hblt, fun i hi' => ?_⟩
     have hil : i < l.length := by simpa using hi'
     obtain ⟨⟨c0, c1, c2, c3, c4⟩, hI, -⟩ := hp i hil
     rw [add_plain] at c0 c1 c2 c3 c4
     have e : (l.map Prod.snd)[i]'hi' = l[i].2 := by simp
     rw [e, bulk_slice]
     refine ⟨l[i].1, c0, by rw [<- Nat.add_assoc] at c1; exact c1, by rw [<- Nat.add_assoc] at c2; exact c2, by rw [<- Nat.add_assoc] at c3; exact c3, by rw [<- Nat.add_assoc] at c4; exact c4, hI.mono (by omega)⟩
   · have := hkb len (Nat.le_refl _)
     rw [bulk_slice, List.length_map, hll]
     omega
   · rw [bulk_slice, List.length_map, hll]; omega
end
namespace lawUnique
theorem own : ownKnob Tryz.prog.godebug = none := by kernel_rfl
set_option maxRecDepth 100000 in
theorem contract (H : Type) (enc : TypeId × Value -> H) (Wd : World) (base : Nat) (args : Array Value) (ds gs : List (DataW H)) (before : List MemPlace)
 (hval : ∀ (j : Nat) t v, Tryz.f3.params[j]? = some t -> args[j]? = some v -> Value.okWide Tryz.prog Wd .any base t v)
 (hW : DataW.Whole enc Tryz.prog Tryz.f3.params.toList Rows.hnfUniqueSpec.vars false Wd args.toList ds gs before) (hk : Rows.uptoSmall H (ds ++ gs) = true) :
 Calls Tryz.prog 3 args Wd fun e Wd' => ∃ v, e = .returned v /\ Rows.hnfUniqueSpec.post enc Tryz.prog Tryz.f3 false true false false Wd args v Wd' := by
 have hW' := hW
 obtain ⟨p, q, hA0, hV, rfl, hfz, hnd⟩ := hW
 have hA : DataW.TrodAll enc Tryz.prog Wd 0 (fun _ => true) true Tryz.f3.params.toList args.toList ds p := hA0
 rw [Tryz.params3] at hA hval
 obtain ⟨v0, vs0, d0, ds0, p0, q0, hargs, rfl, rfl, h0, r0⟩ := trodAll_cons hA
 obtain ⟨v1, vs1, d1, ds1, p1, q1, rfl, rfl, rfl, h1, r1⟩ := trodAll_cons r0
 obtain ⟨rfl, rfl, rfl⟩ := trodAll_nil r1
 obtain rfl : args = #[v0, v1] := by cases args; simp_all
 obtain ⟨rfl, rfl⟩ := trodVars_none hV
 have hbk := bulk_bound hk
 simp only [List.append_nil, Rows.uptoBulkAll] at hbk
 obtain ⟨m, n, ao, len, cap, xs, rfl, hlen, hcap, hL, hb⟩ := open_mat (hval 0 _ v0 rfl rfl) h0
 obtain ⟨a1, l1, k1, rfl⟩ := okWide_slice Tryz.underlying25 (hval 1 _ v1 rfl rfl)
 obtain ⟨f1, h1⟩ := h1
 obtain ⟨so, slen, scap, ss, hcs, hsl, hS, hkb, hsb⟩ := open_steps h1
 simp [Value.cells] at hcs
 obtain ⟨rfl, rfl, rfl⟩ := hcs
 have hS : StpAt Wd (Rows.uptoBulk d1) a1 ss := hS
 have hkb : kbd ss ss.length <= Rows.uptoBulk d1 := hkb
 have hsb : ss.length <= Rows.uptoBulk d1 := hsb
 have walk : Calls Tryz.prog 3 #[.agg #[.int .i64 m, .int .i64 n, .slice ao len cap], .slice a1 l1 k1] Wd fun e w' => e = .returned (.bool true) /\ Below Wd.heap.size Wd w' := by
  cases hs : soundM m n len with
  | false => exact Unique_u m n ao len cap a1 l1 k1 Wd hs
  | true =>
   obtain ⟨r, c, rfl, rfl, hr, hc, hrc⟩ := soundM_nat hs
   have hx : ∀ x ∈ xs, x.natAbs < W ^ Rows.uptoBulk d0 := fun x hx => by
    obtain ⟨i, hi, rfl⟩ := List.getElem_of_mem hx
    obtain ⟨b, o, _, _, hc⟩ := hL (by omega)
    obtain ⟨q, _, _, hI⟩ := hc i hi
    exact Nat.lt_of_lt_of_le (lt_pow_wlen _) (Nat.pow_le_pow_right (by decide) hI.wlen)
   refine Unique_c r c 1048576 (Rows.uptoBulk d0) ao len cap xs a1 l1 k1 ss Wd hr hc (hL.mono (by omega)) (Nat.le_refl _) hlen (hlen.symm.trans hrc) hx (fun hp => ?_) hsl (by omega) (by omega)
   obtain ⟨b, o, e, hlt, hc⟩ := hS hp
   exact ⟨b, o, e, hlt, fun k hk => by obtain ⟨q, g0, g1, g2, g3, g4, hI⟩ := hc k hk; exact ⟨q, g0, g1, g2, g3, g4, hI.mono (by omega)⟩⟩
 refine walk.mono fun e Wd' ⟨he, hg⟩ => ?_
 subst he
 exact ⟨_, rfl, law_post (by kernel_rfl) rfl (by kernel_rfl) hW' rfl rfl rfl hg⟩
set_option maxRecDepth 100000 in
theorem lifted (os : Os) (started : os.Started) (H : Type) (enc : TypeId × Value -> H) (F : Stop.Interp) :
 ReturnsInHanded {} Tryz.checked os 3 .any ((Rows.OpenSpec.upto Rows.hnfUniqueSpec).pre6 enc Tryz.prog Tryz.f3 Rows.hnfUniqueUptoRow.domain false) (((Rows.OpenSpec.upto Rows.hnfUniqueSpec).at F).post enc Tryz.prog Tryz.f3 false true false false) := by
 refine returnsInHanded_of_cond (C := Tryz.checked) (s := Rows.OpenSpec.upto Rows.hnfUniqueSpec) (k := Rows.uptoSmall) rfl own started (by kernel_rfl) Tryz.func3
  (OpenSpec.witness (enc := enc) (C := Tryz.checked) (s := Rows.OpenSpec.upto Rows.hnfUniqueSpec) (k := Rows.uptoSmall) rfl false ⟨#[], #[.agg #[.int .i64 0, .int .i64 0, .slice none 0 0], .slice none 0 0], []⟩ 8 (by kernel_rfl) (by kernel_rfl) (by kernel_rfl)
   (x := ([.agg [.lit (.int .i64 0), .lit (.int .i64 0), .nil], .nil], [], [])) (by kernel_rfl) rfl (by kernel_rfl)) ?_
 intro W base args ds gs before hval hW _ hk _
 exact contract H enc W base args ds gs before hval hW hk
theorem over : Rows.hnfUniqueUptoRow.holds Tryz.pinned (Rows.OpenSpec.upto Rows.hnfUniqueSpec) :=
 OpenClaim.holds_of_cond 3 Tryz.f3 rfl rfl rfl rfl rfl rfl rfl ⟨rfl, rfl, rfl, rfl, rfl⟩ rfl rfl rfl rfl rfl (by kernel_rfl) Tryz.func3 (by kernel_rfl)
  (of_decide_eq_true (by kernel_rfl)) (by unfold Func.isWrapper; first | (rw [if_pos (by decide +kernel)]; kernel_rfl) | (rw [if_neg (by decide +kernel)]; exact ⟨rfl, rfl⟩))
  (fun os started H enc _ F => lifted os started H enc F)
theorem proved : Rows.HnfUniqueUptoSaid := over
end lawUnique
end Go.Proofs.YtknkkceioockjaaGreat
