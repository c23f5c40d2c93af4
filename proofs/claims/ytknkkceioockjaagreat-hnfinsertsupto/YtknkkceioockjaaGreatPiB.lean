/- Part 2 of 7 of the proof that the law HnfInserts returns true for every input of bulk at most 1048576 and leaves its arguments as they were: here the contracts of the functions that it calls, and plain lemmas. -/
import Derived.Deep.RegionHeld3
import Derived.RegionTactic
import Derived.Test.YtknkkceioockjaaGreatPiA
set_option linter.all false
namespace Go.Proofs.YtknkkceioockjaaGreat
open Go.RowKit
set_option maxRecDepth 100000 in
set_option maxHeartbeats 2000000 in
theorem product_step (n : Nat) (IH : ProdSpec n) : ProdSpec (n + 1) := by
 intro aoA aoB lA cA lB cB xs ys w hA hB hlA hlB hcA hcB hn hm;subst hlA hlB;have hIH := Lib.hid IH; clear IH;have htA := tlen_le xs;have htB := tlen_le ys;have W1 := Lib.hid (hA.take (tlen xs));have W2 := Lib.hid (hB.take (tlen ys));have L1 : Hid ((xs.take (tlen xs)).length = tlen xs) := by rw [List.length_take, Nat.min_eq_left htA]; exact rfl
 have L2 : Hid ((ys.take (tlen ys)).length = tlen ys) := by rw [List.length_take, Nat.min_eq_left htB]; exact rfl
 have V1 : Hid (nval (xs.take (tlen xs)) = nval xs) := nval_take_tlen hA.ok;have V2 : Hid (nval (ys.take (tlen ys)) = nval ys) := nval_take_tlen hB.ok;go_enter Tryz.func158, Tryz.ntmps158
 go_upto_if 16 with (go_at_call 179; first | ((with_reducible refine (trim_c aoA _ _ xs _ hA rfl (by omega) hcA).mono ?_); rintro e w' ⟨rfl, rfl⟩) | ((with_reducible refine (trim_c aoB _ _ ys _ hB rfl (by omega) hcB).mono ?_); rintro e w' ⟨rfl, rfl⟩))
 go_cut [0, 1] (fun s0 s1 wc => ∃ (ao1 ao2 : Option Addr) (as_ bs : List Nat) (l1 l2 : Nat), s0 = .slice ao1 l1 l1 /\ s1 = .slice ao2 l2 l2 /\ WAt w ao1 as_ /\ WAt w ao2 bs /\ l2 <= l1 /\ Hid (l1 = as_.length) /\ Hid (l2 = bs.length) /\ Hid (l1 + l2 = tlen xs + tlen ys) /\ l1 + l2 < n + 1 /\ l1 + l2 <= 17592186044416 /\
  Hid (nval as_ * nval bs = nval xs * nval ys) /\ w = wc)
 case first =>
  by_cases hlt : tlen xs < tlen ys
  · have t1 : decide (((tlen xs : Nat) : Int) < ((tlen ys : Nat) : Int)) = true := by simp; omega
    go_wp2
    go_meet
    exact ⟨_, _, ys.take (tlen ys), xs.take (tlen xs), _, _, rfl, rfl, W2.out, W1.out, by omega, L2.out.symm, L1.out.symm, Lib.hid (by omega), by omega, by omega, Lib.hid (by rw [V1.out, V2.out, Nat.mul_comm]), rfl⟩
  · have t1 : decide (((tlen xs : Nat) : Int) < ((tlen ys : Nat) : Int)) = false := by simp; omega
    go_wp2
    go_meet
    exact ⟨_, _, xs.take (tlen xs), ys.take (tlen ys), _, _, rfl, rfl, W1.out, W2.out, by omega, L1.out.symm, L2.out.symm, Lib.hid rfl, by omega, by omega, Lib.hid (by rw [V1.out, V2.out]), rfl⟩
 case rest =>
  obtain ⟨ao1, ao2, as_, bs, l1, l2, rfl, rfl, h1, h2, hle, e1, e2, hsum, hn', hm', hprod, rfl⟩ := hcut;by_cases h24 : l2 < 24
  · have t1 : decide (((l2 : Nat) : Int) < 24) = true := by simp; omega
    go_wp2_with (first
     | (at_make; refine mk_words rfl _ _ rfl (l1 + l2) (l1 + l2) rfl rfl (by omega) (by omega) (Nat.le_refl _) (by omega) ?_; intro b w1 hm1)
     | (go_at_call 180; refine (rows_c _ _ b _ _ _ _ _ _ as_ bs _ hm1.row (h1.below hm1.below) (h2.below hm1.below) e1.out e2.out (by omega) rfl (h1.apart (Nat.le_of_eq hm1.at_.symm)) (h2.apart (Nat.le_of_eq hm1.at_.symm))).mono ?_; rintro e w2 ⟨rfl, cur', hR, hv⟩; have Hv := Lib.hid hv; clear hv))
    have hge : w.heap.size <= b := Nat.le_of_eq hm1.at_.symm;go_ret;refine ⟨b, cur', ?_, ⟨hR.row, hR.ok, hge, hR.below hm1.below hge hm1.below.size⟩, ?_, ?_⟩
    · rw [<- hsum.out]; rfl
    · rw [hR.len, List.length_replicate, hsum.out]
    · rw [Hv.out, hprod.out]
  · have t1 : decide (((l2 : Nat) : Int) < 24) = false := by simp; omega
    by_cases h2l : l1 < 2 * l2
    · have t2 : decide ((2 : Int) * ((l2 : Nat) : Int) <= ((l1 : Nat) : Int)) = false := by simp; omega
      go_wp2_with (first
       | (at_make; refine mk_words rfl _ _ rfl (l1 + l2) (l1 + l2) rfl rfl (by omega) (by omega) (Nat.le_refl _) (by omega) ?_; intro b w1 hm1)
       | (go_at_call 182; refine (halves_c n hIH.out _ _ b _ _ _ _ _ _ as_ bs _ hm1.row (h1.below hm1.below) (h2.below hm1.below) e1.out e2.out rfl rfl (by omega) rfl rfl (by omega) (by omega) (by omega) (by omega) (h1.apart (Nat.le_of_eq hm1.at_.symm)) (h2.apart (Nat.le_of_eq hm1.at_.symm))).mono ?_; rintro e w2 ⟨rfl, cur', hv, hr, hok, hlen, hg⟩; have Hv := Lib.hid hv; clear hv; have Hlen := Lib.hid hlen; clear hlen))
      have hge : w.heap.size <= b := Nat.le_of_eq hm1.at_.symm;go_ret;refine ⟨b, cur', ?_, ⟨hr, hok, hge, hm1.below.grown hg hm1.below.size (fun k e => by cases e; exact hge)⟩, ?_, ?_⟩
      · rw [<- hsum.out]; rfl
      · rw [Hlen.out, hsum.out]
      · rw [Hv.out, hprod.out]
    · have t2 : decide ((2 : Int) * ((l2 : Nat) : Int) <= ((l1 : Nat) : Int)) = true := by simp; omega
      go_wp2_with (first
       | (at_make; refine mk_words rfl _ _ rfl (l1 + l2) (l1 + l2) rfl rfl (by omega) (by omega) (Nat.le_refl _) (by omega) ?_; intro b w1 hm1))
      have hge : w.heap.size <= b := Nat.le_of_eq hm1.at_.symm;go_loopw [6] (fun i wr => ∃ (k q : Nat) (cu : List Nat), k = q * l2 /\ k < l1 + l2 /\ i = .int .i64 k /\ RowAt wr b 49 (cu.map wv) /\ Ok cu /\ cu.length = l1 + l2 /\ Below w.heap.size w wr /\ Hid (nval cu = nval (as_.take k) * nval bs)) (fun i _ => l1 + l2 - (intOf i).toNat)
      case atStart => exact ⟨0, 0, _, by omega, by omega, rfl, hm1.row, Ok.replicate _, by simp, hm1.below, Lib.hid (by rw [nval_replicate]; simp [nval])⟩
      case round =>
       obtain ⟨k, q, cu, hkq, hk, rfl, hrow, hok, hlen, hb, He⟩ := hrel;have Hkq := Lib.hid hkq; clear hkq;have Hlen := Lib.hid hlen; clear hlen;by_cases hlt : k < l1
       · obtain ⟨b1, o1, rfl, hb1, _⟩ := h1.pos (by have := e1.out; omega);obtain ⟨en, hen⟩ : ∃ en, en = min (k + l2) l1 := ⟨_, rfl⟩;have hmin : min ((k : Int) + (l2 : Int)) (l1 : Int) = (en : Int) := by omega
         have b1' : k < en := by omega
         have b2' : en <= l1 := by omega
         have b3' : en - k <= l2 := by omega
         have b4' : en = k + l2 ∨ en = l1 := by omega
         have Hen := Lib.hid b4'; clear b4' hen;have b5 : ¬ (en = k) := by omega
         have b6 : ¬ (l1 + l2 = k) := by omega
         have b7 : (en : Int) <= (l1 : Int) := by omega
         have b8 : (k : Int) <= (en : Int) := by omega
         have b9 : (k : Int) <= (l1 : Int) + (l2 : Int) := by omega
         have S1 : Hid (WAt wr (some ⟨b1, o1 + k, none⟩) ((as_.drop k).take (en - k))) := ((h1.below hb).drop k).take _;have S1l : Hid (((as_.drop k).take (en - k)).length = en - k) := by unfold Hid; rw [List.length_take, List.length_drop]; have := e1.out; omega
         have S2 : Hid (WAt wr ao2 bs) := h2.below hb;have t3 := tlen_le ((as_.drop k).take (en - k));rw [S1l.out] at t3;have t4 := tlen_le bs;rw [<- e2.out] at t4;have hbw : b < wr.heap.size := hrow.lt;have Hrow := Lib.hid hrow; clear hrow;go_wp2
         go_region_held3 (fun _ => True) (trivial)
          (first
           | (go_at_call 158; refine (hIH.out _ _ _ _ _ _ ((as_.drop k).take (en - k)) bs _ (by exact S1.out) (by exact S2.out) S1l.out.symm e2.out (Nat.le_refl _) (Nat.le_refl _) (by omega) (by omega)).mono ?_; rintro e w3 ⟨b3, z3, rfl, hN3, hl3, hv3⟩; have Hl3 := Lib.hid hl3; clear hl3; have Hv3 := Lib.hid hv3; clear hv3)
           | (go_at_call 179; refine (trim_c _ _ _ z3 _ (hN3.row.wat hN3.ok) Hl3.out.symm (by omega) (Nat.le_refl _)).mono ?_; rintro e w4 ⟨rfl, rfl⟩)
           | (go_at_call 181; have hr3 : RowAt w3 b 49 (cu.map wv) := RowAt.below (w := wr.drew) Hrow.out hN3.below hbw; have n3b : b3 ≠ b := (by have h : wr.heap.size <= b3 := hN3.ge; omega); have t5 := tlen_le z3; have t6 := Hl3.out; refine (addTo_c _ _ b k _ _ _ _ (z3.take (tlen z3)) cu _ hr3 hok (.inr rfl) (by have := Hlen.out; omega) ((hN3.row.wat hN3.ok).take _) (fun _ a ha => by cases ha; exact n3b) (by rw [List.length_take]; omega) (by omega) (by have := Hlen.out; omega)).mono ?_; rintro e w5 ⟨rfl, c5, cr, hR5, hcr, hs5, he5⟩; have Hs5 := Lib.hid hs5; clear hs5; have He5 := Lib.hid he5; clear he5))
         go_wp2;go_roundw
         case rel =>
          have hx : sv as_ 0 en = sv as_ 0 k + W ^ k * sv as_ k (en - k) := by
           have := sv_add as_ 0 k (en - k);rw [Nat.zero_add] at this;rw [<- this]; congr 1; omega
          rw [sv_take, sv_take] at hx;have hx2 : nval (as_.take (k + l2)) = nval (as_.take en) := by
           rcases Hen.out with h | h
           · rw [h]
           · rw [List.take_of_length_le (by have := e1.out; omega), List.take_of_length_le (by have := e1.out; omega)]
          have ht := addTo_total (o := k) (lz := l1 + l2 - k) (by have := Hlen.out; omega) (by have := Hlen.out; have := hR5.len; omega) Hs5.out He5.out;have n1 : k + (l1 + l2 - k) = l1 + l2 := by omega
          have hz : nval (z3.take (tlen z3)) = sv as_ k (en - k) * nval bs := by rw [nval_take_tlen hN3.ok, Hv3.out]; rfl
          have hlt' : nval (as_.take en) * nval bs < W ^ (l1 + l2) := by
           rw [Nat.pow_add];have q1 := nval_lt (h1.ok.take en);have q2 := nval_lt h2.ok;rw [<- e2.out] at q2;refine Nat.mul_lt_mul_of_le_of_lt (Nat.le_trans (Nat.le_of_lt q1) (Nat.pow_le_pow_right W_pos ?_)) q2 (Nat.pow_pos W_pos);rw [List.length_take]; omega
          rw [n1, He.out, hz] at ht;have hs : nval (as_.take en) * nval bs = nval (as_.take k) * nval bs + W ^ k * (sv as_ k (en - k) * nval bs) := by rw [hx, Nat.add_mul, Nat.mul_assoc]
          rw [<- hs] at ht;have hc0 := cr_zero ht hlt';rw [hc0, Nat.mul_zero, Nat.add_zero] at ht;have hb5 : Below w.heap.size w w5 := hR5.below (hb.drew.trans (hN3.below.mono hb.size)) hge (by have := hN3.below.size; have h : wr.drew.heap.size = wr.heap.size := rfl; have := hb.size; omega);exact ⟨k + l2, q + 1, c5, by have := Hkq.out; rw [Nat.add_mul, Nat.one_mul]; omega, by omega, by go_num, hR5.row, hR5.ok, by rw [hR5.len, Hlen.out], hb5, Lib.hid (by rw [hx2]; exact ht)⟩
         case measure => simp [intOf]; omega
       · go_wp2;go_ret;refine ⟨b, cu, ?_, ⟨hrow, hok, hge, hb⟩, ?_, ?_⟩
         · rw [<- hsum.out]; rfl
         · rw [Hlen.out, hsum.out]
         · rw [He.out, List.take_of_length_le (by have := e1.out; omega), hprod.out]
theorem product_all (n : Nat) : ProdSpec n := by
 induction n with
 | zero =>
  intro aoA aoB lA cA lB cB xs ys w hA hB hlA hlB hcA hcB hn hm;omega
 | succ n ih => exact product_step n ih
set_option maxHeartbeats 1000000 in
theorem MulN_c (aoA aoB : Option Addr) (lA cA lB cB : Nat) (xs ys : List Nat) (w : World) (hA : WAt w aoA xs) (hB : WAt w aoB ys) (hlA : lA = xs.length) (hlB : lB = ys.length) (hcA : lA <= cA) (hcB : lB <= cB) (hm : lA + lB <= 17592186044416) :
 Calls Tryz.prog 119 #[.slice aoA lA cA, .slice aoB lB cB] w fun e w' =>
  (∃ ao' cap', e = .returned (.slice ao' (wlen (nval xs * nval ys)) cap') /\ OwnW w' w.heap.size ao' (wlen (nval xs * nval ys)) cap' (dig (nval xs * nval ys))) /\ Below w.heap.size w w' := by
 subst hlA hlB;have t1 := tlen_le xs;have t2 := tlen_le ys;go_enter Tryz.func119, Tryz.ntmps119;go_wp2_with (first
  | (go_at_call 158; refine (product_all _ _ _ _ _ _ _ xs ys _ hA hB rfl rfl hcA hcB (Nat.lt_succ_self _) hm).mono ?_; rintro e w1 ⟨b, zs, rfl, hN, hl, hv⟩; have Hl := Lib.hid hl; clear hl; have Hv := Lib.hid hv; clear hv)
  | (go_at_call 116; refine (Least_c _ _ _ zs _ (hN.row.wat hN.ok) Hl.out.symm (by omega)).mono ?_; rintro e w2 ⟨⟨ao', cap', rfl, h1⟩, h2⟩))
 go_ret;rw [Hv.out] at h1 ⊢;exact ⟨⟨_, _, rfl, h1.mono hN.below.size⟩, hN.below.trans (h2.mono hN.below.size)⟩
theorem three_new (w : World) (c1 c2 c3 : Array Value) (t1 t2 t3 : TypeId) : RowAt (((w.alloc (.cells c1 t1)).alloc (.cells c2 t2)).alloc (.cells c3 t3)) w.heap.size t1 c1.toList /\ RowAt (((w.alloc (.cells c1 t1)).alloc (.cells c2 t2)).alloc (.cells c3 t3)) (w.heap.size + 1) t2 c2.toList /\
 RowAt (((w.alloc (.cells c1 t1)).alloc (.cells c2 t2)).alloc (.cells c3 t3)) (w.heap.size + 2) t3 c3.toList /\
 Below w.heap.size w (((w.alloc (.cells c1 t1)).alloc (.cells c2 t2)).alloc (.cells c3 t3)) := by
 obtain ⟨h1, h2, h3⟩ := two_new w c1 c2 t1 t2;have e : ((w.alloc (.cells c1 t1)).alloc (.cells c2 t2)).heap.size = w.heap.size + 2 := by simp
 refine ⟨h1.alloc _, h2.alloc _, ?_, h3.alloc (by omega) _⟩;have := RowAt.new ((w.alloc (.cells c1 t1)).alloc (.cells c2 t2)) c3 t3
 rwa [e] at this
theorem OwnI.setOther {w : World} {B : Nat} {v : Value} {x : Int} (h : OwnI w B v x) {p : Addr} (hp : p.block < B) (u : Value) : OwnI (w.setCell p u) B v x := by
 obtain ⟨ao, cap, rfl, hO⟩ := h;exact ⟨ao, cap, rfl, hO.setOther hp u⟩
theorem OwnI.done {w w4 : World} {r B : Nat} {v a b : Value} {x : Int} (h : OwnI w4 (r + 1) v x) (hB : B <= r) (hb : Below B w w4) :
 (∃ v', Ending.returned v = .returned v' /\ OwnI ((w4.setCell ⟨r, 0, none⟩ a).setCell ⟨r, 1, none⟩ b) B v' x) /\ Below B w ((w4.setCell ⟨r, 0, none⟩ a).setCell ⟨r, 1, none⟩ b) :=
 ⟨⟨v, rfl, ((h.setOther (p := ⟨r, 0, none⟩) (Nat.lt_succ_self _) a).setOther (p := ⟨r, 1, none⟩) (Nat.lt_succ_self _) b).mono (Nat.le_succ_of_le hB)⟩, (hb.setCell (p := ⟨r, 0, none⟩) hB a).setCell (p := ⟨r, 1, none⟩) hB b⟩
theorem zi_not (n : Bool) (m : Nat) : zi (!n) m = -zi n m := by cases n <;> simp [zi]
theorem zi_mul (a b : Bool) (m n : Nat) : zi (a != b) (m * n) = zi a m * zi b n := by
 cases a <;> cases b <;> simp [zi, Int.natCast_mul, Int.neg_mul, Int.mul_neg]
set_option maxRecDepth 100000 in
set_option maxHeartbeats 1000000 in
theorem INeg_c (v : Value) (x : Int) (w : World) (hA : IntAt w 17592186044415 v x) :
 Calls Tryz.prog 109 #[v] w fun e w' => (∃ v', e = .returned v' /\ OwnI w' w.heap.size v' (-x)) /\ Below w.heap.size w w' := by
 obtain ⟨n, ao, len, cap, ws, rfl, hW, hl, hL, hc, hx⟩ := hA;have Hx := Lib.hid hx; clear hx;have Hl := Lib.hid hl; clear hl;go_enter Tryz.func109, Tryz.ntmps109;go_wp2;obtain ⟨r1, r2, hb⟩ := two_new w #[.bool n, .slice ao len cap] #[.bool false, .slice none 0 0] 45 45;have hW2 := hW.below hb;generalize (w.alloc (.cells #[.bool n, .slice ao len cap] 45)).alloc (.cells #[.bool false, .slice none 0 0] 45) = w2 at *;have e1 : w2.cell? ⟨w.heap.size, 0, none⟩ = some (.bool n) := r1.cell 0;have e2 : w2.cell? ⟨w.heap.size, 1, none⟩ = some (.slice ao len cap) := r1.cell 1;have hb1 := r1.lt;have hb2 := r2.lt;have Hr2 := Lib.hid r2;have HW2 := Lib.hid hW2;clear r1 r2 hW2
 go_region_held3 (fun w' => w'.cell? ⟨w.heap.size, 0, none⟩ = some (.bool n) /\ w'.cell? ⟨w.heap.size, 1, none⟩ = some (.slice ao len cap))
  (first | exact ⟨e1, e2⟩ | exact ⟨(hb3.cell hb1).trans e1, (hb3.cell hb1).trans e2⟩ | exact ⟨(hb5.cell (Nat.lt_succ_self _)).trans e1, (hb5.cell (Nat.lt_succ_self _)).trans e2⟩ | exact ⟨(((hb5.setCell (Nat.le_refl _) _).setCell (Nat.le_refl _) _).cell (Nat.lt_succ_self _)).trans e1, (((hb5.setCell (Nat.le_refl _) _).setCell (Nat.le_refl _) _).cell (Nat.lt_succ_self _)).trans e2⟩)
  (first
   | (go_at_call 116; refine (Least_c _ _ _ ws _ (by exact HW2.out) Hl.out (by omega)).mono ?_; rintro e w3 ⟨⟨ao', cap', rfl, hO⟩, hb3⟩)
   | (go_at_call 115; refine (of_c (!n) _ _ _ _).mono ?_; rintro e w4 ⟨rfl, hb4⟩; have hb5 : Below (w.heap.size + 1) w2.drew w4 := (hb3.trans (hb4.mono hb3.size)).mono (Nat.le_of_lt hb2); have hr4 := (RowAt.below (w := w2.drew) Hr2.out hb3 hb2).below hb4 (Nat.lt_of_lt_of_le hb2 hb3.size); have hf0 := hr4.free 0; have hf1 := hr4.free 1; have hc0 := hr4.cell 0; have hc1 := hr4.cell 1))
 go_wp2;have hr5 := hr4.set2 (.bool (!n && decide (0 < wlen (nval ws)))) (.slice ao' (wlen (nval ws)) cap');have hs2 : w.heap.size <= w2.heap.size := by omega
 have hbf : Below w.heap.size w w4 := (hb.drew.trans (hb3.mono hs2)).trans (hb4.mono (Nat.le_trans hs2 hb3.size));refine bodyPost_ret (results_int (p := 2) (by kernel_rfl) _ _ (w.heap.size + 1) _ _ rfl hr5) rfl ?_;have hO' := (hO.mono (B' := w.heap.size + 2) (by show w.heap.size + 2 <= w2.heap.size; omega)).below hb4;have hI := OwnI.mk (!n) hO';rw [Hx.out];rw [zi_not] at hI;exact OwnI.done hI (Nat.le_succ _) hbf
set_option maxRecDepth 100000 in
set_option maxHeartbeats 1000000 in
theorem IAbs_c (v : Value) (x : Int) (w : World) (hA : IntAt w 17592186044415 v x) :
 Calls Tryz.prog 193 #[v] w fun e w' => (∃ v', e = .returned v' /\ OwnI w' w.heap.size v' ((x.natAbs : Nat) : Int)) /\ Below w.heap.size w w' := by
 obtain ⟨n, ao, len, cap, ws, rfl, hW, hl, hL, hc, hx⟩ := hA;have Hx := Lib.hid hx; clear hx;have Hl := Lib.hid hl; clear hl;go_enter Tryz.func193, Tryz.ntmps193;go_wp2_with fail
 obtain ⟨r1, r2, hb⟩ := two_new w #[.bool n, .slice ao len cap] #[.bool false, .slice none 0 0] 45 45;have hW2 := hW.below hb;generalize (w.alloc (.cells #[.bool n, .slice ao len cap] 45)).alloc (.cells #[.bool false, .slice none 0 0] 45) = w2 at *;have hb2 := r2.lt;refine (Least_c _ _ _ ws _ hW2 Hl.out (by omega)).mono ?_;rintro e w3 ⟨⟨ao', cap', rfl, hO⟩, hb3⟩;go_wp2_with fail
 refine (of_c false _ _ _ _).mono ?_;rintro e w4 ⟨rfl, hb4⟩;have hr4 := (r2.below hb3 hb2).below hb4 (Nat.lt_of_lt_of_le hb2 hb3.size);have hf0 := hr4.free 0;have hf1 := hr4.free 1;have hc0 := hr4.cell 0;have hc1 := hr4.cell 1;clear r1 r2;go_wp2;have hr5 := hr4.set2 (.bool false) (.slice ao' (wlen (nval ws)) cap');have hs2 : w.heap.size <= w2.heap.size := by omega
 have hbf : Below w.heap.size w w4 := (hb.trans (hb3.mono hs2)).trans (hb4.mono (Nat.le_trans hs2 hb3.size));refine bodyPost_ret (results_int (p := 2) (by kernel_rfl) _ _ (w.heap.size + 1) _ _ rfl hr5) rfl ?_;have hO' := (hO.mono (B' := w.heap.size + 2) (by show w.heap.size + 2 <= w2.heap.size; omega)).below hb4;have hI := OwnI.mk false hO';rw [Hx.out, zi_abs];exact OwnI.done hI (Nat.le_succ _) hbf
set_option maxRecDepth 100000 in
set_option maxHeartbeats 1000000 in
theorem IMul_c (v u : Value) (x y : Int) (LA LB : Nat) (w : World) (hA : IntAt w LA v x) (hB : IntAt w LB u y) (hL : LA + LB <= 17592186044415) :
 Calls Tryz.prog 72 #[v, u] w fun e w' => (∃ v', e = .returned v' /\ OwnI w' w.heap.size v' (x * y)) /\ Below w.heap.size w w' := by
 obtain ⟨n, ao, len, cap, ws, rfl, hW, hl, hL1, hc, hx⟩ := hA;obtain ⟨n2, ao2, len2, cap2, ws2, rfl, hW2, hl2, hL2, hc2, hx2⟩ := hB;have Hx := Lib.hid hx; clear hx;have Hl := Lib.hid hl; clear hl;have Hx2 := Lib.hid hx2; clear hx2;have Hl2 := Lib.hid hl2; clear hl2;go_enter Tryz.func72, Tryz.ntmps72;go_wp2;obtain ⟨r1, r2, r3, hb⟩ := three_new w #[.bool n, .slice ao len cap] #[.bool n2, .slice ao2 len2 cap2] #[.bool false, .slice none 0 0] 45 45 45;have hW' := hW.below hb;have hW2' := hW2.below hb;generalize ((w.alloc (.cells #[.bool n, .slice ao len cap] 45)).alloc (.cells #[.bool n2, .slice ao2 len2 cap2] 45)).alloc (.cells #[.bool false, .slice none 0 0] 45) = w2 at *;have e1 : w2.cell? ⟨w.heap.size, 0, none⟩ = some (.bool n) := r1.cell 0;have e2 : w2.cell? ⟨w.heap.size, 1, none⟩ = some (.slice ao len cap) := r1.cell 1;have e3 : w2.cell? ⟨w.heap.size + 1, 0, none⟩ = some (.bool n2) := r2.cell 0;have e4 : w2.cell? ⟨w.heap.size + 1, 1, none⟩ = some (.slice ao2 len2 cap2) := r2.cell 1;have hb2 := r3.lt;have k0 : w.heap.size < w.heap.size + 2 := by omega
 have k1 : w.heap.size + 1 < w.heap.size + 2 := by omega
 have Hr3 := Lib.hid r3;have HW := Lib.hid hW';have HW2 := Lib.hid hW2';clear r1 r2 r3 hW' hW2'
 go_region_held3 (fun w' => w'.cell? ⟨w.heap.size, 0, none⟩ = some (.bool n) /\ w'.cell? ⟨w.heap.size, 1, none⟩ = some (.slice ao len cap) /\ w'.cell? ⟨w.heap.size + 1, 0, none⟩ = some (.bool n2) /\ w'.cell? ⟨w.heap.size + 1, 1, none⟩ = some (.slice ao2 len2 cap2))
  (first
   | exact ⟨e1, e2, e3, e4⟩
   | exact ⟨(hb3'.cell k0).trans e1, (hb3'.cell k0).trans e2, (hb3'.cell k1).trans e3, (hb3'.cell k1).trans e4⟩
   | exact ⟨(hb5.cell k0).trans e1, (hb5.cell k0).trans e2, (hb5.cell k1).trans e3, (hb5.cell k1).trans e4⟩
   | exact ⟨(((hb5.setCell (Nat.le_refl _) _).setCell (Nat.le_refl _) _).cell k0).trans e1, (((hb5.setCell (Nat.le_refl _) _).setCell (Nat.le_refl _) _).cell k0).trans e2, (((hb5.setCell (Nat.le_refl _) _).setCell (Nat.le_refl _) _).cell k1).trans e3, (((hb5.setCell (Nat.le_refl _) _).setCell (Nat.le_refl _) _).cell k1).trans e4⟩)
  (first
   | (go_at_call 119; refine (MulN_c _ _ _ _ _ _ ws ws2 _ (by exact HW.out) (by exact HW2.out) Hl.out Hl2.out hc hc2 (by omega)).mono ?_; rintro e w3 ⟨⟨ao', cap', rfl, hO⟩, hb3⟩; have hb3' : Below (w.heap.size + 2) w2.drew w3 := hb3.mono (Nat.le_of_lt hb2))
   | (go_at_call 115; refine (of_c (n != n2) _ _ _ _).mono ?_; rintro e w4 ⟨rfl, hb4⟩; have hb5 : Below (w.heap.size + 2) w2.drew w4 := (hb3.trans (hb4.mono hb3.size)).mono (Nat.le_of_lt hb2); have hr4 := (RowAt.below (w := w2.drew) Hr3.out hb3 hb2).below hb4 (Nat.lt_of_lt_of_le hb2 hb3.size); have hf0 := hr4.free 0; have hf1 := hr4.free 1; have hc0 := hr4.cell 0; have hc1 := hr4.cell 1))
 go_wp2;have hr5 := hr4.set2 (.bool ((n != n2) && decide (0 < wlen (nval ws * nval ws2)))) (.slice ao' (wlen (nval ws * nval ws2)) cap');have hs2 : w.heap.size <= w2.heap.size := by omega
 have hbf : Below w.heap.size w w4 := (hb.drew.trans (hb3.mono hs2)).trans (hb4.mono (Nat.le_trans hs2 hb3.size));refine bodyPost_ret (results_int (p := 4) (by kernel_rfl) _ _ (w.heap.size + 2) _ _ rfl hr5) rfl ?_;have hO' := (hO.mono (B' := w.heap.size + 3) (by show w.heap.size + 3 <= w2.heap.size; omega)).below hb4;have hI := OwnI.mk (n != n2) hO';rw [zi_mul] at hI;rw [Hx.out, Hx2.out];exact OwnI.done hI (by omega) hbf
theorem zi_add (n : Bool) (a b : Nat) : zi n (a + b) = zi n a + zi n b := by cases n <;> simp [zi] <;> omega
theorem zi_subR {n n2 : Bool} (h : n ≠ n2) {a b : Nat} (hle : b <= a) : zi n (a - b) = zi n a + zi n2 b := by
 cases n <;> cases n2 <;> simp [zi] at h ⊢ <;> omega
theorem zi_subL {n n2 : Bool} (h : n ≠ n2) {a b : Nat} (hle : a <= b) : zi n2 (b - a) = zi n a + zi n2 b := by
 cases n <;> cases n2 <;> simp [zi] at h ⊢ <;> omega
set_option maxRecDepth 100000 in
set_option maxHeartbeats 1000000 in
theorem IAdd_c (v u : Value) (x y : Int) (w : World) (hA : IntAt w 17592186044415 v x) (hB : IntAt w 17592186044415 u y) :
 Calls Tryz.prog 118 #[v, u] w fun e w' => (∃ v', e = .returned v' /\ OwnI w' w.heap.size v' (x + y)) /\ Below w.heap.size w w' := by
 obtain ⟨n, ao, len, cap, ws, rfl, hW, hl, hL1, hc, hx⟩ := hA;obtain ⟨n2, ao2, len2, cap2, ws2, rfl, hW2, hl2, hL2, hc2, hx2⟩ := hB;have Hx := Lib.hid hx; clear hx;have Hl := Lib.hid hl; clear hl;have Hx2 := Lib.hid hx2; clear hx2;have Hl2 := Lib.hid hl2; clear hl2;go_enter Tryz.func118, Tryz.ntmps118;by_cases hne : n = n2
 · subst hne;go_wp2;obtain ⟨r1, r2, r3, hb⟩ := three_new w #[.bool n, .slice ao len cap] #[.bool n, .slice ao2 len2 cap2] #[.bool false, .slice none 0 0] 45 45 45;have hW' := hW.below hb;have hW2' := hW2.below hb;generalize ((w.alloc (.cells #[.bool n, .slice ao len cap] 45)).alloc (.cells #[.bool n, .slice ao2 len2 cap2] 45)).alloc (.cells #[.bool false, .slice none 0 0] 45) = w2 at *;have e1 : w2.cell? ⟨w.heap.size, 0, none⟩ = some (.bool n) := r1.cell 0;have e2 : w2.cell? ⟨w.heap.size, 1, none⟩ = some (.slice ao len cap) := r1.cell 1;have e4 : w2.cell? ⟨w.heap.size + 1, 1, none⟩ = some (.slice ao2 len2 cap2) := r2.cell 1;have hb2 := r3.lt;have k0 : w.heap.size < w.heap.size + 2 := by omega
   have k1 : w.heap.size + 1 < w.heap.size + 2 := by omega
   have Hr3 := Lib.hid r3;have HW := Lib.hid hW';have HW2 := Lib.hid hW2';clear r1 r2 r3 hW' hW2'
   go_region_held3 (fun w' => w'.cell? ⟨w.heap.size, 0, none⟩ = some (.bool n) /\ w'.cell? ⟨w.heap.size, 1, none⟩ = some (.slice ao len cap) /\ w'.cell? ⟨w.heap.size + 1, 1, none⟩ = some (.slice ao2 len2 cap2))
    (first
     | exact ⟨e1, e2, e4⟩
     | exact ⟨(hb3'.cell k0).trans e1, (hb3'.cell k0).trans e2, (hb3'.cell k1).trans e4⟩
     | exact ⟨(hb5.cell k0).trans e1, (hb5.cell k0).trans e2, (hb5.cell k1).trans e4⟩
     | exact ⟨(((hb5.setCell (Nat.le_refl _) _).setCell (Nat.le_refl _) _).cell k0).trans e1, (((hb5.setCell (Nat.le_refl _) _).setCell (Nat.le_refl _) _).cell k0).trans e2, (((hb5.setCell (Nat.le_refl _) _).setCell (Nat.le_refl _) _).cell k1).trans e4⟩)
    (first
     | (go_at_call 156; refine (Add_c _ _ _ _ _ _ ws ws2 _ (by exact HW.out) (by exact HW2.out) Hl.out Hl2.out (by omega) (by omega)).mono ?_; rintro e w3 ⟨⟨ao', cap', rfl, hO⟩, hb3⟩; have hb3' : Below (w.heap.size + 2) w2.drew w3 := hb3.mono (Nat.le_of_lt hb2))
     | (go_at_call 115; refine (of_c n _ _ _ _).mono ?_; rintro e w4 ⟨rfl, hb4⟩; have hb5 : Below (w.heap.size + 2) w2.drew w4 := (hb3.trans (hb4.mono hb3.size)).mono (Nat.le_of_lt hb2); have hr4 := (RowAt.below (w := w2.drew) Hr3.out hb3 hb2).below hb4 (Nat.lt_of_lt_of_le hb2 hb3.size); have hf0 := hr4.free 0; have hf1 := hr4.free 1; have hc0 := hr4.cell 0; have hc1 := hr4.cell 1))
   go_wp2;have hr5 := hr4.set2 (.bool (n && decide (0 < wlen (nval ws + nval ws2)))) (.slice ao' (wlen (nval ws + nval ws2)) cap');have hs2 : w.heap.size <= w2.heap.size := by omega
   have hbf : Below w.heap.size w w4 := (hb.drew.trans (hb3.mono hs2)).trans (hb4.mono (Nat.le_trans hs2 hb3.size));refine bodyPost_ret (results_int (p := 4) (by kernel_rfl) _ _ (w.heap.size + 2) _ _ rfl hr5) rfl ?_;have hO' := (hO.mono (B' := w.heap.size + 3) (by show w.heap.size + 3 <= w2.heap.size; omega)).below hb4;have hI := OwnI.mk n hO';rw [zi_add] at hI;rw [Hx.out, Hx2.out];exact OwnI.done hI (by omega) hbf
 · have hnb : (n == n2) = false := by simpa using hne
   go_wp2_with fail
   obtain ⟨r1, r2, r3, hb⟩ := three_new w #[.bool n, .slice ao len cap] #[.bool n2, .slice ao2 len2 cap2] #[.bool false, .slice none 0 0] 45 45 45;generalize ((w.alloc (.cells #[.bool n, .slice ao len cap] 45)).alloc (.cells #[.bool n2, .slice ao2 len2 cap2] 45)).alloc (.cells #[.bool false, .slice none 0 0] 45) = w2 at *;refine (Cmp_c _ _ _ _ _ _ ws ws2 _ (hW.below hb) (hW2.below hb) Hl.out Hl2.out (by omega) (by omega)).mono ?_;rintro e w3 ⟨rfl, hb3⟩;have R1 := r1.below hb3 r1.lt;have R2 := r2.below hb3 r2.lt;have R3 := r3.below hb3 r3.lt;have HB : Below w.heap.size w w3 := hb.trans (hb3.mono hb.size);clear r1 r2 r3;have e1 : w3.cell? ⟨w.heap.size, 0, none⟩ = some (.bool n) := R1.cell 0;have e2 : w3.cell? ⟨w.heap.size, 1, none⟩ = some (.slice ao len cap) := R1.cell 1;have e3 : w3.cell? ⟨w.heap.size + 1, 0, none⟩ = some (.bool n2) := R2.cell 0;have e4 : w3.cell? ⟨w.heap.size + 1, 1, none⟩ = some (.slice ao2 len2 cap2) := R2.cell 1;by_cases hlt : nval ws < nval ws2
   · rw [ncmp_lt hlt];have HlE := Lib.hid (Nat.le_of_lt hlt); clear hlt;have g1 := R1.free 0;have g2 := R1.free 1;have g3 := R2.free 0;have g4 := R2.free 1;go_wp2_with fail
     have S1 := ((R1.set2 (.bool n2) (.slice ao2 len2 cap2)).other (p := ⟨w.heap.size + 1, 0, none⟩) (by show w.heap.size ≠ w.heap.size + 1; omega) (.bool n)).other (p := ⟨w.heap.size + 1, 1, none⟩) (by show w.heap.size ≠ w.heap.size + 1; omega) (.slice ao len cap);have S2 := (((R2.other (p := ⟨w.heap.size, 0, none⟩) (by show w.heap.size + 1 ≠ w.heap.size; omega) (.bool n2)).other (p := ⟨w.heap.size, 1, none⟩) (by show w.heap.size + 1 ≠ w.heap.size; omega) (.slice ao2 len2 cap2))).set2 (.bool n) (.slice ao len cap);have S3 := (((R3.other (p := ⟨w.heap.size, 0, none⟩) (by show w.heap.size + 2 ≠ w.heap.size; omega) (.bool n2)).other (p := ⟨w.heap.size, 1, none⟩) (by show w.heap.size + 2 ≠ w.heap.size; omega) (.slice ao2 len2 cap2)).other (p := ⟨w.heap.size + 1, 0, none⟩) (by show w.heap.size + 2 ≠ w.heap.size + 1; omega) (.bool n)).other (p := ⟨w.heap.size + 1, 1, none⟩) (by show w.heap.size + 2 ≠ w.heap.size + 1; omega) (.slice ao len cap);have SB := (((HB.setCell (p := ⟨w.heap.size, 0, none⟩) (Nat.le_refl _) (.bool n2)).setCell (p := ⟨w.heap.size, 1, none⟩) (Nat.le_refl _) (.slice ao2 len2 cap2)).setCell (p := ⟨w.heap.size + 1, 0, none⟩) (Nat.le_succ _) (.bool n)).setCell (p := ⟨w.heap.size + 1, 1, none⟩) (Nat.le_succ _) (.slice ao len cap);clear R1 R2 R3 HB e1 e2 e3 e4 g1 g2 g3 g4 hb3;generalize (((w3.setCell ⟨w.heap.size, 0, none⟩ (.bool n2)).setCell ⟨w.heap.size, 1, none⟩ (.slice ao2 len2 cap2)).setCell ⟨w.heap.size + 1, 0, none⟩ (.bool n)).setCell ⟨w.heap.size + 1, 1, none⟩ (.slice ao len cap) = w3' at *;clear w3;obtain ⟨w3, rfl⟩ : ∃ w3 : World, w3 = w3' := ⟨_, rfl⟩;have R1 := S1;have R2 := S2;have R3 := S3;have HB := SB;clear S1 S2 S3 SB;refine (Sub_c _ _ _ _ _ _ ws2 ws _ (hW2.below HB) (hW.below HB) Hl2.out Hl.out (by omega) (by omega) HlE.out).mono ?_;rintro e w4 ⟨⟨ao', cap', rfl, hO⟩, hb4⟩;have R1' := R1.below hb4 R1.lt;have R3' := R3.below hb4 R3.lt;have f1 : w4.cell? ⟨w.heap.size, 0, none⟩ = some (.bool n2) := R1'.cell 0;have k4 := R3'.lt;go_wp2_with fail
     refine (of_c n2 _ _ _ _).mono ?_;rintro e w5 ⟨rfl, hb5⟩;have hr5 := R3'.below hb5 R3'.lt;have hf0 := hr5.free 0;have hf1 := hr5.free 1;have hc0 := hr5.cell 0;have hc1 := hr5.cell 1;have hs3 : w.heap.size + 3 <= w3.heap.size := R3.lt;have hbf : Below w.heap.size w w5 := (HB.trans (hb4.mono (by omega))).trans (hb5.mono (by have := hb4.size; omega));clear R1 R1' R2 R3 R3';go_wp2;have hr6 := hr5.set2 (.bool (n2 && decide (0 < wlen (nval ws2 - nval ws)))) (.slice ao' (wlen (nval ws2 - nval ws)) cap');refine bodyPost_ret (results_int (p := 4) (by kernel_rfl) _ _ (w.heap.size + 2) _ _ rfl hr6) rfl ?_;have hO' := (hO.mono (B' := w.heap.size + 3) hs3).below hb5;have hI := OwnI.mk n2 hO';rw [zi_subL hne HlE.out] at hI;rw [Hx.out, Hx2.out];exact OwnI.done hI (by omega) hbf
   · have hc' : decide (ncmp (nval ws) (nval ws2) < 0) = false := by
      unfold ncmp; rw [if_neg hlt]; split <;> rfl
     have HlE := Lib.hid (Nat.le_of_not_lt hlt); clear hlt;generalize ncmp (nval ws) (nval ws2) = cm at *;go_wp2_with fail
     refine (Sub_c _ _ _ _ _ _ ws ws2 _ (hW.below HB) (hW2.below HB) Hl.out Hl2.out (by omega) (by omega) HlE.out).mono ?_;rintro e w4 ⟨⟨ao', cap', rfl, hO⟩, hb4⟩;have R1' := R1.below hb4 R1.lt;have R3' := R3.below hb4 R3.lt;have f1 : w4.cell? ⟨w.heap.size, 0, none⟩ = some (.bool n) := R1'.cell 0;have k4 := R3'.lt;go_wp2_with fail
     refine (of_c n _ _ _ _).mono ?_;rintro e w5 ⟨rfl, hb5⟩;have hr5 := R3'.below hb5 R3'.lt;have hf0 := hr5.free 0;have hf1 := hr5.free 1;have hc0 := hr5.cell 0;have hc1 := hr5.cell 1;have hs3 : w.heap.size + 3 <= w3.heap.size := R3.lt;have hbf : Below w.heap.size w w5 := (HB.trans (hb4.mono (by omega))).trans (hb5.mono (by have := hb4.size; omega));clear R1 R1' R2 R3 R3';go_wp2;have hr6 := hr5.set2 (.bool (n && decide (0 < wlen (nval ws - nval ws2)))) (.slice ao' (wlen (nval ws - nval ws2)) cap');refine bodyPost_ret (results_int (p := 4) (by kernel_rfl) _ _ (w.heap.size + 2) _ _ rfl hr6) rfl ?_;have hO' := (hO.mono (B' := w.heap.size + 3) hs3).below hb5;have hI := OwnI.mk n hO';rw [zi_subR hne HlE.out] at hI;rw [Hx.out, Hx2.out];exact OwnI.done hI (by omega) hbf
set_option maxRecDepth 100000 in
set_option maxHeartbeats 1000000 in
theorem ISub_c (v u : Value) (x y : Int) (w : World) (hA : IntAt w 17592186044415 v x) (hB : IntAt w 17592186044415 u y) :
 Calls Tryz.prog 71 #[v, u] w fun e w' => (∃ v', e = .returned v' /\ OwnI w' w.heap.size v' (x - y)) /\ Below w.heap.size w w' := by
 obtain ⟨n, ao, len, cap, ws, rfl, hW, hl, hL1, hc, hx⟩ := hA;obtain ⟨n2, ao2, len2, cap2, ws2, rfl, hW2, hl2, hL2, hc2, hx2⟩ := hB;have Hx := Lib.hid hx; clear hx;have Hl := Lib.hid hl; clear hl;have Hx2 := Lib.hid hx2; clear hx2;have Hl2 := Lib.hid hl2; clear hl2;go_enter Tryz.func71, Tryz.ntmps71;go_wp2_with fail
 obtain ⟨r1, r2, r3, hb⟩ := three_new w #[.bool n, .slice ao len cap] #[.bool n2, .slice ao2 len2 cap2] #[.bool false, .slice none 0 0] 45 45 45;generalize ((w.alloc (.cells #[.bool n, .slice ao len cap] 45)).alloc (.cells #[.bool n2, .slice ao2 len2 cap2] 45)).alloc (.cells #[.bool false, .slice none 0 0] 45) = w2 at *;have hI1 : IntAt w2 17592186044415 (.agg #[.bool n, .slice ao len cap]) x := ⟨n, ao, len, cap, ws, rfl, hW.below hb, Hl.out, hL1, hc, Hx.out⟩;have hI2 : IntAt w2 17592186044415 (.agg #[.bool (!n2), .slice ao2 len2 cap2]) (-y) := ⟨!n2, ao2, len2, cap2, ws2, rfl, hW2.below hb, Hl2.out, hL2, hc2, by rw [zi_not, Hx2.out]⟩;refine (IAdd_c _ _ x (-y) _ hI1 hI2).mono ?_;rintro e w3 ⟨⟨v', rfl, hO⟩, hb3⟩;have hs3 : w.heap.size + 3 <= w2.heap.size := r3.lt;have hr4 := r3.below hb3 r3.lt;have hf0 := hr4.free 0;have hf1 := hr4.free 1;have hc0 := hr4.cell 0;have hc1 := hr4.cell 1;have hbf : Below w.heap.size w w3 := hb.trans (hb3.mono hb.size);have HO := Lib.hid hO;obtain ⟨ao', cap', rfl, -⟩ := hO;clear r1 r2 r3;go_wp2;have hr6 := hr4.set2 (.bool (decide (x + -y < 0))) (.slice ao' (wlen (x + -y).natAbs) cap');refine bodyPost_ret (results_int (p := 4) (by kernel_rfl) _ _ (w.heap.size + 2) _ _ rfl hr6) rfl ?_;have hO' := HO.out.mono (B' := w.heap.size + 3) hs3;rw [Int.sub_eq_add_neg];exact OwnI.done hO' (by omega) hbf
theorem four_new (w : World) (c1 c2 c3 c4 : Array Value) (t1 t2 t3 t4 : TypeId) : RowAt ((((w.alloc (.cells c1 t1)).alloc (.cells c2 t2)).alloc (.cells c3 t3)).alloc (.cells c4 t4)) w.heap.size t1 c1.toList /\ RowAt ((((w.alloc (.cells c1 t1)).alloc (.cells c2 t2)).alloc (.cells c3 t3)).alloc (.cells c4 t4)) (w.heap.size + 1) t2 c2.toList /\
 RowAt ((((w.alloc (.cells c1 t1)).alloc (.cells c2 t2)).alloc (.cells c3 t3)).alloc (.cells c4 t4)) (w.heap.size + 2) t3 c3.toList /\ RowAt ((((w.alloc (.cells c1 t1)).alloc (.cells c2 t2)).alloc (.cells c3 t3)).alloc (.cells c4 t4)) (w.heap.size + 3) t4 c4.toList /\
 Below w.heap.size w ((((w.alloc (.cells c1 t1)).alloc (.cells c2 t2)).alloc (.cells c3 t3)).alloc (.cells c4 t4)) := by
 obtain ⟨h1, h2, h3, h4⟩ := three_new w c1 c2 c3 t1 t2 t3;have e : (((w.alloc (.cells c1 t1)).alloc (.cells c2 t2)).alloc (.cells c3 t3)).heap.size = w.heap.size + 3 := by simp
 refine ⟨h1.alloc _, h2.alloc _, h3.alloc _, ?_, h4.alloc (by omega) _⟩;have := RowAt.new (((w.alloc (.cells c1 t1)).alloc (.cells c2 t2)).alloc (.cells c3 t3)) c4 t4
 rwa [e] at this
def zsign (x : Int) : Int := if x < 0 then -1 else if x = 0 then 0 else 1
set_option maxRecDepth 100000 in
set_option maxHeartbeats 1000000 in
theorem ISign_c (v : Value) (x : Int) (w : World) (hA : IntAt w 17592186044415 v x) :
 Calls Tryz.prog 47 #[v] w fun e w' => e = .returned (.int .i64 (zsign x)) /\ Below w.heap.size w w' := by
 obtain ⟨n, ao, len, cap, ws, rfl, hW, hl, hL, hc, hx⟩ := hA;have Hx := Lib.hid hx; clear hx;have Hl := Lib.hid hl; clear hl;go_enter Tryz.func47, Tryz.ntmps47;go_wp2_with fail
 have hb : Below w.heap.size w (w.alloc (.cells #[.bool n, .slice ao len cap] 45)) := (Below.refl _ _).alloc (Nat.le_refl _) _;refine (BitLen_c _ _ _ ws _ (hW.below hb) Hl.out (by omega)).mono ?_;rintro e w' ⟨⟨k, rfl, hk⟩, rfl⟩;by_cases h0 : k = 0
 · have t1 : ((k : Int) == 0) = true := by rw [h0]; rfl
   have e0 := hk.1 h0;have E0 := Lib.hid e0; clear e0 hk h0;go_wp2;go_ret;refine ⟨?_, hb⟩;rw [Hx.out, E0.out];have : zsign (zi n 0) = 0 := by cases n <;> rfl
   rw [this]; rfl
 · have t1 : ((k : Int) == 0) = false := by rw [beq_eq_false_iff_ne]; omega
   have e0 : nval ws ≠ 0 := fun h => h0 (hk.2 h);have E0 := Lib.hid e0; clear e0 hk h0;cases n
   · go_wp2;go_ret;refine ⟨?_, hb⟩;have : zsign (zi false (nval ws)) = 1 := by
      have := E0.out;unfold zsign zi; simp; omega
     rw [Hx.out, this]; rfl
   · go_wp2;go_ret;refine ⟨?_, hb⟩;have : zsign (zi true (nval ws)) = -1 := by
      have := E0.out;unfold zsign zi; simp; omega
     rw [Hx.out, this]; rfl
theorem results_int_tmp {fn : Func} {p q : Tmp} (h : fn.results = #[.cell p 45, .tmp q]) (tmps : Array Value) (w : World) (g : Nat) (a b : Value) (hp : tmps.getD p undef = .pointer (some ⟨g, 0, none⟩)) (hr : RowAt w g 45 [a, b]) :
 (results fn tmps).run Tryz.prog w = .ok (.tuple #[.agg #[a, b], tmps.getD q undef]) w := by
 have hp' : tmps[p]?.getD undef = .pointer (some ⟨g, 0, none⟩) := by simpa using hp
 simp [results, h, hp', asAddr, run_loadVar_row w g 45 45 #[a, b] (0, 0) _ hr Tryz.underlying45 rfl (by kernel_rfl)]
theorem IntAt.wlen {w : World} {L : Nat} {v : Value} {x : Int} (h : IntAt w L v x) : wlen x.natAbs <= L := by
 obtain ⟨n, ao, len, cap, ws, rfl, hW, hl, hL, hc, hx⟩ := h;rw [hx, zi_abs];exact Nat.le_trans (wlen_le_length hW.ok) (by omega)
theorem exact_mod {x y : Int} (h : y ∣ x) : x.natAbs % y.natAbs = 0 := by
 have := Int.natAbs_dvd_natAbs.2 h;exact Nat.mod_eq_zero_of_dvd this
theorem zi_div {a b : Bool} {m n : Nat} (hn : n ≠ 0) (h : m % n = 0) : zi (a != b) (m / n) = zi a m / zi b n := by
 obtain ⟨k, rfl⟩ := Nat.dvd_of_mod_eq_zero h;rw [Nat.mul_div_cancel_left _ (by omega)];have hy : zi b n ≠ 0 := by cases b <;> simp [zi] <;> omega
 have e : zi a (n * k) = zi b n * zi (a != b) k := by
  cases a <;> cases b <;> simp [zi, Int.natCast_mul, Int.neg_mul, Int.mul_neg]
 rw [e, Int.mul_ediv_cancel_left _ hy]
set_option maxRecDepth 100000 in
set_option maxHeartbeats 1000000 in
theorem IExact_c (v u : Value) (x y : Int) (w : World) (hA : IntAt w 17592186044415 v x) (hB : IntAt w 17592186044415 u y) (hy : y ≠ 0) (hd : y ∣ x) :
 Calls Tryz.prog 173 #[v, u] w fun e w' => (∃ v', e = .returned (.tuple #[v', .int .i64 0]) /\ OwnI w' w.heap.size v' (x / y)) /\ Below w.heap.size w w' := by
 obtain ⟨n, ao, len, cap, ws, rfl, hW, hl, hL1, hc, hx⟩ := hA;obtain ⟨n2, ao2, len2, cap2, ws2, rfl, hW2, hl2, hL2, hc2, hx2⟩ := hB;have h1 := exact_mod hd;have h2 : nval ws2 ≠ 0 := fun h => hy (by rw [hx2, h]; cases n2 <;> rfl);rw [hx, hx2, zi_abs, zi_abs] at h1;have H1 := Lib.hid h1; clear h1;have H2 := Lib.hid h2; clear h2;have Hx := Lib.hid hx; clear hx;have Hl := Lib.hid hl; clear hl;have Hx2 := Lib.hid hx2; clear hx2;have Hl2 := Lib.hid hl2; clear hl2;clear hd hy;go_enter Tryz.func173, Tryz.ntmps173;go_wp2_with fail
 obtain ⟨r1, r2, r3, hb⟩ := three_new w #[.bool n, .slice ao len cap] #[.bool n2, .slice ao2 len2 cap2] #[.bool false, .slice none 0 0] 45 45 45;generalize ((w.alloc (.cells #[.bool n, .slice ao len cap] 45)).alloc (.cells #[.bool n2, .slice ao2 len2 cap2] 45)).alloc (.cells #[.bool false, .slice none 0 0] 45) = w2 at *;refine (Exact_c _ _ _ _ _ _ ws ws2 _ (hW.below hb) (hW2.below hb) Hl.out Hl2.out (by omega) (by omega) H2.out H1.out).mono ?_;rintro e w3 ⟨⟨ao', cap', rfl, hO⟩, hb3⟩;have R1 := r1.below hb3 r1.lt;have R2 := r2.below hb3 r2.lt;have R3 := r3.below hb3 r3.lt;have e1 : w3.cell? ⟨w.heap.size, 0, none⟩ = some (.bool n) := R1.cell 0;have e3 : w3.cell? ⟨w.heap.size + 1, 0, none⟩ = some (.bool n2) := R2.cell 0;have hs3 : w.heap.size + 3 <= w2.heap.size := r3.lt;have hs4 := hb3.size;clear r1 r2 r3;go_wp2_with fail
 refine (of_c (n != n2) _ _ _ _).mono ?_;rintro e w4 ⟨rfl, hb4⟩;have hr4 := R3.below hb4 R3.lt;have hf0 := hr4.free 0;have hf1 := hr4.free 1;have hc0 := hr4.cell 0;have hc1 := hr4.cell 1;have hbf : Below w.heap.size w w4 := (hb.trans (hb3.mono hb.size)).trans (hb4.mono (by omega));clear R1 R2 R3;go_wp2;have hr6 := hr4.set2 (.bool ((n != n2) && decide (0 < wlen (nval ws / nval ws2)))) (.slice ao' (wlen (nval ws / nval ws2)) cap');refine bodyPost_ret (results_int_tmp (p := 4) (q := 5) (by kernel_rfl) _ _ (w.heap.size + 2) _ _ rfl hr6) rfl ?_;have hO' := (hO.mono (B' := w.heap.size + 3) hs3).below hb4;have hI := OwnI.mk (n != n2) hO';rw [zi_div H2.out H1.out] at hI;rw [Hx.out, Hx2.out];obtain ⟨⟨v', hv, hI'⟩, hB'⟩ := OwnI.done (a := .bool ((n != n2) && decide (0 < wlen (nval ws / nval ws2)))) (b := .slice ao' (wlen (nval ws / nval ws2)) cap') hI (by omega : w.heap.size <= w.heap.size + 2) hbf;refine ⟨⟨v', ?_, hI'⟩, hB'⟩;cases hv;rfl
set_option maxRecDepth 100000 in
set_option maxHeartbeats 1000000 in
theorem IOf_c (k : Int) (w : World) (h1 : -9223372036854775808 <= k) (h2 : k <= 9223372036854775807) :
 Calls Tryz.prog 105 #[.int .i64 k] w fun e w' => (∃ v', e = .returned v' /\ OwnI w' w.heap.size v' k) /\ Below w.heap.size w w' := by
 go_enter Tryz.func105, Tryz.ntmps105;by_cases hk : k < 0
 · go_wp2_with fail
   have ev : IntKind.u64.wrap (-IntKind.u64.wrap k) = ((k.natAbs : Nat) : Int) := by simp only [IntKind.wrap_u64]; omega
   rw [ev];obtain ⟨r1, r2, hb⟩ := two_new w #[.bool false, .slice none 0 0] #[.int .u64 ((k.natAbs : Nat) : Int)] 45 49;generalize (w.alloc (.cells #[.bool false, .slice none 0 0] 45)).alloc (.cells #[.int .u64 ((k.natAbs : Nat) : Int)] 49) = w2 at *;have hkW : k.natAbs < W := by unfold W; omega
   have hw2 : WAt w2 (some ⟨w.heap.size + 1, 0, none⟩) [k.natAbs] := RowAt.wat (ws := [k.natAbs]) r2 (Ok.one hkW);have hv1 : nval [k.natAbs] = k.natAbs := by simp [nval]
   have hLe := Least_c _ 1 1 [k.natAbs] _ hw2 rfl (by omega);rw [hv1] at hLe;refine hLe.mono ?_;rintro e w3 ⟨⟨ao', cap', rfl, hO⟩, hb3⟩;have hr3 := r1.below hb3 r1.lt;have hs2 : w.heap.size + 2 <= w2.heap.size := r2.lt;have hs3 := hb3.size;clear r1 r2 hLe;go_wp2_with fail
   refine (of_c true _ _ _ _).mono ?_;rintro e w4 ⟨rfl, hb4⟩;have hr4 := hr3.below hb4 hr3.lt;have hf0 := hr4.free 0;have hf1 := hr4.free 1;have hc0 := hr4.cell 0;have hc1 := hr4.cell 1;have hbf : Below w.heap.size w w4 := (hb.trans (hb3.mono hb.size)).trans (hb4.mono (by omega));have hO' := (hO.mono (B' := w.heap.size + 1) (by omega)).below hb4;have hI := OwnI.mk true hO';have hz : zi true k.natAbs = k := by unfold zi; simp; omega
   rw [hz] at hI;have HI := Lib.hid hI;clear hr3 hz hI hw2 hv1 ev;go_wp2;have hr6 := hr4.set2 (.bool (true && decide (0 < wlen k.natAbs))) (.slice ao' (wlen k.natAbs) cap');refine bodyPost_ret (results_int (p := 2) (by kernel_rfl) _ _ w.heap.size _ _ rfl hr6) rfl ?_;exact OwnI.done HI.out (Nat.le_refl _) hbf
 · obtain ⟨m, rfl⟩ : ∃ m : Nat, k = (m : Int) := ⟨k.toNat, by omega⟩;go_wp2_with fail
   obtain ⟨r1, r2, hb⟩ := two_new w #[.bool false, .slice none 0 0] #[.int .u64 ((m : Nat) : Int)] 45 49;generalize (w.alloc (.cells #[.bool false, .slice none 0 0] 45)).alloc (.cells #[.int .u64 ((m : Nat) : Int)] 49) = w2 at *;have hkW : m < W := by unfold W; omega
   have hw2 : WAt w2 (some ⟨w.heap.size + 1, 0, none⟩) [m] := RowAt.wat (ws := [m]) r2 (Ok.one hkW);have hv1 : nval [m] = m := by simp [nval]
   have hLe := Least_c _ 1 1 [m] _ hw2 rfl (by omega);rw [hv1] at hLe;refine hLe.mono ?_;rintro e w3 ⟨⟨ao', cap', rfl, hO⟩, hb3⟩;have hr3 := r1.below hb3 r1.lt;have hs2 : w.heap.size + 2 <= w2.heap.size := r2.lt;have hs3 := hb3.size;clear r1 r2 hLe;go_wp2_with fail
   refine (of_c false _ _ _ _).mono ?_;rintro e w4 ⟨rfl, hb4⟩;have hr4 := hr3.below hb4 hr3.lt;have hf0 := hr4.free 0;have hf1 := hr4.free 1;have hc0 := hr4.cell 0;have hc1 := hr4.cell 1;have hbf : Below w.heap.size w w4 := (hb.trans (hb3.mono hb.size)).trans (hb4.mono (by omega));have hO' := (hO.mono (B' := w.heap.size + 1) (by omega)).below hb4;have hI := OwnI.mk false hO';have hz : zi false m = (m : Int) := rfl;rw [hz] at hI;have HI := Lib.hid hI;clear hr3 hz hI hw2 hv1;go_wp2;have hr6 := hr4.set2 (.bool (false && decide (0 < wlen m))) (.slice ao' (wlen m) cap');refine bodyPost_ret (results_int (p := 2) (by kernel_rfl) _ _ w.heap.size _ _ rfl hr6) rfl ?_;exact OwnI.done HI.out (Nat.le_refl _) hbf
theorem OwnI.int {w : World} {B L : Nat} {v : Value} {x : Int} (h : OwnI w B v x) (hL : Go.Proofs.YtknkkceioockjaaGreat.wlen x.natAbs <= L) : IntAt w L v x := h.at_.mono hL
set_option maxRecDepth 100000 in
set_option maxHeartbeats 1000000 in
theorem IMulAdd_c (v u t : Value) (x y z : Int) (LA LB : Nat) (w : World) (hA : IntAt w LA v x) (hB : IntAt w LB u y) (hC : IntAt w 17592186044415 t z) (hL : LA + LB <= 17592186044415) :
 Calls Tryz.prog 150 #[v, u, t] w fun e w' => (∃ v', e = .returned v' /\ OwnI w' w.heap.size v' (x * y + z)) /\ Below w.heap.size w w' := by
 have hwx := hA.wlen;have hwy := hB.wlen;have hwz : wlen (x * y).natAbs <= 17592186044415 := by
  rw [Int.natAbs_mul]; have := wlen_mul x.natAbs y.natAbs; omega
 have Hwz := Lib.hid hwz; clear hwz hwx hwy;obtain ⟨n, ao, len, cap, ws, rfl, hW, hl, hL1, hc, hx⟩ := hA;obtain ⟨n2, ao2, len2, cap2, ws2, rfl, hW2, hl2, hL2, hc2, hx2⟩ := hB;obtain ⟨n3, ao3, len3, cap3, ws3, rfl, hW3, hl3, hL3, hc3, hx3⟩ := hC;have HA : Hid (∀ w', Below w.heap.size w w' -> IntAt w' LA (.agg #[.bool n, .slice ao len cap]) x) := Lib.hid (fun w' h => ⟨n, ao, len, cap, ws, rfl, hW.below h, hl, hL1, hc, hx⟩);have HB : Hid (∀ w', Below w.heap.size w w' -> IntAt w' LB (.agg #[.bool n2, .slice ao2 len2 cap2]) y) := Lib.hid (fun w' h => ⟨n2, ao2, len2, cap2, ws2, rfl, hW2.below h, hl2, hL2, hc2, hx2⟩);have HC : Hid (∀ w', Below w.heap.size w w' -> IntAt w' 17592186044415 (.agg #[.bool n3, .slice ao3 len3 cap3]) z) := Lib.hid (fun w' h => ⟨n3, ao3, len3, cap3, ws3, rfl, hW3.below h, hl3, hL3, hc3, hx3⟩);clear hW hl hL1 hc hx hW2 hl2 hL2 hc2 hx2 hW3 hl3 hL3 hc3 hx3;go_enter Tryz.func150, Tryz.ntmps150;go_wp2;obtain ⟨r1, r2, r3, r4, hb⟩ := four_new w #[.bool n, .slice ao len cap] #[.bool n2, .slice ao2 len2 cap2] #[.bool n3, .slice ao3 len3 cap3] #[.bool false, .slice none 0 0] 45 45 45 45;generalize (((w.alloc (.cells #[.bool n, .slice ao len cap] 45)).alloc (.cells #[.bool n2, .slice ao2 len2 cap2] 45)).alloc (.cells #[.bool n3, .slice ao3 len3 cap3] 45)).alloc (.cells #[.bool false, .slice none 0 0] 45) = w2 at *;have e1 : w2.cell? ⟨w.heap.size, 0, none⟩ = some (.bool n) := r1.cell 0;have e2 : w2.cell? ⟨w.heap.size, 1, none⟩ = some (.slice ao len cap) := r1.cell 1;have e3 : w2.cell? ⟨w.heap.size + 1, 0, none⟩ = some (.bool n2) := r2.cell 0;have e4 : w2.cell? ⟨w.heap.size + 1, 1, none⟩ = some (.slice ao2 len2 cap2) := r2.cell 1;have e5 : w2.cell? ⟨w.heap.size + 2, 0, none⟩ = some (.bool n3) := r3.cell 0;have e6 : w2.cell? ⟨w.heap.size + 2, 1, none⟩ = some (.slice ao3 len3 cap3) := r3.cell 1;have hb2 := r4.lt;have k0 : w.heap.size < w.heap.size + 3 := by omega
 have k1 : w.heap.size + 1 < w.heap.size + 3 := by omega
 have k2 : w.heap.size + 2 < w.heap.size + 3 := by omega
 have Hr4 := Lib.hid r4;have hs2 : w.heap.size <= w2.heap.size := by omega
 have hbd : Below w.heap.size w w2.drew := hb.drew;clear r1 r2 r3 r4
 go_region_held3 (fun w' => w'.cell? ⟨w.heap.size, 0, none⟩ = some (.bool n) /\ w'.cell? ⟨w.heap.size, 1, none⟩ = some (.slice ao len cap) /\ w'.cell? ⟨w.heap.size + 1, 0, none⟩ = some (.bool n2) /\ w'.cell? ⟨w.heap.size + 1, 1, none⟩ = some (.slice ao2 len2 cap2) /\ w'.cell? ⟨w.heap.size + 2, 0, none⟩ = some (.bool n3) /\ w'.cell? ⟨w.heap.size + 2, 1, none⟩ = some (.slice ao3 len3 cap3))
  (first
   | exact ⟨e1, e2, e3, e4, e5, e6⟩
   | exact ⟨(hb3'.cell k0).trans e1, (hb3'.cell k0).trans e2, (hb3'.cell k1).trans e3, (hb3'.cell k1).trans e4, (hb3'.cell k2).trans e5, (hb3'.cell k2).trans e6⟩
   | exact ⟨(hb5.cell k0).trans e1, (hb5.cell k0).trans e2, (hb5.cell k1).trans e3, (hb5.cell k1).trans e4, (hb5.cell k2).trans e5, (hb5.cell k2).trans e6⟩
   | exact ⟨(((hb5.setCell (Nat.le_refl _) _).setCell (Nat.le_refl _) _).cell k0).trans e1, (((hb5.setCell (Nat.le_refl _) _).setCell (Nat.le_refl _) _).cell k0).trans e2, (((hb5.setCell (Nat.le_refl _) _).setCell (Nat.le_refl _) _).cell k1).trans e3, (((hb5.setCell (Nat.le_refl _) _).setCell (Nat.le_refl _) _).cell k1).trans e4, (((hb5.setCell (Nat.le_refl _) _).setCell (Nat.le_refl _) _).cell k2).trans e5, (((hb5.setCell (Nat.le_refl _) _).setCell (Nat.le_refl _) _).cell k2).trans e6⟩)
  (first
   | (go_at_call 72; refine (IMul_c _ _ x y LA LB _ (by exact HA.out _ hbd) (by exact HB.out _ hbd) (by omega)).mono ?_; rintro e w3 ⟨⟨v3, rfl, hO⟩, hb3⟩; have HO := Lib.hid (hO.int Hwz.out); have hb3' : Below (w.heap.size + 3) w2.drew w3 := hb3.mono (Nat.le_of_lt hb2); have hb3w : Below w.heap.size w w3 := hbd.trans (hb3.mono hs2))
   | (go_at_call 118; refine (IAdd_c _ _ (x * y) z _ (by exact HO.out) (by exact HC.out _ hb3w)).mono ?_; rintro e w4 ⟨⟨v4, rfl, hO4⟩, hb4⟩; have hb5 : Below (w.heap.size + 3) w2.drew w4 := (hb3.trans (hb4.mono hb3.size)).mono (Nat.le_of_lt hb2); have hr4 := (RowAt.below (w := w2.drew) Hr4.out hb3 hb2).below hb4 (Nat.lt_of_lt_of_le hb2 hb3.size); have hf0 := hr4.free 0; have hf1 := hr4.free 1; have hc0 := hr4.cell 0; have hc1 := hr4.cell 1; have HO4 := Lib.hid hO4; obtain ⟨ao', cap', rfl, -⟩ := hO4))
 go_wp2;have hr5 := hr4.set2 (.bool (decide (x * y + z < 0))) (.slice ao' (wlen (x * y + z).natAbs) cap');have hbf : Below w.heap.size w w4 := hb3w.trans (hb4.mono (Nat.le_trans hs2 hb3.size));refine bodyPost_ret (results_int (p := 6) (by kernel_rfl) _ _ (w.heap.size + 3) _ _ rfl hr5) rfl ?_;have hs3 : w2.heap.size <= w3.heap.size := hb3.size;have hI := HO4.out.mono (B' := w.heap.size + 4) (by omega);exact OwnI.done hI (by omega) hbf
theorem OwnI.setOther1 {w : World} {B : Nat} {v : Value} {x : Int} (h : OwnI w B v x) {p : Addr} (hp : p.block < B) (u : Value) : OwnI (w.setCell p u) B v x := by
 obtain ⟨ao, cap, rfl, hO⟩ := h;exact ⟨ao, cap, rfl, hO.setOther hp u⟩
def NoW (cs : List Value) : Prop := ∀ c ∈ cs, ∀ n, c ≠ .int .u64 n
theorem NoW.nil : NoW [] := fun c h => by cases h
theorem NoW.bool {b : Bool} {cs : List Value} (h : NoW cs) : NoW (.bool b :: cs) := fun c hc n => by
 rcases List.mem_cons.1 hc with rfl | hc
 · simp
 · exact h c hc n
theorem NoW.slice {ao : Option Addr} {l k : Nat} {cs : List Value} (h : NoW cs) : NoW (.slice ao l k :: cs) := fun c hc n => by
 rcases List.mem_cons.1 hc with rfl | hc
 · simp
 · exact h c hc n
theorem NoW.two (b : Bool) (ao : Option Addr) (l k : Nat) : NoW [.bool b, .slice ao l k] := NoW.bool (NoW.slice NoW.nil)
theorem NoW.append {a b : List Value} (ha : NoW a) (hb : NoW b) : NoW (a ++ b) := fun c hc n => (List.mem_append.1 hc).elim (fun h => ha c h n) (fun h => hb c h n)
theorem WAt.setRow {w : World} {ao : Option Addr} {ws : List Nat} (h : WAt w ao ws) {g : Nat} {t : TypeId} {cs : List Value} (hr : RowAt w g t cs) (hn : NoW cs) (i : Nat) (u : Value) : WAt (w.setCell ⟨g, i, none⟩ u) ao ws := by
 refine ⟨h.1, fun hl => ?_⟩;obtain ⟨b, o, rfl, hb, hc⟩ := h.2 hl;have hne : b ≠ g := by
  rintro rfl;have h0 := hc 0 hl;rw [hr.cell] at h0;exact hn _ (List.mem_of_getElem? h0) _ rfl
 refine ⟨b, o, rfl, by simpa using hb, fun k hk => ?_⟩;rw [World.cell?_setCell_far _ _ _ _ (fun e => hne e.symm)];exact hc k hk
theorem IntAt.setRow {w : World} {L : Nat} {v : Value} {x : Int} (h : IntAt w L v x) {g : Nat} {t : TypeId} {cs : List Value} (hr : RowAt w g t cs) (hn : NoW cs) (i : Nat) (u : Value) : IntAt (w.setCell ⟨g, i, none⟩ u) L v x := by
 obtain ⟨n, ao, len, cap, ws, rfl, hW, hl, hL, hc, hx⟩ := h;exact ⟨n, ao, len, cap, ws, rfl, hW.setRow hr hn i u, hl, hL, hc, hx⟩
theorem OwnW.setRow {w : World} {B : Nat} {ao : Option Addr} {len cap : Nat} {ws : List Nat} (h : OwnW w B ao len cap ws) {g : Nat} {t : TypeId} {cs : List Value} (hr : RowAt w g t cs) (ht : t ≠ 49) (i : Nat) (u : Value) : OwnW (w.setCell ⟨g, i, none⟩ u) B ao len cap ws := by
 obtain ⟨h1, h2, h3, h4⟩ := h;refine ⟨h1, h2, h3, ?_⟩;rcases h4 with h0 | ⟨g', c, cur, hv, hbb, hg, r⟩
 · exact .inl h0
 · have hne : g' ≠ g := by
    rintro rfl;unfold RowAt at hr;rw [hg] at hr;simp only [Option.some.injEq, Obj.cells.injEq] at hr;exact ht hr.2.1.symm
   exact .inr ⟨g', c, cur, hv, hbb, by rw [Below.heap_setCell _ _ _ _ hne]; exact hg, r⟩
theorem OwnI.setRow {w : World} {B : Nat} {v : Value} {x : Int} (h : OwnI w B v x) {g : Nat} {t : TypeId} {cs : List Value} (hr : RowAt w g t cs) (ht : t ≠ 49) (i : Nat) (u : Value) : OwnI (w.setCell ⟨g, i, none⟩ u) B v x := by
 obtain ⟨ao, cap, rfl, hO⟩ := h;exact ⟨ao, cap, rfl, hO.setRow hr ht i u⟩
theorem OwnI.setRow2 {w : World} {B : Nat} {v : Value} {x : Int} (h : OwnI w B v x) {g : Nat} {a b : Value} (hr : RowAt w g 45 [a, b]) (u u' : Value) : OwnI ((w.setCell ⟨g, 0, none⟩ u).setCell ⟨g, 1, none⟩ u') B v x :=
 (h.setRow hr (by decide) 0 u).setRow (hr.set 0 u) (by decide) 1 u'
theorem IntAt.setRow2 {w : World} {L : Nat} {v : Value} {x : Int} (h : IntAt w L v x) {g : Nat} {b c : Bool} {ao : Option Addr} {l k : Nat} (hr : RowAt w g 45 [.bool b, .slice ao l k]) (u' : Value) : IntAt ((w.setCell ⟨g, 0, none⟩ (.bool c)).setCell ⟨g, 1, none⟩ u') L v x :=
 (h.setRow hr (NoW.two _ _ _ _) 0 _).setRow (hr.set 0 _) (NoW.two _ _ _ _) 1 u'
theorem RowAt.other2 {w : World} {b g : Nat} {t : TypeId} {cs : List Value} (h : RowAt w b t cs) (hne : b ≠ g) (u v : Value) : RowAt ((w.setCell ⟨g, 0, none⟩ u).setCell ⟨g, 1, none⟩ v) b t cs :=
 (h.other hne u).other hne v
theorem below_set2 {B : Nat} {w w' : World} (h : Below B w w') {g : Nat} (hg : B <= g) (u v : Value) : Below B w ((w'.setCell ⟨g, 0, none⟩ u).setCell ⟨g, 1, none⟩ v) :=
 (h.setCell hg u).setCell hg v
theorem OwnI.drew {w : World} {B : Nat} {v : Value} {x : Int} (h : OwnI w B v x) : OwnI w.drew B v x := h
theorem OwnI.setOther2 {w : World} {B : Nat} {v : Value} {x : Int} (h : OwnI w B v x) {g : Nat} (hg : g < B) (u u' : Value) : OwnI ((w.setCell ⟨g, 0, none⟩ u).setCell ⟨g, 1, none⟩ u') B v x :=
 (h.setOther1 (p := ⟨g, 0, none⟩) hg u).setOther1 (p := ⟨g, 1, none⟩) hg u'
end Go.Proofs.YtknkkceioockjaaGreat
namespace Go.Proofs.YtknkkceioockjaaGreat
open Go
theorem countP_lt {α} (p q : α -> Bool) (h : ∀ x, q x = true -> p x = true) (y : α) (hp : p y = true) (hq : q y = false) : ∀ l : List α, y ∈ l -> l.countP q < l.countP p
 | [], hm => by cases hm
 | x :: l, hm => by
  have hle : ∀ l : List α, l.countP q <= l.countP p := fun l => List.countP_mono_left (fun x _ => h x);rw [List.countP_cons, List.countP_cons];rcases List.mem_cons.1 hm with rfl | hm
  · rw [hp, hq]; have := hle l; simp; omega
  · have := countP_lt p q h y hp hq l hm;cases hqx : q x
    · simp; omega
    · rw [h x hqx]; simp; omega
def Grounded (ops : Array Oper) (n : Nat) (L : Nat -> Bool) : Prop := ∀ k < n, L k = true -> ((ops[k]?).map (·.after.all fun e => !Region.binds .any e || L e.on)).getD false = true
theorem Grounded.add {ops : Array Oper} {n i : Nat} {L L' : Nat -> Bool} (h : Grounded ops n L) (hi : ((ops[i]?).map (·.after.all fun e => !Region.binds .any e || L e.on)).getD false = true) (hL : ∀ j, L' j = if j = i then true else L j) : Grounded ops n L' := by
 have mono : ∀ k : Nat, ((ops[k]?).map (·.after.all fun e => !Region.binds .any e || L e.on)).getD false = true -> ((ops[k]?).map (·.after.all fun e => !Region.binds .any e || L' e.on)).getD false = true := by
  intro k hk;cases ho : ops[k]? with
  | none => rw [ho] at hk; simp at hk
  | some o =>
   rw [ho] at hk;simp only [Option.map_some, Option.getD_some] at hk ⊢;rw [Array.all_eq_true] at hk ⊢;intro m hm;have := hk m hm;simp only [Bool.or_eq_true] at this ⊢;refine this.imp id fun h => ?_;rw [hL]; split
   · rfl
   · exact h
 intro k hk hLk;rw [hL] at hLk;by_cases hki : k = i
 · subst hki; exact mono k hi
 · rw [if_neg hki] at hLk; exact mono k (h k hk hLk)
theorem wpAny_inv {P : Program} {ops : Array Oper} {Q : Exit -> Act -> World -> Prop} {n : Nat} (hn : ops.size = n)
 (hb : ((List.range n).all fun i => ((ops[i]?).map (·.after.all fun e => !Region.binds .any e || decide (e.on < i))).getD false) = true)
 (F : (Nat -> Value) -> Act) (J : (Nat -> Bool) -> (Nat -> Value) -> World -> Prop)
 (hs : ∀ i < n, ∀ L x w, J L x w -> Grounded ops n L -> L i = false -> ((ops[i]?).map (·.after.all fun e => !Region.binds .any e || L e.on)).getD false = true -> wpOp P ops Q i (fun a' w' => ∃ x', a' = F x' /\ J (fun j => if j = i then true else L j) x' w') (F x) w)
 (hend : ∀ L x w, (∀ i < n, L i = true) -> J L x w -> Q .normal (F x) w) :
 ∀ (fuel : Nat) (listed : Array Bool) (x : Nat -> Value) (w : World), listed.size = n -> (List.range n).countP (fun i => !listed.getD i false) <= fuel -> Grounded ops n (fun j => listed.getD j false) -> J (fun j => listed.getD j false) x w -> wpAny P .any ops Q fuel listed (F x) w := by
 have hex : ∀ listed : Array Bool, listed.size = n -> Region.ready .any ops listed = [] -> ∀ i < n, listed.getD i false = true := by
  intro listed hsz hr i;induction i using Nat.strongRecOn with
  | _ i ih =>
   intro hi;by_cases h : listed.getD i false = true
   · exact h
   exfalso;have hm : i ∈ Region.ready .any ops listed := by
    simp only [Region.ready, List.mem_filter, List.mem_range, hn, Bool.and_eq_true];refine ⟨hi, ?_, ?_⟩
    · simp only [Array.getD_eq_getD_getElem?] at h ⊢;rw [Array.getElem?_eq_getElem (by omega)] at h ⊢;simpa using h
    · have := List.all_eq_true.1 hb i (List.mem_range.2 hi);cases ho : ops[i]? with
      | none => rw [ho] at this; simp at this
      | some o =>
       rw [ho] at this;simp only [Option.map_some, Option.getD_some] at this ⊢;rw [Array.all_eq_true] at this ⊢;intro k hk;have hlt := this k hk;simp only [Bool.or_eq_true, decide_eq_true_eq] at hlt ⊢;exact hlt.imp id fun hlt => ih _ hlt (by omega)
   rw [hr] at hm; cases hm
 intro fuel;induction fuel with
 | zero =>
  intro listed x w hsz hf hG hJ;have hr : Region.ready .any ops listed = [] := by
   refine List.eq_nil_iff_forall_not_mem.2 fun i hi => ?_;simp only [Region.ready, List.mem_filter, List.mem_range, hn, Bool.and_eq_true] at hi;have : 0 < (List.range n).countP (fun i => !listed.getD i false) := List.countP_pos_iff.2 ⟨i, List.mem_range.2 hi.1, by
    have h1 := hi.2.1;simp only [Array.getD_eq_getD_getElem?] at h1 ⊢;rw [Array.getElem?_eq_getElem (by omega)] at h1 ⊢;simpa using h1⟩
   omega
  exact ⟨hr, hend _ x w (hex listed hsz hr) hJ⟩
 | succ fuel ih =>
  intro listed x w hsz hf hG hJ;refine ⟨fun hr => hend _ x w (hex listed hsz hr) hJ, fun i hi => ?_⟩;simp only [Region.ready, List.mem_filter, List.mem_range, hn, Bool.and_eq_true] at hi;have hfi : listed.getD i false = false := by
   have h1 := hi.2.1;simp only [Array.getD_eq_getD_getElem?] at h1 ⊢;rw [Array.getElem?_eq_getElem (by omega)] at h1 ⊢;simpa using h1
  refine wpOp_mono ?_ (hs i hi.1 _ x w hJ hG hfi hi.2.2);rintro a' w' ⟨x', rfl, hJ'⟩;have e : (fun j => if j = i then true else listed.getD j false) = fun j => (listed.setIfInBounds i true).getD j false := by
   funext j;by_cases hj : j = i
   · subst hj; simp [Array.getD_eq_getD_getElem?, Array.getElem?_setIfInBounds, hsz, hi.1]
   · simp [Array.getD_eq_getD_getElem?, Array.getElem?_setIfInBounds, hj, Ne.symm hj]
  rw [e] at hJ';refine ih _ x' w' (by simp [hsz]) ?_ (hG.add hi.2.2 (fun j => (congrFun e j).symm)) hJ';have := countP_lt (fun i => !listed.getD i false) (fun j => !(listed.setIfInBounds i true).getD j false) (by
   intro j hj;rw [<- congrFun e j] at hj;by_cases hji : j = i
   · simp [hji] at hj
   · simpa [hji] using hj) i (by simp [hfi]) (by rw [<- congrFun e i]; simp) (List.range n) (List.mem_range.2 hi.1)
  omega
theorem wp_region_inv {P : Program} {ops : Array Oper} {Q : Exit -> Act -> World -> Prop} {id n : Nat} {a : Act} {w : World} (hm : P.follows .mixedOrders = true) (hn : ops.size = n)
 (hb : ((List.range n).all fun i => ((ops[i]?).map (·.after.all fun e => !Region.binds .any e || decide (e.on < i))).getD false) = true)
 (F : (Nat -> Value) -> Act) (J : (Nat -> Bool) -> (Nat -> Value) -> World -> Prop) (x0 : Nat -> Value) (ha : a = F x0)
 (h0 : J (fun _ => false) x0 w.drew)
 (hs : ∀ i < n, ∀ L x w, J L x w -> Grounded ops n L -> L i = false -> ((ops[i]?).map (·.after.all fun e => !Region.binds .any e || L e.on)).getD false = true -> wpOp P ops Q i (fun a' w' => ∃ x', a' = F x' /\ J (fun j => if j = i then true else L j) x' w') (F x) w)
 (hend : ∀ L x w, (∀ i < n, L i = true) -> J L x w -> Q .normal (F x) w) : (Code.region id ops true).wp P Q a w := by
 subst ha;refine wp_region_any hm (wpAny_inv hn hb F J hs hend _ _ x0 _ (by simp [hn]) ?_ ?_ ?_)
 · exact Nat.le_trans List.countP_le_length (by simp [hn])
 · intro k _ hk;simp only [Array.getD_eq_getD_getElem?, Array.getElem?_replicate] at hk;split at hk <;> simp at hk
 · have e : (fun j => (Array.replicate ops.size false).getD j false) = fun _ => false := by
    funext j; simp [Array.getD_eq_getD_getElem?, Array.getElem?_replicate]; split <;> rfl
   rw [e]; exact h0
end Go.Proofs.YtknkkceioockjaaGreat
namespace Go.Proofs.YtknkkceioockjaaGreat
open Go.RowKit
theorem NoW.set {cs : List Value} (h : NoW cs) (i : Nat) {u : Value} (hu : ∀ n, u ≠ .int .u64 n) : NoW (cs.set i u) := fun c hc n => by
 rcases List.mem_or_eq_of_mem_set hc with hc | rfl
 · exact h c hc n
 · exact hu n
structure AV where
 holds : World -> Value -> Prop
 below : ∀ {w w' : World} {v : Value}, holds w v -> Below w.heap.size w w' -> holds w' v
 ban : TypeId -> Bool
 set : ∀ {w : World} {v : Value} {g : Nat} {t : TypeId} {cs : List Value}, holds w v -> RowAt w g t cs -> NoW cs -> t ≠ 49 -> ban t = false -> ∀ (k : Nat) (u : Value), (∀ n, u ≠ .int .u64 n) -> holds (w.setCell ⟨g, k, none⟩ u) v
def AV.free (holds : World -> Value -> Prop) (below : ∀ {w w' : World} {v : Value}, holds w v -> Below w.heap.size w w' -> holds w' v)
 (set : ∀ {w : World} {v : Value} {g : Nat} {t : TypeId} {cs : List Value}, holds w v -> RowAt w g t cs -> NoW cs -> t ≠ 49 -> ∀ (k : Nat) (u : Value), (∀ n, u ≠ .int .u64 n) -> holds (w.setCell ⟨g, k, none⟩ u) v) : AV :=
 ⟨holds, below, fun _ => false, fun h hr hn ht _ k u hu => set h hr hn ht k u hu⟩
def AV.any : AV := AV.free (fun _ _ => True) (fun _ _ => trivial) (fun _ _ _ _ _ _ _ => trivial)
def AV.val (u : Value) : AV := AV.free (fun _ v => v = u) (fun h _ => h) (fun h _ _ _ _ _ _ => h)
def AV.int (B : Nat) (x : Int) : AV := AV.free (fun w v => OwnI w B v x) (fun h hb => OwnI.below h hb) (fun h hr _ ht k u _ => OwnI.setRow h hr ht k u)
def AV.at_ (L : Nat) (x : Int) : AV := AV.free (fun w v => IntAt w L v x) (fun h hb => IntAt.below h hb) (fun h hr hn _ k u _ => IntAt.setRow h hr hn k u)
def AV.own (B m : Nat) : AV := AV.free (fun w v => ∃ ao cap, v = .slice ao (wlen m) cap /\ OwnW w B ao (wlen m) cap (dig m)) (fun ⟨ao, cap, e, h⟩ hb => ⟨ao, cap, e, h.below hb⟩) (fun ⟨ao, cap, e, h⟩ hr _ ht k u _ => ⟨ao, cap, e, h.setRow hr ht k u⟩)
def AV.ptr (B : Nat) (t : TypeId) (n : Nat) : AV := AV.free (fun w v => ∃ g cs, v = .pointer (some ⟨g, 0, none⟩) /\ B <= g /\ RowAt w g t cs /\ NoW cs /\ cs.length = n) (fun ⟨g, cs, e, hB, hr, hn, hl⟩ hb => ⟨g, cs, e, hB, hr.below hb hr.lt, hn, hl⟩) (fun {_ _ g' _ _} ⟨g, cs, e, hB, hr, hn, hl⟩ hr' _ _ k u hu => by
 by_cases hg : g = g'
 · subst hg; exact ⟨g, cs.set k u, e, hB, hr.set k u, hn.set k hu, by simpa using hl⟩
 · exact ⟨g, cs, e, hB, hr.other hg u, hn, hl⟩)
structure CV where
 holds : World -> List Value -> Prop
 below : ∀ {w w' : World} {v : List Value}, holds w v -> Below w.heap.size w w' -> holds w' v
 ban : TypeId -> Bool
 set : ∀ {w : World} {v : List Value} {g : Nat} {t : TypeId} {cs : List Value}, holds w v -> RowAt w g t cs -> NoW cs -> t ≠ 49 -> ban t = false -> ∀ (k : Nat) (u : Value), (∀ n, u ≠ .int .u64 n) -> holds (w.setCell ⟨g, k, none⟩ u) v
def CV.free (holds : World -> List Value -> Prop) (below : ∀ {w w' : World} {v : List Value}, holds w v -> Below w.heap.size w w' -> holds w' v)
 (set : ∀ {w : World} {v : List Value} {g : Nat} {t : TypeId} {cs : List Value}, holds w v -> RowAt w g t cs -> NoW cs -> t ≠ 49 -> ∀ (k : Nat) (u : Value), (∀ n, u ≠ .int .u64 n) -> holds (w.setCell ⟨g, k, none⟩ u) v) : CV :=
 ⟨holds, below, fun _ => false, fun h hr hn ht _ k u hu => set h hr hn ht k u hu⟩
def CV.int (B : Nat) (x : Int) : CV := CV.free (fun w cs => ∃ b ao l k, cs = [.bool b, .slice ao l k] /\ OwnI w B (.agg #[.bool b, .slice ao l k]) x) (fun ⟨b, ao, l, k, e, h⟩ hb => ⟨b, ao, l, k, e, OwnI.below h hb⟩) (fun ⟨b, ao, l, k, e, h⟩ hr _ ht j u _ => ⟨b, ao, l, k, e, OwnI.setRow h hr ht j u⟩)
def CV.int2 (B : Nat) (x y : Int) : CV := CV.free (fun w cs => ∃ b ao l k b' ao' l' k', cs = [.bool b, .slice ao l k, .bool b', .slice ao' l' k'] /\ OwnI w B (.agg #[.bool b, .slice ao l k]) x /\ OwnI w B (.agg #[.bool b', .slice ao' l' k']) y) (fun ⟨b, ao, l, k, b', ao', l', k', e, h, h'⟩ hb => ⟨b, ao, l, k, b', ao', l', k', e, OwnI.below h hb, OwnI.below h' hb⟩) (fun ⟨b, ao, l, k, b', ao', l', k', e, h, h'⟩ hr _ ht j u _ => ⟨b, ao, l, k, b', ao', l', k', e, OwnI.setRow h hr ht j u, OwnI.setRow h' hr ht j u⟩)
def setAll (w : World) (g : Nat) : Nat -> List Value -> World
 | _, [] => w
 | k, u :: us => setAll (w.setCell ⟨g, k, none⟩ u) g (k + 1) us
theorem NoW.tail {u : Value} {us : List Value} (h : NoW (u :: us)) : NoW us := fun c hc => h c (List.mem_cons_of_mem _ hc)
theorem NoW.head {u : Value} {us : List Value} (h : NoW (u :: us)) : ∀ n, u ≠ .int .u64 n := h u (List.mem_cons_self ..)
theorem RowAt.setAll {g : Nat} {t : TypeId} : ∀ (us : List Value) (k : Nat) {w : World} {cs : List Value}, RowAt w g t cs -> k + us.length = cs.length -> RowAt (setAll w g k us) g t (cs.take k ++ us)
 | [], k, w, cs, h, hl => by
  rw [List.append_nil, List.take_of_length_le (by simp at hl; omega)]; exact h
 | u :: us, k, w, cs, h, hl => by
  have h1 := RowAt.setAll us (k + 1) (h.set k u) (by simp at hl ⊢; omega);have e : (cs.set k u).take (k + 1) = cs.take k ++ [u] := by
   simp at hl;rw [List.take_succ_eq_append_getElem (by simp; omega), List.take_set_of_le (Nat.le_refl _)];simp
  rw [e] at h1;simpa [Go.Proofs.YtknkkceioockjaaGreat.setAll] using h1
theorem AV.setAllB (a : AV) {v : Value} {g : Nat} {t : TypeId} (ht : t ≠ 49) (hb : a.ban t = false) : ∀ (us : List Value) (k : Nat) {w : World} {cs : List Value}, a.holds w v -> RowAt w g t cs -> NoW cs -> NoW us -> a.holds (setAll w g k us) v
 | [], k, w, cs, h, _, _, _ => h
 | u :: us, k, w, cs, h, hr, hn, hu => AV.setAllB a ht hb us (k + 1) (a.set h hr hn ht hb k u hu.head) (hr.set k u) (hn.set k hu.head) hu.tail
theorem AV.setAll (a : AV) {v : Value} {g : Nat} {t : TypeId} (ht : t ≠ 49) (us : List Value) (k : Nat) {w : World} {cs : List Value} (h : a.holds w v) (hr : RowAt w g t cs) (hn : NoW cs) (hu : NoW us) (hb : a.ban t = false := by rfl) : a.holds (Go.Proofs.YtknkkceioockjaaGreat.setAll w g k us) v :=
 AV.setAllB a ht hb us k h hr hn hu
theorem CV.setAllB (a : CV) {v : List Value} {g : Nat} {t : TypeId} (ht : t ≠ 49) (hb : a.ban t = false) : ∀ (us : List Value) (k : Nat) {w : World} {cs : List Value}, a.holds w v -> RowAt w g t cs -> NoW cs -> NoW us -> a.holds (Go.Proofs.YtknkkceioockjaaGreat.setAll w g k us) v
 | [], k, w, cs, h, _, _, _ => h
 | u :: us, k, w, cs, h, hr, hn, hu => CV.setAllB a ht hb us (k + 1) (a.set h hr hn ht hb k u hu.head) (hr.set k u) (hn.set k hu.head) hu.tail
theorem RowAt.setAll_other {b g : Nat} {t : TypeId} (hne : b ≠ g) : ∀ (us : List Value) (k : Nat) {w : World} {cs : List Value}, RowAt w b t cs -> RowAt (Go.Proofs.YtknkkceioockjaaGreat.setAll w g k us) b t cs
 | [], k, w, cs, h => h
 | u :: us, k, w, cs, h => RowAt.setAll_other hne us (k + 1) (h.other hne u)
theorem below_setAll {B g : Nat} (hg : B <= g) : ∀ (us : List Value) (k : Nat) {w w' : World}, Below B w w' -> Below B w (setAll w' g k us)
 | [], k, w, w', h => h
 | u :: us, k, w, w', h => below_setAll hg us (k + 1) (h.setCell (p := ⟨g, k, none⟩) hg u)
theorem cell_setAll {g : Nat} {a : Addr} (hne : g ≠ a.block) : ∀ (us : List Value) (k : Nat) {w : World}, (setAll w g k us).cell? a = w.cell? a
 | [], k, w => rfl
 | u :: us, k, w => (cell_setAll hne us (k + 1)).trans (World.cell?_setCell_far _ _ _ _ hne)
theorem size_setAll {g : Nat} : ∀ (us : List Value) (k : Nat) {w : World}, (setAll w g k us).heap.size = w.heap.size
 | [], k, w => rfl
 | u :: us, k, w => (size_setAll us (k + 1)).trans (by simp)
def updL (L : Nat -> Bool) (i : Nat) : Nat -> Bool := fun j => if j = i then true else L j
def updX (x : Nat -> Value) (d : Nat) (v : Value) : Nat -> Value := fun j => if j = d then v else x j
theorem patchX {x : Nat -> Value} {d : Nat} {v : Value} (h : x d = v) : x = updX x d v := by
 funext k; unfold updX; split
 · rename_i e; rw [e, h]
 · rfl
structure RD where
 n : Nat
 dst : Nat -> Nat
 av : Nat -> AV
 tg : List (Nat × Nat × AV)
 bs : List (Value × AV)
 rows : List (Nat × TypeId × List Value)
 nw : List (Nat × Nat × TypeId × CV)
 cells : List (Addr × Value)
 al : List (Nat × Nat)
def RD.okB (d : RD) (t : TypeId) : Bool := (List.range d.n).all (fun i => !(d.av i).ban t) && d.tg.all (fun q => !q.2.2.ban t) && d.bs.all (fun p => !p.2.ban t) && d.nw.all (fun q => !q.2.2.2.ban t)
theorem RD.okB.all {d : RD} {t : TypeId} (h : d.okB t = true) : (∀ i, i < d.n -> (d.av i).ban t = false) /\ (∀ q ∈ d.tg, q.2.2.ban t = false) /\ (∀ p ∈ d.bs, p.2.ban t = false) /\ ∀ q ∈ d.nw, q.2.2.2.ban t = false := by
 unfold RD.okB at h;simp only [Bool.and_eq_true, List.all_eq_true, Bool.not_eq_true', List.mem_range] at h;exact ⟨h.1.1.1, h.1.1.2, h.1.2, h.2⟩
structure RD.J (d : RD) (g0 B : Nat) (w0 : World) (L : Nat -> Bool) (x : Nat -> Value) (w : World) : Prop where
 fr : Below g0 w0 w
 size : B <= w.heap.size
 base : ∀ p ∈ d.bs, p.2.holds w p.1
 rows : ∀ p ∈ d.rows, RowAt w p.1 p.2.1 p.2.2 /\ p.1 < B /\ ∀ t ∈ d.tg, p.1 ≠ t.2.1
 cells : ∀ p ∈ d.cells, w.cell? p.1 = some p.2 /\ p.1.block < B /\ ∀ t ∈ d.tg, p.1.block ≠ t.2.1
 slot : ∀ i, i < d.n -> L i = true -> (d.av i).holds w (x (d.dst i))
 tgt : ∀ t ∈ d.tg, g0 <= t.2.1 /\ t.2.1 < B /\ ∃ n ao l k, RowAt w t.2.1 45 [.bool n, .slice ao l k] /\ (L t.1 = true -> t.2.2.holds w (.agg #[.bool n, .slice ao l k]))
 apart : ∀ p ∈ d.al, ∀ q ∈ d.al, p.1 ≠ q.1 -> L p.1 = true -> L q.1 = true -> x p.2 ≠ x q.2
 new : ∀ t ∈ d.nw, L t.1 = true -> ∃ g cs, x t.2.1 = .pointer (some ⟨g, 0, none⟩) /\ B <= g /\ RowAt w g t.2.2.1 cs /\ t.2.2.2.holds w cs
theorem RD.J.grow {d : RD} {g0 B : Nat} {w0 w w' : World} {L : Nat -> Bool} {x : Nat -> Value} (h : d.J g0 B w0 L x w) (i : Nat) (hi : i < d.n) (v : Value)
 (hd : ((List.range d.n).all fun j => d.dst j != d.dst i || j == i) = true) (ht : (d.tg.all fun t => t.1 != i) = true) (hnw : ∀ t ∈ d.nw, t.1 ≠ i /\ (t.2.1 = d.dst i -> L t.1 = false)) (hal : ∀ p ∈ d.al, (p.1 = i ↔ p.2 = d.dst i) /\ (p.1 = i -> ∀ q ∈ d.al, q.1 ≠ i -> L q.1 = true -> v ≠ x q.2)) (hb : Below w.heap.size w w') (hv : (d.av i).holds w' v) (hg : g0 <= w.heap.size) :
 d.J g0 B w0 (updL L i) (updX x (d.dst i) v) w' := by
 refine ⟨h.fr.trans (hb.mono hg), Nat.le_trans h.size hb.size, fun p hp => AV.below _ (h.base p hp) hb, fun p hp => ⟨(h.rows p hp).1.below hb (h.rows p hp).1.lt, (h.rows p hp).2⟩, fun p hp => ⟨(hb.cell (Nat.lt_of_lt_of_le (h.cells p hp).2.1 h.size)).trans (h.cells p hp).1, (h.cells p hp).2⟩, fun j hj hL => ?_, fun t ht' => ?_, fun p hp q hq hpq hLp hLq => ?_, fun t ht' hL => ?_⟩
 · unfold updX;by_cases hji : j = i
   · subst hji; rw [if_pos rfl]; exact hv
   · have := List.all_eq_true.1 hd j (List.mem_range.2 hj);simp only [Bool.or_eq_true, bne_iff_ne, beq_iff_eq] at this;rw [if_neg (this.resolve_right hji)];unfold updL at hL;rw [if_neg hji] at hL;exact AV.below _ (h.slot j hj hL) hb
 · obtain ⟨h1, h2, a, b, l, k, hr, hc⟩ := h.tgt t ht';refine ⟨h1, h2, a, b, l, k, hr.below hb hr.lt, fun hL => ?_⟩;have hne := List.all_eq_true.1 ht t ht';simp only [bne_iff_ne] at hne;unfold updL at hL;rw [if_neg hne] at hL;exact AV.below _ (hc hL) hb
 · unfold updL at hLp hLq;unfold updX;by_cases hpi : p.1 = i
   · have hqi : q.1 ≠ i := fun e => hpq (hpi.trans e.symm);rw [if_neg hqi] at hLq;rw [if_pos ((hal p hp).1.1 hpi), if_neg (fun e => hqi ((hal q hq).1.2 e))];exact (hal p hp).2 hpi q hq hqi hLq
   · rw [if_neg hpi] at hLp;by_cases hqi : q.1 = i
     · rw [if_pos ((hal q hq).1.1 hqi), if_neg (fun e => hpi ((hal p hp).1.2 e))];exact fun e => (hal q hq).2 hqi p hp hpi hLp e.symm
     · rw [if_neg hqi] at hLq;rw [if_neg (fun e => hpi ((hal p hp).1.2 e)), if_neg (fun e => hqi ((hal q hq).1.2 e))];exact h.apart p hp q hq hpq hLp hLq
 · have hne := hnw t ht';unfold updL at hL;rw [if_neg hne.1] at hL;obtain ⟨g, cs, e, hB, hr, hc⟩ := h.new t ht' hL;refine ⟨g, cs, ?_, hB, hr.below hb hr.lt, CV.below _ hc hb⟩;unfold updX;rw [if_neg (fun e2 => by rw [hne.2 e2] at hL; cases hL)];exact e
theorem RD.J.growB {d : RD} {g0 B : Nat} {w0 w w' : World} {L : Nat -> Bool} {x : Nat -> Value} (h : d.J g0 B w0 L x w) (i : Nat) (hi : i < d.n) (v : Value)
 (hd : ((List.range d.n).all fun j => d.dst j != d.dst i || j == i) = true) (ht : (d.tg.all fun t => t.1 != i) = true) (hk : (d.nw.all (fun t => t.1 != i && t.2.1 != d.dst i) && d.al.all (fun p => p.1 != i && p.2 != d.dst i)) = true) (hb : Below w.heap.size w w') (hv : (d.av i).holds w' v) (hg : g0 <= w.heap.size) :
 d.J g0 B w0 (updL L i) (updX x (d.dst i) v) w' := by
 simp only [Bool.and_eq_true, List.all_eq_true, bne_iff_ne] at hk;exact h.grow i hi v hd ht (fun t ht => ⟨(hk.1 t ht).1, fun e => absurd e (hk.1 t ht).2⟩) (fun p hp => ⟨⟨fun e => absurd e (hk.2 p hp).1, fun e => absurd e (hk.2 p hp).2⟩, fun e => absurd e (hk.2 p hp).1⟩) hb hv hg
theorem RD.J.store {d : RD} {g0 B : Nat} {w0 w : World} {L : Nat -> Bool} {x : Nat -> Value} (h : d.J g0 B w0 L x w) (i g : Nat) (A : AV) (hi : i < d.n) (hav : d.av i = .any) (hm : (i, g, A) ∈ d.tg)
 (hu : ∀ t ∈ d.tg, t.2.1 = g -> t = (i, g, A)) (hu' : ∀ t ∈ d.tg, t.1 = i -> t = (i, g, A)) (hnw : (d.nw.all fun t => t.1 != i) = true) (hal : (d.al.all fun t => t.1 != i) = true) (c : Bool) (ao : Option Addr) (l k : Nat) (hv : A.holds w (.agg #[.bool c, .slice ao l k])) (hban : d.okB 45 = true := by kernel_rfl) :
 d.J g0 B w0 (updL L i) x ((w.setCell ⟨g, 0, none⟩ (.bool c)).setCell ⟨g, 1, none⟩ (.slice ao l k)) := by
 obtain ⟨hg0, hgB, a0, b0, l0, k0, hr0, _⟩ := h.tgt _ hm;have hg0 : g0 <= g := hg0;have hgB : g < B := hgB;have hr0 : RowAt w g 45 [.bool a0, .slice b0 l0 k0] := hr0;have hnu : NoW [.bool c, .slice ao l k] := NoW.two _ _ _ _;have hO := RD.okB.all hban;have T : ∀ (a : AV) (v : Value), a.ban 45 = false -> a.holds w v -> a.holds ((w.setCell ⟨g, 0, none⟩ (.bool c)).setCell ⟨g, 1, none⟩ (.slice ao l k)) v := fun a v hb hh => AV.setAllB a (by decide) hb _ 0 hh hr0 (NoW.two _ _ _ _) hnu;have T' : ∀ (a : CV) (v : List Value), a.ban 45 = false -> a.holds w v -> a.holds ((w.setCell ⟨g, 0, none⟩ (.bool c)).setCell ⟨g, 1, none⟩ (.slice ao l k)) v := fun a v hb hh => CV.setAllB a (by decide) hb _ 0 hh hr0 (NoW.two _ _ _ _) hnu;refine ⟨(h.fr.setCell hg0 _).setCell hg0 _, by simpa using h.size, fun p hp => T _ _ (hO.2.2.1 p hp) (h.base p hp), fun p hp => ⟨((h.rows p hp).1.other ((h.rows p hp).2.2 _ hm) _).other ((h.rows p hp).2.2 _ hm) _, (h.rows p hp).2⟩, fun p hp => ⟨(World.cell?_setCell_far _ _ _ _ (fun e => (h.cells p hp).2.2 _ hm e.symm)).trans ((World.cell?_setCell_far _ _ _ _ (fun e => (h.cells p hp).2.2 _ hm e.symm)).trans (h.cells p hp).1), (h.cells p hp).2⟩, fun j hj hL => ?_, fun t ht => ?_, fun p hp q hq hpq hLp hLq => ?_, fun t ht' hL => ?_⟩
 · by_cases hji : j = i
   · subst hji; rw [hav]; exact trivial
   · unfold updL at hL;rw [if_neg hji] at hL;exact T _ _ (hO.1 j hj) (h.slot j hj hL)
 · by_cases ht2 : t.2.1 = g
   · obtain rfl := hu t ht ht2;refine ⟨hg0, hgB, c, ao, l, k, hr0.set2 _ _, fun _ => T _ _ (hO.2.1 _ hm) hv⟩
   · obtain ⟨h1, h2, a, b, l', k', hr, hc⟩ := h.tgt t ht;refine ⟨h1, h2, a, b, l', k', (hr.other ht2 _).other ht2 _, fun hL => ?_⟩;have hne : t.1 ≠ i := fun e => ht2 (by rw [hu' t ht e]);unfold updL at hL;rw [if_neg hne] at hL;exact T _ _ (hO.2.1 t ht) (hc hL)
 · have h1 := List.all_eq_true.1 hal p hp;have h2 := List.all_eq_true.1 hal q hq;simp only [bne_iff_ne] at h1 h2;unfold updL at hLp hLq;rw [if_neg h1] at hLp;rw [if_neg h2] at hLq;exact h.apart p hp q hq hpq hLp hLq
 · have hne := List.all_eq_true.1 hnw t ht';simp only [bne_iff_ne] at hne;unfold updL at hL;rw [if_neg hne] at hL;obtain ⟨g', cs, e, hB, hr, hc⟩ := h.new t ht' hL;have hgg : g' ≠ g := by omega
   exact ⟨g', cs, e, hB, (hr.other hgg _).other hgg _, T' _ _ (hO.2.2.2 t ht') hc⟩
theorem RD.J.storeNew {d : RD} {g0 B : Nat} {w0 w : World} {L : Nat -> Bool} {x : Nat -> Value} (h : d.J g0 B w0 L x w) (i s : Nat) (t : TypeId) (A : CV) (hi : i < d.n) (hav : d.av i = .any) (hm : (i, s, t, A) ∈ d.nw) (hu1 : ∀ t' ∈ d.nw, t'.1 = i -> t' = (i, s, t, A)) (hap : ∀ t' ∈ d.nw, t'.1 ≠ i -> L t'.1 = true -> x t'.2.1 ≠ x s) (hal : (d.al.all fun t => t.1 != i) = true) (htg : (d.tg.all fun t => t.1 != i) = true) (ht : t ≠ 49)
 {g : Nat} {cs us : List Value} (hx : x s = .pointer (some ⟨g, 0, none⟩)) (hB : B <= g) (hr : RowAt w g t cs) (hn : NoW cs) (hl : us.length = cs.length) (hu : NoW us) (hv : A.holds w us) (hg : g0 <= B) (hban : d.okB t = true := by kernel_rfl) :
 d.J g0 B w0 (updL L i) x (setAll w g 0 us) := by
 have hO := RD.okB.all hban;have T : ∀ (a : AV) (v : Value), a.ban t = false -> a.holds w v -> a.holds (setAll w g 0 us) v := fun a v hb hh => AV.setAllB a ht hb _ 0 hh hr hn hu;have T' : ∀ (a : CV) (v : List Value), a.ban t = false -> a.holds w v -> a.holds (setAll w g 0 us) v := fun a v hb hh => CV.setAllB a ht hb _ 0 hh hr hn hu;refine ⟨below_setAll (by omega) _ _ h.fr, by rw [size_setAll]; exact h.size, fun p hp => T _ _ (hO.2.2.1 p hp) (h.base p hp), fun p hp => ⟨RowAt.setAll_other (by have := (h.rows p hp).2.1; omega) _ _ (h.rows p hp).1, (h.rows p hp).2⟩, fun p hp => ⟨(cell_setAll (by have := (h.cells p hp).2.1; omega) _ _).trans (h.cells p hp).1, (h.cells p hp).2⟩, fun j hj hL => ?_, fun t' ht' => ?_, fun p hp q hq hpq hLp hLq => ?_, fun t' ht' hL => ?_⟩
 · by_cases hji : j = i
   · subst hji; rw [hav]; exact trivial
   · unfold updL at hL;rw [if_neg hji] at hL;exact T _ _ (hO.1 j hj) (h.slot j hj hL)
 · obtain ⟨h1, h2, a, b, l', k', hr', hc⟩ := h.tgt t' ht';refine ⟨h1, h2, a, b, l', k', RowAt.setAll_other (by omega) _ _ hr', fun hL => ?_⟩;have hne := List.all_eq_true.1 htg t' ht';simp only [bne_iff_ne] at hne;unfold updL at hL;rw [if_neg hne] at hL;exact T _ _ (hO.2.1 t' ht') (hc hL)
 · have h1 := List.all_eq_true.1 hal p hp;have h2 := List.all_eq_true.1 hal q hq;simp only [bne_iff_ne] at h1 h2;unfold updL at hLp hLq;rw [if_neg h1] at hLp;rw [if_neg h2] at hLq;exact h.apart p hp q hq hpq hLp hLq
 · by_cases hti : t'.1 = i
   · obtain rfl := hu1 t' ht' hti;have := RowAt.setAll us 0 hr (by omega);exact ⟨g, us, hx, hB, by simpa using this, T' _ _ (hO.2.2.2 _ hm) hv⟩
   · unfold updL at hL;rw [if_neg hti] at hL;obtain ⟨g', cs', e, hB', hr', hc⟩ := h.new t' ht' hL;have hgg : g' ≠ g := by
      rintro rfl;exact hap t' ht' hti hL (e.trans hx.symm)
     exact ⟨g', cs', e, hB', RowAt.setAll_other hgg _ _ hr', T' _ _ (hO.2.2.2 t' ht') hc⟩
theorem list2 {cs : List Value} (h : cs.length = 2) : ∃ a b, cs = [a, b] := by
 match cs, h with
 | [a, b], _ => exact ⟨a, b, rfl⟩
theorem list4 {cs : List Value} (h : cs.length = 4) : ∃ a b c d, cs = [a, b, c, d] := by
 match cs, h with
 | [a, b, c, d], _ => exact ⟨a, b, c, d, rfl⟩
theorem mm0 {α : Type} {a : α} {l : List α} : a ∈ a :: l := List.mem_cons_self ..
theorem mm1 {α : Type} {a b0 : α} {l : List α} : a ∈ b0 :: a :: l := List.mem_cons_of_mem _ mm0
theorem mm2 {α : Type} {a b0 b1 : α} {l : List α} : a ∈ b0 :: b1 :: a :: l := List.mem_cons_of_mem _ mm1
theorem mm3 {α : Type} {a b0 b1 b2 : α} {l : List α} : a ∈ b0 :: b1 :: b2 :: a :: l := List.mem_cons_of_mem _ mm2
theorem mm4 {α : Type} {a b0 b1 b2 b3 : α} {l : List α} : a ∈ b0 :: b1 :: b2 :: b3 :: a :: l := List.mem_cons_of_mem _ mm3
theorem mm5 {α : Type} {a b0 b1 b2 b3 b4 : α} {l : List α} : a ∈ b0 :: b1 :: b2 :: b3 :: b4 :: a :: l := List.mem_cons_of_mem _ mm4
theorem mm6 {α : Type} {a b0 b1 b2 b3 b4 b5 : α} {l : List α} : a ∈ b0 :: b1 :: b2 :: b3 :: b4 :: b5 :: a :: l := List.mem_cons_of_mem _ mm5
theorem mm7 {α : Type} {a b0 b1 b2 b3 b4 b5 b6 : α} {l : List α} : a ∈ b0 :: b1 :: b2 :: b3 :: b4 :: b5 :: b6 :: a :: l := List.mem_cons_of_mem _ mm6
theorem mm8 {α : Type} {a b0 b1 b2 b3 b4 b5 b6 b7 : α} {l : List α} : a ∈ b0 :: b1 :: b2 :: b3 :: b4 :: b5 :: b6 :: b7 :: a :: l := List.mem_cons_of_mem _ mm7
theorem mc {α : Type} {a b : α} {l : List α} (h : a ∈ b :: l) : a = b ∨ a ∈ l := List.mem_cons.1 h
def putAll (a : Act) (x : Nat -> Value) (ds : List Nat) : Act := ds.foldl (fun b d => b.put (some d) (x d)) a
theorem pN : (∀ (a : Act) (x : Nat -> Value), putAll a x [] = a) /\ (∀ (a : Act) (x : Nat -> Value) (d : Nat) (ds : List Nat), putAll a x (d :: ds) = putAll (a.put (some d) (x d)) x ds) /\
 (∀ (l : List Value) (df : List Deferred) (d : Nat) (v : Value), Act.put ⟨l.toArray, df⟩ (some d) v = ⟨(l.set d v).toArray, df⟩) /\ (∀ (x : Nat -> Value) (d : Nat) (v : Value) (j : Nat), updX x d v j = if j = d then v else x j) /\
 (∀ (a b : Value) (l : List Value), (a :: l).set 0 b = b :: l) /\ (∀ (a b : Value) (l : List Value) (n : Nat), (a :: l).set (n + 1) b = a :: l.set n b) :=
 ⟨fun _ _ => rfl, fun _ _ _ _ => rfl, fun l df d v => by simp [Act.put], fun _ _ _ _ => rfl, fun _ _ _ => rfl, fun _ _ _ _ => rfl⟩
attribute [go_sem] pN
theorem wps {P : Program} {ops : Array Oper} {Q : Exit -> Act -> World -> Prop} {i : Nat} {o : Oper} {K : Act -> World -> Prop} {a : Act} {w : World} (ho : ops[i]? = some o)
 (h : ∀ K' : Act -> World -> Prop, (∀ a w, K a w -> K' a w) -> if Region.wanted o (yielded ops a.tmps) = true then Oper.wp P o a w K' Q else K' (a.put o.dst undef) w) : wpOp P ops Q i K a w := wpOp_step ho h
theorem RD.J.pt {d : RD} {g0 B : Nat} {w0 w : World} {L : Nat -> Bool} {x : Nat -> Value} (h : d.J g0 B w0 L x w) (i s : Nat) (v : Value) (hi : Nat.blt i d.n = true) (hs : d.dst i = s) (ha : d.av i = .val v) (hL : L i = true) : x = updX x s v := by
 have e := h.slot i (Nat.le_of_ble_eq_true hi) hL;rw [ha, hs] at e;exact patchX e
theorem RD.J.gC {d : RD} {g0 B : Nat} {w0 w w' : World} {L : Nat -> Bool} {x : Nat -> Value} (h : d.J g0 B w0 L x w) (i : Nat) (hi : Nat.blt i d.n = true) {v : Value}
 (hk : (((List.range d.n).all fun j => d.dst j != d.dst i || j == i) && (d.tg.all fun t => t.1 != i) && (d.nw.all (fun t => t.1 != i && t.2.1 != d.dst i) && d.al.all (fun p => p.1 != i && p.2 != d.dst i))) = true) (hb : Below w.heap.size w w') (hv : (d.av i).holds w' v) (hg : g0 <= B) :
 d.J g0 B w0 (updL L i) (updX x (d.dst i) v) w' := by
 rw [Bool.and_eq_true, Bool.and_eq_true] at hk;exact h.growB i (Nat.le_of_ble_eq_true hi) v hk.1.1 hk.1.2 hk.2 hb hv (Nat.le_trans hg h.size)
theorem RD.J.pC {d : RD} {g0 B : Nat} {w0 w : World} {L : Nat -> Bool} {x : Nat -> Value} (h : d.J g0 B w0 L x w) (i : Nat) (hi : Nat.blt i d.n = true) {v : Value}
 (hk : (((List.range d.n).all fun j => d.dst j != d.dst i || j == i) && (d.tg.all fun t => t.1 != i) && (d.nw.all (fun t => t.1 != i && t.2.1 != d.dst i) && d.al.all (fun p => p.1 != i && p.2 != d.dst i))) = true) (hv : (d.av i).holds w v) (hg : g0 <= B) :
 d.J g0 B w0 (updL L i) (updX x (d.dst i) v) w := h.gC i hi hk (Below.refl _ _) hv hg
theorem RD.J.q {d : RD} {g0 B : Nat} {w0 w : World} {L : Nat -> Bool} {x : Nat -> Value} (h : d.J g0 B w0 L x w) {A a : Act} {ds : List Nat} {i : Nat} {K : Act -> World -> Prop} (hK : ∀ a w, (∃ x', a = putAll A x' ds /\ d.J g0 B w0 (updL L i) x' w) -> K a w) {v : Value}
 (hk : (Nat.blt i d.n && (((List.range d.n).all fun j => d.dst j != d.dst i || j == i) && (d.tg.all fun t => t.1 != i) && (d.nw.all (fun t => t.1 != i && t.2.1 != d.dst i) && d.al.all (fun p => p.1 != i && p.2 != d.dst i)))) = true) (hv : (d.av i).holds w v) (ha : a = putAll A (updX x (d.dst i) v) ds := by kernel_rfl) (hg : g0 <= B := by omega) : K a w := by
 rw [Bool.and_eq_true] at hk;exact hK _ _ ⟨_, ha, h.pC i hk.1 hk.2 hv hg⟩
theorem allc {p : Nat -> Prop} {i : Nat} {l : List Nat} (h : p i) (hs : ∀ j ∈ l, p j) : ∀ j ∈ i :: l, p j := fun j hj => by
 rcases List.mem_cons.1 hj with rfl | hj
 · exact h
 · exact hs j hj
theorem alln {p : Nat -> Prop} : ∀ j ∈ ([] : List Nat), p j := fun _ h => by cases h
def preOf (ops : Array Oper) (i : Nat) : List Nat := ((ops[i]?).map fun o => (o.after.toList.filter (Region.binds .any)).map (·.on)).getD []
def noD (ops : Array Oper) (i : Nat) : Bool := ((ops[i]?).map fun o => o.after.all fun e => match e.ground with | .data => false | _ => true).getD false
theorem hp0 {ops : Array Oper} {i : Nat} {L : Nat -> Bool} (_ : ∀ j ∈ preOf ops i, L j = true) (_ : noD ops i = true) : True := trivial
theorem wp_region_J (d : RD) (ds : List Nat) {P : Program} {ops : Array Oper} {Q : Exit -> Act -> World -> Prop} {id : Nat} {a : Act} {w : World} (g0 : Nat) (hm : P.follows .mixedOrders = true) (hn : ops.size = d.n)
 (hb : ((List.range d.n).all fun i => ((ops[i]?).map (·.after.all fun e => !Region.binds .any e || decide (e.on < i))).getD false) = true)
 (hF : a = putAll a (fun k => a.tmps.getD k undef) ds)
 (hbs : ∀ p ∈ d.bs, p.2.holds w.drew p.1) (hrw : ∀ p ∈ d.rows, RowAt w p.1 p.2.1 p.2.2 /\ p.1 < w.heap.size /\ ∀ t ∈ d.tg, p.1 ≠ t.2.1) (hcl : ∀ p ∈ d.cells, w.cell? p.1 = some p.2 /\ p.1.block < w.heap.size /\ ∀ t ∈ d.tg, p.1.block ≠ t.2.1) (ht : ∀ t ∈ d.tg, g0 <= t.2.1 /\ t.2.1 < w.heap.size /\ ∃ n ao l k, RowAt w t.2.1 45 [.bool n, .slice ao l k])
 (hs : ∀ i ∈ List.range d.n, ∀ L x w', d.J g0 w.heap.size w.drew L x w' -> L i = false -> (∀ j ∈ preOf ops i, L j = true) -> (∀ k < d.n, L k = true -> ∀ j ∈ preOf ops k, L j = true) -> wpOp P ops Q i (fun a' w'' => ∃ x', a' = putAll a x' ds /\ d.J g0 w.heap.size w.drew (updL L i) x' w'') (putAll a x ds) w')
 (hend : ∀ L x w', (∀ i < d.n, L i = true) -> d.J g0 w.heap.size w.drew L x w' -> Q .normal (putAll a x ds) w') : (Code.region id ops true).wp P Q a w := by
 have hpre : ∀ (L : Nat -> Bool) (i : Nat), ((ops[i]?).map (·.after.all fun e => !Region.binds .any e || L e.on)).getD false = true -> ∀ j ∈ preOf ops i, L j = true := by
  intro L i hp j hj;unfold preOf at hj;cases ho : ops[i]? with
  | none => rw [ho] at hj; simp at hj
  | some o =>
   rw [ho] at hp hj;simp only [Option.map_some, Option.getD_some, List.mem_map, List.mem_filter] at hj hp;obtain ⟨e, ⟨he, hbd⟩, rfl⟩ := hj;rw [Array.all_eq_true] at hp;obtain ⟨k, hk, rfl⟩ := Array.mem_iff_getElem.1 (Array.mem_def.2 he);have := hp k hk;rw [hbd] at this;simpa using this
 refine wp_region_inv hm hn hb (fun x => putAll a x ds) (d.J g0 w.heap.size w.drew) (fun k => a.tmps.getD k undef) hF ?_ (fun i hi L x w' hJ hG hL hp => hs i (List.mem_range.2 hi) L x w' hJ hL (hpre L i hp) (fun k hk hLk => hpre L k (hG k hk hLk))) hend;refine ⟨Below.refl _ _, Nat.le_refl _, hbs, hrw, hcl, fun i _ h => by simp at h, fun t h => ?_, fun _ _ _ _ _ h => by simp at h, fun _ _ h => by simp at h⟩;obtain ⟨h1, h2, a, b, l, k, hr⟩ := ht t h;exact ⟨h1, h2, a, b, l, k, hr, fun h => by simp at h⟩
theorem results_int2_tmp {fn : Func} {p p2 q : Tmp} (h : fn.results = #[.cell p 45, .cell p2 45, .tmp q]) (tmps : Array Value) (w : World) (g g2 : Nat) (a b c d : Value) (hp : tmps.getD p undef = .pointer (some ⟨g, 0, none⟩)) (hp2 : tmps.getD p2 undef = .pointer (some ⟨g2, 0, none⟩))
 (hr : RowAt w g 45 [a, b]) (hr2 : RowAt w g2 45 [c, d]) :
 (results fn tmps).run Tryz.prog w = .ok (.tuple #[.agg #[a, b], .agg #[c, d], tmps.getD q undef]) w := by
 have hp' : tmps[p]?.getD undef = .pointer (some ⟨g, 0, none⟩) := by simpa using hp
 have hp2' : tmps[p2]?.getD undef = .pointer (some ⟨g2, 0, none⟩) := by simpa using hp2
 simp [results, h, hp', hp2', asAddr, run_loadVar_row w g 45 45 #[a, b] (0, 0) _ hr Tryz.underlying45 rfl (by kernel_rfl), run_loadVar_row w g2 45 45 #[c, d] (0, 0) _ hr2 Tryz.underlying45 rfl (by kernel_rfl)]
theorem zi_tdiv {a b : Bool} {m n : Nat} : zi (a != b) (m / n) = (zi a m).tdiv (zi b n) := by
 cases a <;> cases b <;> simp [zi, Int.ofNat_tdiv]
theorem zi_tmod {a b : Bool} {m n : Nat} : zi a (m % n) = (zi a m).tmod (zi b n) := by
 have h : ((m % n : Nat) : Int) = (m : Int).tmod (n : Int) := rfl;cases a <;> cases b <;> simp only [zi, h, Int.neg_tmod, Int.tmod_neg, if_true, Bool.false_eq_true, if_false]
set_option maxRecDepth 100000 in
set_option maxHeartbeats 1000000 in
theorem ITrunc_c (v u : Value) (x y : Int) (w : World) (hA : IntAt w 17592186044415 v x) (hB : IntAt w 17592186044415 u y) (hy : y ≠ 0) :
 Calls Tryz.prog 117 #[v, u] w fun e w' => (∃ v' u', e = .returned (.tuple #[v', u', .int .i64 0]) /\ OwnI w' w.heap.size v' (x.tdiv y) /\ OwnI w' w.heap.size u' (x.tmod y)) /\ Below w.heap.size w w' := by
 obtain ⟨n, ao, len, cap, ws, rfl, hW, hl, hL1, hc, hx⟩ := hA;obtain ⟨n2, ao2, len2, cap2, ws2, rfl, hW2, hl2, hL2, hc2, hx2⟩ := hB;have h2 : nval ws2 ≠ 0 := fun h => hy (by rw [hx2, h]; cases n2 <;> rfl);have H2 := Lib.hid h2; clear h2 hy;have Hx := Lib.hid hx; clear hx;have Hl := Lib.hid hl; clear hl;have Hx2 := Lib.hid hx2; clear hx2;have Hl2 := Lib.hid hl2; clear hl2;go_enter Tryz.func117, Tryz.ntmps117;go_wp2_with fail
 obtain ⟨r1, r2, r3, r4, hb⟩ := four_new w #[.bool n, .slice ao len cap] #[.bool n2, .slice ao2 len2 cap2] #[.bool false, .slice none 0 0] #[.bool false, .slice none 0 0] 45 45 45 45;generalize (((w.alloc (.cells #[.bool n, .slice ao len cap] 45)).alloc (.cells #[.bool n2, .slice ao2 len2 cap2] 45)).alloc (.cells #[.bool false, .slice none 0 0] 45)).alloc (.cells #[.bool false, .slice none 0 0] 45) = w2 at *;refine (DivMod_c _ _ _ _ _ _ ws ws2 _ (hW.below hb) (hW2.below hb) Hl.out Hl2.out (by omega) (by omega) H2.out).mono ?_;rintro e w3 ⟨⟨aq, cq, ar, cr, rfl, hOq, hOr⟩, hb3⟩;have R1 := r1.below hb3 r1.lt;have R2 := r2.below hb3 r2.lt;have R3 := r3.below hb3 r3.lt;have R4 := r4.below hb3 r4.lt;have hs3 : w.heap.size + 4 <= w2.heap.size := r4.lt;have hs4 := hb3.size;have hOq' := hOq.mono (B' := w.heap.size + 4) hs3;have hOr' := hOr.mono (B' := w.heap.size + 4) hs3;have hbf : Below w.heap.size w w3 := hb.trans (hb3.mono hb.size);clear r1 r2 r3 r4 hOq hOr hb hb3 hW hW2;obtain ⟨Q, hQ⟩ : ∃ Q, nval ws / nval ws2 = Q := ⟨_, rfl⟩;obtain ⟨R, hR⟩ : ∃ R, nval ws % nval ws2 = R := ⟨_, rfl⟩;rw [hQ] at hOq' ⊢;rw [hR] at hOr' ⊢;have HQ := Lib.hid hQ; clear hQ;have HR := Lib.hid hR; clear hR;have HOq := Lib.hid hOq'; clear hOq';have HOr := Lib.hid hOr'; clear hOr';have HR1 := Lib.hid R1; clear R1;have HR2 := Lib.hid R2; clear R2;have HR3 := Lib.hid R3; clear R3;have HR4 := Lib.hid R4; clear R4;go_wp2;refine wp_region_J ⟨14, fun q_ => [24, 25, 26, 27, 28, 29, 30, 31, 32, 33, 34, 1011, 1012, 6].getD q_ 0,
  fun q_ => [.val (.pointer (some ⟨w.heap.size, 0, none⟩)), .val (.bool n), .val (.pointer (some ⟨w.heap.size + 1, 0, none⟩)), .val (.bool n2), .val (.bool (n != n2)), .val (.slice aq (wlen Q) cq), .int (w.heap.size + 4) (zi (n != n2) Q), .val (.pointer (some ⟨w.heap.size, 0, none⟩)), .val (.bool n), .val (.slice ar (wlen R) cr), .int (w.heap.size + 4) (zi n R), .any, .any, .val (.int .i64 0)].getD q_ .any,
  [(11, w.heap.size + 2, .int (w.heap.size + 4) (zi (n != n2) Q)), (12, w.heap.size + 3, .int (w.heap.size + 4) (zi n R))],
  [(.slice aq (wlen Q) cq, .own (w.heap.size + 4) Q), (.slice ar (wlen R) cr, .own (w.heap.size + 4) R)],
  [],
  [], [], []⟩ [24, 25, 26, 27, 28, 29, 30, 31, 32, 33, 34, 6] (w.heap.size + 2) (by kernel_rfl) (by kernel_rfl) (by kernel_rfl) (by kernel_rfl) ?_ ?_ ?_ ?_ ?_ ?_
 · intro p hp;rcases mc hp with rfl | hp
   · exact ⟨_, _, rfl, HOq.out⟩
   rcases mc hp with rfl | hp
   · exact ⟨_, _, rfl, HOr.out⟩
   cases hp
 · intro p hp;cases hp
 · intro p hp;cases hp
 · intro t ht;rcases mc ht with rfl | ht
   · exact ⟨by show w.heap.size + 2 <= w.heap.size + 2; omega, by show w.heap.size + 2 < w3.heap.size; omega, _, _, _, _, HR3.out⟩
   rcases mc ht with rfl | ht
   · exact ⟨by show w.heap.size + 2 <= w.heap.size + 3; omega, by show w.heap.size + 3 < w3.heap.size; omega, _, _, _, _, HR4.out⟩
   cases ht
 · refine allc ?_ (allc ?_ (allc ?_ (allc ?_ (allc ?_ (allc ?_ (allc ?_ (allc ?_ (allc ?_ (allc ?_ (allc ?_ (allc ?_ (allc ?_ (allc ?_ alln)))))))))))));any_goals (first | (intro L fx w' hJ hL hp hcl; have _ := hp0 hp (by decide +kernel); refine wps rfl fun K hK => ?_; go_simp; exact hJ.q hK (by kernel_rfl) rfl) | fail)
   · intro L fx w' hJ hL hp hcl;have e0 := hJ.pt 0 24 (.pointer (some ⟨w.heap.size, 0, none⟩)) rfl rfl rfl (hp 0 (by decide));rw [e0] at hJ ⊢; clear e0;refine wps rfl fun K hK => ?_;have c1 : w'.cell? ⟨w.heap.size, 0, none⟩ = some (.bool n) := (hJ.fr.cell (by show w.heap.size < w.heap.size + 2; omega)).trans (HR1.out.cell 0);go_simp;exact hJ.q hK (by kernel_rfl) rfl
   · intro L fx w' hJ hL hp hcl;have e2 := hJ.pt 2 26 (.pointer (some ⟨w.heap.size + 1, 0, none⟩)) rfl rfl rfl (hp 2 (by decide));rw [e2] at hJ ⊢; clear e2;refine wps rfl fun K hK => ?_;have c1 : w'.cell? ⟨w.heap.size + 1, 0, none⟩ = some (.bool n2) := (hJ.fr.cell (by show w.heap.size + 1 < w.heap.size + 2; omega)).trans (HR2.out.cell 0);go_simp;exact hJ.q hK (by kernel_rfl) rfl
   · intro L fx w' hJ hL hp hcl;have e1 := hJ.pt 1 25 (.bool n) rfl rfl rfl (hp 1 (by decide));rw [e1] at hJ ⊢; clear e1;have e3 := hJ.pt 3 27 (.bool n2) rfl rfl rfl (hp 3 (by decide));rw [e3] at hJ ⊢; clear e3;refine wps rfl fun K hK => ?_;go_simp;exact hJ.q hK (by kernel_rfl) rfl
   · intro L fx w' hJ hL hp hcl;have e4 := hJ.pt 4 28 (.bool (n != n2)) rfl rfl rfl (hp 4 (by decide));rw [e4] at hJ ⊢; clear e4;have e5 := hJ.pt 5 29 (.slice aq (wlen Q) cq) rfl rfl rfl (hp 5 (by decide));rw [e5] at hJ ⊢; clear e5;refine wps rfl fun K hK => ?_;simp only [pN, Nat.reduceEqDiff, ↓reduceIte];obtain ⟨ao0, cap0, heq, hO⟩ := hJ.base _ mm0;cases heq;go_simp;go_at_call 115;refine (of_c (n != n2) _ _ _ _).mono ?_;rintro e w4 ⟨rfl, hb4⟩;try dsimp only
     exact hK _ _ ⟨_, by kernel_rfl, hJ.gC 6 rfl (by kernel_rfl) hb4 (OwnI.mk (n != n2) (hO.below hb4)) (by omega)⟩
   · intro L fx w' hJ hL hp hcl;have e7 := hJ.pt 7 31 (.pointer (some ⟨w.heap.size, 0, none⟩)) rfl rfl rfl (hp 7 (by decide));rw [e7] at hJ ⊢; clear e7;refine wps rfl fun K hK => ?_;have c1 : w'.cell? ⟨w.heap.size, 0, none⟩ = some (.bool n) := (hJ.fr.cell (by show w.heap.size < w.heap.size + 2; omega)).trans (HR1.out.cell 0);go_simp;exact hJ.q hK (by kernel_rfl) rfl
   · intro L fx w' hJ hL hp hcl;have e8 := hJ.pt 8 32 (.bool n) rfl rfl rfl (hp 8 (by decide));rw [e8] at hJ ⊢; clear e8;have e9 := hJ.pt 9 33 (.slice ar (wlen R) cr) rfl rfl rfl (hp 9 (by decide));rw [e9] at hJ ⊢; clear e9;refine wps rfl fun K hK => ?_;simp only [pN, Nat.reduceEqDiff, ↓reduceIte];obtain ⟨ao0, cap0, heq, hO⟩ := hJ.base _ mm1;cases heq;go_simp;go_at_call 115;refine (of_c n _ _ _ _).mono ?_;rintro e w4 ⟨rfl, hb4⟩;try dsimp only
     exact hK _ _ ⟨_, by kernel_rfl, hJ.gC 10 rfl (by kernel_rfl) hb4 (OwnI.mk n (hO.below hb4)) (by omega)⟩
   · intro L fx w' hJ hL hp hcl;have e6 := hJ.slot 6 (by show 6 < 14; decide) (hp 6 (by decide));have hu0 : ∀ t ∈ ([(11, w.heap.size + 2, .int (w.heap.size + 4) (zi (n != n2) Q)), (12, w.heap.size + 3, .int (w.heap.size + 4) (zi n R))] : List (Nat × Nat × AV)), t.2.1 = w.heap.size + 2 -> t = (11, w.heap.size + 2, .int (w.heap.size + 4) (zi (n != n2) Q)) := by
      intro t ht h;rcases mc ht with rfl | ht
      · rfl
      rcases mc ht with rfl | ht
      · exact absurd (show w.heap.size + 3 = w.heap.size + 2 from h) (by omega)
      cases ht
     have hu1 : ∀ t ∈ ([(11, w.heap.size + 2, .int (w.heap.size + 4) (zi (n != n2) Q)), (12, w.heap.size + 3, .int (w.heap.size + 4) (zi n R))] : List (Nat × Nat × AV)), t.1 = 11 -> t = (11, w.heap.size + 2, .int (w.heap.size + 4) (zi (n != n2) Q)) := by
      intro t ht h;rcases mc ht with rfl | ht
      · rfl
      rcases mc ht with rfl | ht
      · exact absurd (show 12 = 11 from h) (by decide)
      cases ht
     obtain ⟨ao0, cap0, hv0, hO0⟩ := e6;rw [patchX (x := fx) (d := 30) hv0] at hJ ⊢;obtain ⟨_, _, a0, b0, l0, k0, hr0, _⟩ := hJ.tgt _ mm0;have hf0 := RowAt.free hr0 0;have hf1 := RowAt.free hr0 1;have hc0 := RowAt.cell hr0 0;have hc1 := RowAt.cell hr0 1;try dsimp only at hf0 hf1 hc0 hc1
     refine wps rfl fun K hK => ?_;go_simp;exact hK _ _ ⟨_, by kernel_rfl, hJ.store 11 (w.heap.size + 2) _ (by show 11 < 14; decide) rfl mm0 hu0 hu1 (by kernel_rfl) (by kernel_rfl) _ _ _ _ ⟨ao0, cap0, rfl, hO0⟩⟩
   · intro L fx w' hJ hL hp hcl;have e10 := hJ.slot 10 (by show 10 < 14; decide) (hp 10 (by decide));have hu0 : ∀ t ∈ ([(11, w.heap.size + 2, .int (w.heap.size + 4) (zi (n != n2) Q)), (12, w.heap.size + 3, .int (w.heap.size + 4) (zi n R))] : List (Nat × Nat × AV)), t.2.1 = w.heap.size + 3 -> t = (12, w.heap.size + 3, .int (w.heap.size + 4) (zi n R)) := by
      intro t ht h;rcases mc ht with rfl | ht
      · exact absurd (show w.heap.size + 2 = w.heap.size + 3 from h) (by omega)
      rcases mc ht with rfl | ht
      · rfl
      cases ht
     have hu1 : ∀ t ∈ ([(11, w.heap.size + 2, .int (w.heap.size + 4) (zi (n != n2) Q)), (12, w.heap.size + 3, .int (w.heap.size + 4) (zi n R))] : List (Nat × Nat × AV)), t.1 = 12 -> t = (12, w.heap.size + 3, .int (w.heap.size + 4) (zi n R)) := by
      intro t ht h;rcases mc ht with rfl | ht
      · exact absurd (show 11 = 12 from h) (by decide)
      rcases mc ht with rfl | ht
      · rfl
      cases ht
     obtain ⟨ao0, cap0, hv0, hO0⟩ := e10;rw [patchX (x := fx) (d := 34) hv0] at hJ ⊢;obtain ⟨_, _, a0, b0, l0, k0, hr0, _⟩ := hJ.tgt _ mm1;have hf0 := RowAt.free hr0 0;have hf1 := RowAt.free hr0 1;have hc0 := RowAt.cell hr0 0;have hc1 := RowAt.cell hr0 1;try dsimp only at hf0 hf1 hc0 hc1
     refine wps rfl fun K hK => ?_;go_simp;exact hK _ _ ⟨_, by kernel_rfl, hJ.store 12 (w.heap.size + 3) _ (by show 12 < 14; decide) rfl mm1 hu0 hu1 (by kernel_rfl) (by kernel_rfl) _ _ _ _ ⟨ao0, cap0, rfl, hO0⟩⟩
 · intro L x w' hL hJ;obtain ⟨_, _, a1, b1, l1, k1, hr1, hc1⟩ := hJ.tgt _ mm0;obtain ⟨_, _, a2, b2, l2, k2, hr2, hc2⟩ := hJ.tgt _ mm1;have hI1 : OwnI w' _ (.agg #[.bool a1, .slice b1 l1 k1]) (zi (n != n2) Q) := hc1 (hL 11 (by show 11 < 14; decide));have hI2 : OwnI w' _ (.agg #[.bool a2, .slice b2 l2 k2]) (zi n R) := hc2 (hL 12 (by show 12 < 14; decide));have e13 : x 6 = _ := hJ.slot 13 (by show 13 < 14; decide) (hL 13 (by show 13 < 14; decide));rw [patchX (x := x) (d := 6) (v := (.int .i64 0)) e13] at hJ ⊢;have hfr := hJ.fr;clear hJ hc1 hc2 e13;simp only [pN, Nat.reduceEqDiff, ↓reduceIte];try go_wp2
   refine bodyPost_ret (results_int2_tmp (p := 4) (p2 := 5) (q := 6) (by kernel_rfl) _ _ (w.heap.size + 2) (w.heap.size + 3) _ _ _ _ rfl rfl hr1 hr2) rfl ?_;rw [<- HQ.out, zi_tdiv, <- Hx.out, <- Hx2.out] at hI1;rw [<- HR.out, zi_tmod (b := n2), <- Hx.out, <- Hx2.out] at hI2;refine ⟨⟨_, _, rfl, hI1.mono (by omega), hI2.mono (by omega)⟩, ?_⟩;exact hbf.trans (((Below.refl w.heap.size w3).drew).trans (hfr.mono (by omega)))
theorem zi_neg_iff {n : Bool} {m : Nat} (h : zi n m ≠ 0) : n = decide (zi n m < 0) := by
 unfold zi at *; cases n <;> simp at * <;> omega
theorem floor_same {x y : Int} (hy : y ≠ 0) (h : x.tmod y = 0 ∨ (decide (x.tmod y < 0)) = decide (y < 0)) : x.fdiv y = x.tdiv y /\ x.fmod y = x.tmod y := by
 have hx := Int.emod_nonneg x hy;have hl := Int.emod_lt x hy;rw [Int.fdiv_eq_ediv, Int.tdiv_eq_ediv, Int.fmod_eq_emod, Int.tmod_eq_emod];rw [Int.tmod_eq_emod] at h;by_cases hd : y ∣ x
 · simp [hd]
 · have h0 : x % y ≠ 0 := fun e => hd (Int.dvd_of_emod_eq_zero e);simp only [hd, or_false] at h ⊢;rcases Int.lt_or_gt_of_ne hy with hy' | hy'
   · have hs : y.sign = -1 := Int.sign_eq_neg_one_of_neg hy';by_cases h0x : 0 <= x
     · simp [h0x, hy', Int.not_le.2 hy'] at h ⊢; omega
     · simp [h0x, hy', Int.not_le.2 hy', hs] at h ⊢; omega
   · have hs : y.sign = 1 := Int.sign_eq_one_of_pos hy';by_cases h0x : 0 <= x
     · simp [h0x, Int.le_of_lt hy'] at h ⊢
     · simp [h0x, hs, Int.le_of_lt hy'] at h ⊢; omega
theorem floor_other {x y : Int} (hy : y ≠ 0) (h : x.tmod y ≠ 0) (h2 : ¬ (decide (x.tmod y < 0)) = decide (y < 0)) : x.fdiv y = x.tdiv y - 1 /\ x.fmod y = x.tmod y + y := by
 have hx := Int.emod_nonneg x hy;have hl := Int.emod_lt x hy;rw [Int.fdiv_eq_ediv, Int.tdiv_eq_ediv, Int.fmod_eq_emod, Int.tmod_eq_emod];rw [Int.tmod_eq_emod] at h h2;by_cases hd : y ∣ x
 · have : x % y = 0 := Int.emod_eq_zero_of_dvd hd;simp [hd, this] at h
 · have h0 : x % y ≠ 0 := fun e => hd (Int.dvd_of_emod_eq_zero e);simp only [hd, or_false] at h h2 ⊢;rcases Int.lt_or_gt_of_ne hy with hy' | hy'
   · have hs : y.sign = -1 := Int.sign_eq_neg_one_of_neg hy';by_cases h0x : 0 <= x
     · simp [h0x, hy', Int.not_le.2 hy'] at h h2 ⊢
     · simp [h0x, hy', Int.not_le.2 hy', hs] at h h2 ⊢; omega
   · have hs : y.sign = 1 := Int.sign_eq_one_of_pos hy';by_cases h0x : 0 <= x
     · simp [h0x, Int.le_of_lt hy'] at h h2 ⊢; omega
     · simp [h0x, hs, Int.le_of_lt hy'] at h h2 ⊢; omega
theorem wlen_one : wlen (1 : Int).natAbs <= 17592186044415 := Nat.le_trans (wlen_le_of_lt (k := 1) (by decide)) (by omega)
set_option maxRecDepth 100000 in
set_option maxHeartbeats 8000000 in
theorem IFloor_c (v u : Value) (x y : Int) (w : World) (hA : IntAt w 17592186044415 v x) (hB : IntAt w 17592186044415 u y) (hy : y ≠ 0) :
 Calls Tryz.prog 70 #[v, u] w fun e w' => (∃ v' u', e = .returned (.tuple #[v', u', .int .i64 0]) /\ OwnI w' w.heap.size v' (x.fdiv y) /\ OwnI w' w.heap.size u' (x.fmod y)) /\ Below w.heap.size w w' := by
 have hlx := hA.wlen;have hA' := hA;have hB' := hB;obtain ⟨n, ao, len, cap, ws, rfl, hW, hl, hL1, hc, hx⟩ := hA;obtain ⟨n2, ao2, len2, cap2, ws2, rfl, hW2, hl2, hL2, hc2, hx2⟩ := hB;have hn2 : n2 = decide (y < 0) := by rw [hx2]; exact zi_neg_iff (by rw [<- hx2]; exact hy)
 clear hW hW2 hx hx2 hl hl2 hc hc2 hL1 hL2;have HA := Lib.hid hA'; clear hA';have HB := Lib.hid hB'; clear hB';have HY := Lib.hid hy; clear hy;have HN2 := Lib.hid hn2; clear hn2;go_enter Tryz.func70, Tryz.ntmps70;go_wp2_with fail
 obtain ⟨r1, r2, r3, r4, hb⟩ := four_new w #[.bool n, .slice ao len cap] #[.bool n2, .slice ao2 len2 cap2] #[.bool false, .slice none 0 0] #[.bool false, .slice none 0 0] 45 45 45 45;generalize (((w.alloc (.cells #[.bool n, .slice ao len cap] 45)).alloc (.cells #[.bool n2, .slice ao2 len2 cap2] 45)).alloc (.cells #[.bool false, .slice none 0 0] 45)).alloc (.cells #[.bool false, .slice none 0 0] 45) = w2 at *;refine (ITrunc_c _ _ x y _ (HA.out.below hb) (HB.out.below hb) HY.out).mono ?_;rintro e w3 ⟨⟨v', u', rfl, hq, hr⟩, hb3⟩;have R1 := r1.below hb3 r1.lt;have R2 := r2.below hb3 r2.lt;have R3 := r3.below hb3 r3.lt;have R4 := r4.below hb3 r4.lt;have hs3 : w.heap.size + 4 <= w2.heap.size := r4.lt;have hs4 := hb3.size;have hbf : Below w.heap.size w w3 := hb.trans (hb3.mono hb.size);obtain ⟨q, hq0⟩ : ∃ q, x.tdiv y = q := ⟨_, rfl⟩;obtain ⟨r, hr0⟩ : ∃ r, x.tmod y = r := ⟨_, rfl⟩;rw [hq0] at hq;rw [hr0] at hr;have hlq : wlen q.natAbs <= 17592186044415 := by rw [<- hq0, Int.natAbs_tdiv]; exact Nat.le_trans (wlen_div ..) hlx
 have hlr : wlen r.natAbs <= 17592186044415 := by rw [<- hr0, Int.natAbs_tmod]; exact Nat.le_trans (wlen_mod ..) hlx
 have hq' := hq.mono (B' := w.heap.size + 4) hs3;have hr' := hr.mono (B' := w.heap.size + 4) hs3;obtain ⟨aq, cq, rfl, hOq⟩ := hq;obtain ⟨ar, cr, rfl, hOr⟩ := hr;have HQ := Lib.hid hq'; clear hq';have HR := Lib.hid hr'; clear hr';have HQ0 := Lib.hid hq0; clear hq0;have HR0 := Lib.hid hr0; clear hr0;have HB3 := Lib.hid ((HB.out.below hb).below hb3);clear r1 r2 r3 r4 hOq hOr hb hb3;have c2 : w3.cell? ⟨w.heap.size + 1, 0, none⟩ = some (.bool n2) := R2.cell 0;have c3 : w3.cell? ⟨w.heap.size + 1, 1, none⟩ = some (.slice ao2 len2 cap2) := R2.cell 1;have hs5 : w.heap.size + 3 < w3.heap.size := R4.lt;have hk1 : w.heap.size + 1 < w3.heap.size := by omega
 have hk2 : ¬ w3.heap.size = w.heap.size + 1 := by omega
 have hk3 : ¬ w3.heap.size + 1 = w.heap.size + 1 := by omega
 have HR2 := Lib.hid R2; clear R2;have HR3 := Lib.hid R3; clear R3;have HR4 := Lib.hid R4; clear R4;clear R1;by_cases h0 : r = 0
 · have hl0 : wlen r.natAbs = 0 := by rw [h0]; exact wlen_zero
   rw [hl0] at HR ⊢;have HF := Lib.hid (floor_same HY.out (.inl (HR0.out.trans h0)));rw [HQ0.out, HR0.out] at HF;clear h0 hl0;obtain ⟨l7, l8, hb4⟩ := two_new w3 #[.bool (decide (q < 0)), .slice aq (wlen q.natAbs) cq] #[.bool (decide (r < 0)), .slice ar 0 cr] 45 45;have cc := (hb4.cell (p := ⟨w.heap.size + 1, 0, none⟩) hk1).trans c2;go_wp2_with fail
   generalize (w3.alloc (.cells #[.bool (decide (q < 0)), .slice aq (wlen q.natAbs) cq] 45)).alloc (.cells #[.bool (decide (r < 0)), .slice ar 0 cr] 45) = w4 at *;have p3 := HR3.out.below hb4 HR3.out.lt;have p4 := HR4.out.below hb4 HR4.out.lt;have HX4 := Lib.hid (HQ.out.below hb4);have HY4 := Lib.hid (HR.out.below hb4);have hbw : Below w.heap.size w w4 := hbf.trans (hb4.mono (by omega));have k7 := l7.lt;have k8 := l8.lt;have d0 : w4.cell? ⟨w3.heap.size, 0, none⟩ = some (.bool (decide (q < 0))) := l7.cell 0;have d1 : w4.cell? ⟨w3.heap.size, 1, none⟩ = some (.slice aq (wlen q.natAbs) cq) := l7.cell 1;have d2 : w4.cell? ⟨w3.heap.size + 1, 0, none⟩ = some (.bool (decide (r < 0))) := l8.cell 0;have d3 : w4.cell? ⟨w3.heap.size + 1, 1, none⟩ = some (.slice ar 0 cr) := l8.cell 1;have d4 := p3.cell 0;have d5 := p3.cell 1;have d6 := p4.cell 0;have d7 := p4.cell 1;have g4 := p3.free 0;have g5 := p3.free 1;have g6 := p4.free 0;have g7 := p4.free 1;have n7 : ¬ w3.heap.size = w.heap.size + 2 := by omega
   have n8 : ¬ w3.heap.size + 1 = w.heap.size + 2 := by omega
   have n7' : ¬ w3.heap.size = w.heap.size + 3 := by omega
   have n8' : ¬ w3.heap.size + 1 = w.heap.size + 3 := by omega
   have m7 : ¬ w.heap.size + 2 = w3.heap.size := by omega
   have m8 : ¬ w.heap.size + 2 = w3.heap.size + 1 := by omega
   have m7' : ¬ w.heap.size + 3 = w3.heap.size := by omega
   have m8' : ¬ w.heap.size + 3 = w3.heap.size + 1 := by omega
   have HP3 := Lib.hid p3; clear p3;have HP4 := Lib.hid p4; clear p4;clear l7 l8
   go_region
   go_wp2;have y3 := ((HP3.out.set2 (.bool (decide (q < 0))) (.slice aq (wlen q.natAbs) cq)).other (p := ⟨w.heap.size + 3, 0, none⟩) (by show w.heap.size + 2 ≠ w.heap.size + 3; omega) (.bool (decide (r < 0)))).other (p := ⟨w.heap.size + 3, 1, none⟩) (by show w.heap.size + 2 ≠ w.heap.size + 3; omega) (.slice ar 0 cr);have y4 := ((HP4.out.other (p := ⟨w.heap.size + 2, 0, none⟩) (by show w.heap.size + 3 ≠ w.heap.size + 2; omega) (.bool (decide (q < 0)))).other (p := ⟨w.heap.size + 2, 1, none⟩) (by show w.heap.size + 3 ≠ w.heap.size + 2; omega) (.slice aq (wlen q.natAbs) cq)).set2 (.bool (decide (r < 0))) (.slice ar 0 cr);refine bodyPost_ret (results_int2_tmp (p := 4) (p2 := 5) (q := 6) (by kernel_rfl) _ _ (w.heap.size + 2) (w.heap.size + 3) _ _ _ _ rfl rfl y3 y4) rfl ?_;refine ⟨⟨_, _, rfl, ?_, ?_⟩, ?_⟩
   · rw [HF.out.1];exact (((HX4.out.setOther2 (g := w.heap.size + 2) (by omega) _ _).setOther2 (g := w.heap.size + 3) (by omega) _ _).drew).mono (by omega)
   · rw [HF.out.2];exact (((HY4.out.setOther2 (g := w.heap.size + 2) (by omega) _ _).setOther2 (g := w.heap.size + 3) (by omega) _ _).drew).mono (by omega)
   · exact (below_set2 (below_set2 hbw (g := w.heap.size + 2) (by omega) _ _) (g := w.heap.size + 3) (by omega) _ _).drew
 by_cases h1 : decide (r < 0) = n2
 · have hl0 : (decide ((0 : Int) < ((wlen r.natAbs : Nat) : Int))) = true := by
    have : wlen r.natAbs ≠ 0 := fun e => h0 (Int.natAbs_eq_zero.1 (wlen_eq_zero.1 e));simp; omega
   have HF := Lib.hid (floor_same HY.out (.inr (by rw [HR0.out, h1]; exact HN2.out)));rw [HQ0.out, HR0.out] at HF;have hp : 0 < wlen r.natAbs := by simpa using hl0
   clear h0;rw [h1] at HR ⊢;clear h1;obtain ⟨l7, l8, hb4⟩ := two_new w3 #[.bool (decide (q < 0)), .slice aq (wlen q.natAbs) cq] #[.bool n2, .slice ar (wlen r.natAbs) cr] 45 45;have cc := (hb4.cell (p := ⟨w.heap.size + 1, 0, none⟩) hk1).trans c2;go_wp2_with fail
   generalize (w3.alloc (.cells #[.bool (decide (q < 0)), .slice aq (wlen q.natAbs) cq] 45)).alloc (.cells #[.bool n2, .slice ar (wlen r.natAbs) cr] 45) = w4 at *;have p3 := HR3.out.below hb4 HR3.out.lt;have p4 := HR4.out.below hb4 HR4.out.lt;have HX4 := Lib.hid (HQ.out.below hb4);have HY4 := Lib.hid (HR.out.below hb4);have hbw : Below w.heap.size w w4 := hbf.trans (hb4.mono (by omega));have k7 := l7.lt;have k8 := l8.lt;have d0 : w4.cell? ⟨w3.heap.size, 0, none⟩ = some (.bool (decide (q < 0))) := l7.cell 0;have d1 : w4.cell? ⟨w3.heap.size, 1, none⟩ = some (.slice aq (wlen q.natAbs) cq) := l7.cell 1;have d2 : w4.cell? ⟨w3.heap.size + 1, 0, none⟩ = some (.bool n2) := l8.cell 0;have d3 : w4.cell? ⟨w3.heap.size + 1, 1, none⟩ = some (.slice ar (wlen r.natAbs) cr) := l8.cell 1;have d4 := p3.cell 0;have d5 := p3.cell 1;have d6 := p4.cell 0;have d7 := p4.cell 1;have g4 := p3.free 0;have g5 := p3.free 1;have g6 := p4.free 0;have g7 := p4.free 1;have n7 : ¬ w3.heap.size = w.heap.size + 2 := by omega
   have n8 : ¬ w3.heap.size + 1 = w.heap.size + 2 := by omega
   have n7' : ¬ w3.heap.size = w.heap.size + 3 := by omega
   have n8' : ¬ w3.heap.size + 1 = w.heap.size + 3 := by omega
   have m7 : ¬ w.heap.size + 2 = w3.heap.size := by omega
   have m8 : ¬ w.heap.size + 2 = w3.heap.size + 1 := by omega
   have m7' : ¬ w.heap.size + 3 = w3.heap.size := by omega
   have m8' : ¬ w.heap.size + 3 = w3.heap.size + 1 := by omega
   have HP3 := Lib.hid p3; clear p3;have HP4 := Lib.hid p4; clear p4;clear l7 l8
   go_region
   go_wp2;have y3 := ((HP3.out.set2 (.bool (decide (q < 0))) (.slice aq (wlen q.natAbs) cq)).other (p := ⟨w.heap.size + 3, 0, none⟩) (by show w.heap.size + 2 ≠ w.heap.size + 3; omega) (.bool n2)).other (p := ⟨w.heap.size + 3, 1, none⟩) (by show w.heap.size + 2 ≠ w.heap.size + 3; omega) (.slice ar (wlen r.natAbs) cr);have y4 := ((HP4.out.other (p := ⟨w.heap.size + 2, 0, none⟩) (by show w.heap.size + 3 ≠ w.heap.size + 2; omega) (.bool (decide (q < 0)))).other (p := ⟨w.heap.size + 2, 1, none⟩) (by show w.heap.size + 3 ≠ w.heap.size + 2; omega) (.slice aq (wlen q.natAbs) cq)).set2 (.bool n2) (.slice ar (wlen r.natAbs) cr);refine bodyPost_ret (results_int2_tmp (p := 4) (p2 := 5) (q := 6) (by kernel_rfl) _ _ (w.heap.size + 2) (w.heap.size + 3) _ _ _ _ rfl rfl y3 y4) rfl ?_;refine ⟨⟨_, _, rfl, ?_, ?_⟩, ?_⟩
   · rw [HF.out.1];exact (((HX4.out.setOther2 (g := w.heap.size + 2) (by omega) _ _).setOther2 (g := w.heap.size + 3) (by omega) _ _).drew).mono (by omega)
   · rw [HF.out.2];exact (((HY4.out.setOther2 (g := w.heap.size + 2) (by omega) _ _).setOther2 (g := w.heap.size + 3) (by omega) _ _).drew).mono (by omega)
   · exact (below_set2 (below_set2 hbw (g := w.heap.size + 2) (by omega) _ _) (g := w.heap.size + 3) (by omega) _ _).drew
 · have hl0 : (decide ((0 : Int) < ((wlen r.natAbs : Nat) : Int))) = true := by
    have : wlen r.natAbs ≠ 0 := fun e => h0 (Int.natAbs_eq_zero.1 (wlen_eq_zero.1 e));simp; omega
   have HF := Lib.hid (floor_other HY.out (by rw [HR0.out]; exact h0) (by rw [HR0.out, <- HN2.out]; exact h1));rw [HQ0.out, HR0.out] at HF;have hp : 0 < wlen r.natAbs := by simpa using hl0
   clear h0;obtain ⟨rn, hrn⟩ : ∃ rn, decide (r < 0) = rn := ⟨_, rfl⟩;rw [hrn] at HR h1 ⊢;obtain rfl : n2 = !rn := by revert h1; cases rn <;> cases n2 <;> decide
   clear h1 hrn;obtain ⟨l7, l8, hb4⟩ := two_new w3 #[.bool (decide (q < 0)), .slice aq (wlen q.natAbs) cq] #[.bool rn, .slice ar (wlen r.natAbs) cr] 45 45;have cc := (hb4.cell (p := ⟨w.heap.size + 1, 0, none⟩) hk1).trans c2;go_wp2_with fail
   generalize (w3.alloc (.cells #[.bool (decide (q < 0)), .slice aq (wlen q.natAbs) cq] 45)).alloc (.cells #[.bool rn, .slice ar (wlen r.natAbs) cr] 45) = w4 at *;have p3 := HR3.out.below hb4 HR3.out.lt;have p4 := HR4.out.below hb4 HR4.out.lt;have HX4 := Lib.hid (HQ.out.below hb4);have HY4 := Lib.hid (HR.out.below hb4);have hbw : Below w.heap.size w w4 := hbf.trans (hb4.mono (by omega));have hs6 := hb4.size;have c2' : RowAt w4 (w.heap.size + 1) 45 [.bool !rn, .slice ao2 len2 cap2] := HR2.out.below hb4 HR2.out.lt;have k7 := l7.lt;have d0 : w4.cell? ⟨w3.heap.size, 0, none⟩ = some (.bool (decide (q < 0))) := l7.cell 0;have d1 : w4.cell? ⟨w3.heap.size, 1, none⟩ = some (.slice aq (wlen q.natAbs) cq) := l7.cell 1;have L7 := Lib.hid l7; clear l7;have L8 := Lib.hid l8; clear l8;have P3 := Lib.hid p3; clear p3;have P4 := Lib.hid p4; clear p4;have C2 := Lib.hid c2'; clear c2';have HBW := Lib.hid hbw; clear hbw;have HB4 := Lib.hid (HB3.out.below hb4);clear c2 c3 cc;go_region_with (first
    | (go_at_call 105; refine (IOf_c 1 _ (by decide) (by decide)).mono ?_; rintro e w5 ⟨⟨v5, rfl, h5⟩, hb5⟩; have dd0 := (hb5.cell (p := ⟨w3.heap.size, 0, none⟩) k7).trans d0; have dd1 := (hb5.cell (p := ⟨w3.heap.size, 1, none⟩) k7).trans d1)
    | (go_at_call 71; refine (ISub_c _ _ q 1 _ (IntAt.below (w := w4.drew) (OwnI.int HX4.out hlq) hb5) (OwnI.int h5 wlen_one)).mono ?_; rintro e w6 ⟨⟨v6, rfl, h6⟩, hb6⟩; have h6' := Lib.hid h6; obtain ⟨a6, c6, rfl, hO6⟩ := h6; clear hO6; have Z7 := (RowAt.below (w := w4.drew) L7.out hb5 L7.out.lt).below hb6 (Nat.lt_of_lt_of_le L7.out.lt hb5.size); have z0 := Z7.free 0; have z1 := Z7.free 1; have z2 := Z7.cell 0; have z3 := Z7.cell 1))
   all_goals (
    have X8 := ((RowAt.below (w := w4.drew) L8.out hb5 L8.out.lt).below hb6 (Nat.lt_of_lt_of_le L8.out.lt hb5.size));have X3 := ((RowAt.below (w := w4.drew) P3.out hb5 P3.out.lt).below hb6 (Nat.lt_of_lt_of_le P3.out.lt hb5.size));have X4 := ((RowAt.below (w := w4.drew) P4.out hb5 P4.out.lt).below hb6 (Nat.lt_of_lt_of_le P4.out.lt hb5.size));have XC := ((RowAt.below (w := w4.drew) C2.out hb5 C2.out.lt).below hb6 (Nat.lt_of_lt_of_le C2.out.lt hb5.size));have hs7 := hb5.size;have hs8 := hb6.size;have hs9 : w4.drew.heap.size = w4.heap.size := rfl;have I6 := Lib.hid (h6'.out.setRow2 Z7 (.bool (decide (q - 1 < 0))) (.slice a6 (wlen (q - 1).natAbs) c6));have IR := Lib.hid (((OwnI.below (w := w4.drew) HY4.out hb5).below hb6).setRow2 Z7 (.bool (decide (q - 1 < 0))) (.slice a6 (wlen (q - 1).natAbs) c6));have IB := Lib.hid (((IntAt.below (w := w4.drew) HB4.out hb5).below hb6).setRow2 (c := decide (q - 1 < 0)) Z7 (.slice a6 (wlen (q - 1).natAbs) c6));have hbw7 := Lib.hid (below_set2 ((HBW.out.drew.trans (hb5.mono (by omega))).trans (hb6.mono (by omega))) (g := w3.heap.size) (by omega) (.bool (decide (q - 1 < 0))) (.slice a6 (wlen (q - 1).natAbs) c6));have Y7 := Z7.set2 (.bool (decide (q - 1 < 0))) (.slice a6 (wlen (q - 1).natAbs) c6);have Y8 := X8.other2 (g := w3.heap.size) (by omega) (.bool (decide (q - 1 < 0))) (.slice a6 (wlen (q - 1).natAbs) c6);have Y3 := X3.other2 (g := w3.heap.size) (by omega) (.bool (decide (q - 1 < 0))) (.slice a6 (wlen (q - 1).natAbs) c6);have Y4 := X4.other2 (g := w3.heap.size) (by omega) (.bool (decide (q - 1 < 0))) (.slice a6 (wlen (q - 1).natAbs) c6);have YC := XC.other2 (g := w3.heap.size) (by omega) (.bool (decide (q - 1 < 0))) (.slice a6 (wlen (q - 1).natAbs) c6);have hs10 : w3.heap.size + 1 < ((w6.setCell ⟨w3.heap.size, 0, none⟩ (.bool (decide (q - 1 < 0)))).setCell ⟨w3.heap.size, 1, none⟩ (.slice a6 (wlen (q - 1).natAbs) c6)).heap.size := Y8.lt;clear X8 X3 X4 XC Z7 z0 z1 z2 z3 dd0 dd1 d0 d1 h6' L7 L8 P3 P4 C2 HBW HB4 HX4 HY4;generalize (w6.setCell ⟨w3.heap.size, 0, none⟩ (.bool (decide (q - 1 < 0)))).setCell ⟨w3.heap.size, 1, none⟩ (.slice a6 (wlen (q - 1).natAbs) c6) = w7 at *;have e0 : w7.cell? ⟨w3.heap.size + 1, 0, none⟩ = some (.bool rn) := Y8.cell 0;have e1 : w7.cell? ⟨w3.heap.size + 1, 1, none⟩ = some (.slice ar (wlen r.natAbs) cr) := Y8.cell 1;have e2 : w7.cell? ⟨w.heap.size + 1, 0, none⟩ = some (.bool !rn) := YC.cell 0;have e3 : w7.cell? ⟨w.heap.size + 1, 1, none⟩ = some (.slice ao2 len2 cap2) := YC.cell 1;have J7 := Lib.hid Y7; clear Y7;have J8 := Lib.hid Y8; clear Y8;have J3 := Lib.hid Y3; clear Y3;have J4 := Lib.hid Y4; clear Y4;clear YC;go_wp2_with fail
    refine (IAdd_c _ _ r y _ (OwnI.int IR.out hlr) IB.out).mono ?_;rintro e w8 ⟨⟨v8, rfl, h8⟩, hb8⟩;have h8' := Lib.hid h8;obtain ⟨a8, c8, rfl, hO8⟩ := h8;clear hO8;have hs11 := hb8.size;have Z8 := J8.out.below hb8 J8.out.lt;have Z7 := J7.out.below hb8 J7.out.lt;have Z3 := J3.out.below hb8 J3.out.lt;have Z4 := J4.out.below hb8 J4.out.lt;have f0 := Z8.free 0;have f1 := Z8.free 1;have f2 := Z8.cell 0;have f3 := Z8.cell 1;have IX := Lib.hid ((I6.out.below hb8).setRow2 Z8 (.bool (decide (r + y < 0))) (.slice a8 (wlen (r + y).natAbs) c8));have IY := Lib.hid (h8'.out.setRow2 Z8 (.bool (decide (r + y < 0))) (.slice a8 (wlen (r + y).natAbs) c8));have hbw' := Lib.hid (below_set2 (hbw7.out.trans (hb8.mono (by omega))) (g := w3.heap.size + 1) (by omega) (.bool (decide (r + y < 0))) (.slice a8 (wlen (r + y).natAbs) c8));have l8 := Lib.hid (Z8.set2 (.bool (decide (r + y < 0))) (.slice a8 (wlen (r + y).natAbs) c8));have l7 := Lib.hid (Z7.other2 (g := w3.heap.size + 1) (by omega) (.bool (decide (r + y < 0))) (.slice a8 (wlen (r + y).natAbs) c8));have p3 := Lib.hid (Z3.other2 (g := w3.heap.size + 1) (by omega) (.bool (decide (r + y < 0))) (.slice a8 (wlen (r + y).natAbs) c8));have p4 := Lib.hid (Z4.other2 (g := w3.heap.size + 1) (by omega) (.bool (decide (r + y < 0))) (.slice a8 (wlen (r + y).natAbs) c8));clear Z7 Z3 Z4 Z8 J7 J8 J3 J4 I6 IR IB hbw7 h8';go_wp2_with fail
    clear f0 f1 f2 f3;generalize (w8.setCell ⟨w3.heap.size + 1, 0, none⟩ (.bool (decide (r + y < 0)))).setCell ⟨w3.heap.size + 1, 1, none⟩ (.slice a8 (wlen (r + y).natAbs) c8) = w9 at *;have l8 := l8.out;have l7 := l7.out;have p3 := p3.out;have p4 := p4.out;have hbw := hbw'.out;have IX0 := Lib.hid (IX.out.mono (B' := w.heap.size + 4) (by omega));have IY0 := Lib.hid (IY.out.mono (B' := w.heap.size + 4) (by omega));have k7 := l7.lt;have k8 := l8.lt;have d0 : w9.cell? ⟨w3.heap.size, 0, none⟩ = some (.bool (decide (q - 1 < 0))) := l7.cell 0;have d1 : w9.cell? ⟨w3.heap.size, 1, none⟩ = some (.slice a6 (wlen (q - 1).natAbs) c6) := l7.cell 1;have d2 : w9.cell? ⟨w3.heap.size + 1, 0, none⟩ = some (.bool (decide (r + y < 0))) := l8.cell 0;have d3 : w9.cell? ⟨w3.heap.size + 1, 1, none⟩ = some (.slice a8 (wlen (r + y).natAbs) c8) := l8.cell 1;have d4 := p3.cell 0;have d5 := p3.cell 1;have d6 := p4.cell 0;have d7 := p4.cell 1;have g4 := p3.free 0;have g5 := p3.free 1;have g6 := p4.free 0;have g7 := p4.free 1;have n7 : ¬ w3.heap.size = w.heap.size + 2 := by omega
    have n8 : ¬ w3.heap.size + 1 = w.heap.size + 2 := by omega
    have n7' : ¬ w3.heap.size = w.heap.size + 3 := by omega
    have n8' : ¬ w3.heap.size + 1 = w.heap.size + 3 := by omega
    have m7 : ¬ w.heap.size + 2 = w3.heap.size := by omega
    have m8 : ¬ w.heap.size + 2 = w3.heap.size + 1 := by omega
    have m7' : ¬ w.heap.size + 3 = w3.heap.size := by omega
    have m8' : ¬ w.heap.size + 3 = w3.heap.size + 1 := by omega
    have HP3 := Lib.hid p3; clear p3;have HP4 := Lib.hid p4; clear p4;clear l7 l8
    go_region
    go_wp2;have y3 := ((HP3.out.set2 (.bool (decide (q - 1 < 0))) (.slice a6 (wlen (q - 1).natAbs) c6)).other (p := ⟨w.heap.size + 3, 0, none⟩) (by show w.heap.size + 2 ≠ w.heap.size + 3; omega) (.bool (decide (r + y < 0)))).other (p := ⟨w.heap.size + 3, 1, none⟩) (by show w.heap.size + 2 ≠ w.heap.size + 3; omega) (.slice a8 (wlen (r + y).natAbs) c8);have y4 := ((HP4.out.other (p := ⟨w.heap.size + 2, 0, none⟩) (by show w.heap.size + 3 ≠ w.heap.size + 2; omega) (.bool (decide (q - 1 < 0)))).other (p := ⟨w.heap.size + 2, 1, none⟩) (by show w.heap.size + 3 ≠ w.heap.size + 2; omega) (.slice a6 (wlen (q - 1).natAbs) c6)).set2 (.bool (decide (r + y < 0))) (.slice a8 (wlen (r + y).natAbs) c8);refine bodyPost_ret (results_int2_tmp (p := 4) (p2 := 5) (q := 6) (by kernel_rfl) _ _ (w.heap.size + 2) (w.heap.size + 3) _ _ _ _ rfl rfl y3 y4) rfl ?_;refine ⟨⟨_, _, rfl, ?_, ?_⟩, ?_⟩
    · rw [HF.out.1];exact (((IX0.out.setOther2 (g := w.heap.size + 2) (by omega) _ _).setOther2 (g := w.heap.size + 3) (by omega) _ _).drew).mono (by omega)
    · rw [HF.out.2];exact (((IY0.out.setOther2 (g := w.heap.size + 2) (by omega) _ _).setOther2 (g := w.heap.size + 3) (by omega) _ _).drew).mono (by omega)
    · exact (below_set2 (below_set2 hbw (g := w.heap.size + 2) (by omega) _ _) (g := w.heap.size + 3) (by omega) _ _).drew)
theorem euclid_same {x y : Int} (hy : y ≠ 0) (h : ¬ x.tmod y < 0) : x / y = x.tdiv y /\ x % y = x.tmod y := by
 have hx := Int.emod_nonneg x hy;have hl := Int.emod_lt x hy;rw [Int.tdiv_eq_ediv, Int.tmod_eq_emod];rw [Int.tmod_eq_emod] at h;by_cases hd : y ∣ x
 · simp [hd]
 · by_cases h0x : 0 <= x
   · simp [h0x]
   · simp only [hd, h0x, or_self, if_false] at h;omega
theorem euclid_neg {x y : Int} (hy : y ≠ 0) (h : x.tmod y < 0) : (y < 0 -> x / y = x.tdiv y + 1 /\ x % y = x.tmod y - y) /\ (¬ y < 0 -> x / y = x.tdiv y - 1 /\ x % y = x.tmod y + y) := by
 have hx := Int.emod_nonneg x hy;rw [Int.tdiv_eq_ediv, Int.tmod_eq_emod];rw [Int.tmod_eq_emod] at h;by_cases hd : y ∣ x
 · simp [hd] at h; omega
 · by_cases h0x : 0 <= x
   · simp [h0x] at h; omega
   · simp only [hd, h0x, or_self, if_false];refine ⟨fun h0 => ?_, fun h0 => ?_⟩
     · rw [Int.sign_eq_neg_one_of_neg h0]; omega
     · rw [Int.sign_eq_one_of_pos (by omega)]; omega
set_option maxRecDepth 100000 in
set_option maxHeartbeats 8000000 in
theorem IEuclid_c (v u : Value) (x y : Int) (w : World) (hA : IntAt w 17592186044415 v x) (hB : IntAt w 17592186044415 u y) (hy : y ≠ 0) :
 Calls Tryz.prog 209 #[v, u] w fun e w' => (∃ v' u', e = .returned (.tuple #[v', u', .int .i64 0]) /\ OwnI w' w.heap.size v' (x / y) /\ OwnI w' w.heap.size u' (x % y)) /\ Below w.heap.size w w' := by
 have hlx := hA.wlen;have hA' := hA;have hB' := hB;obtain ⟨n, ao, len, cap, ws, rfl, hW, hl, hL1, hc, hx⟩ := hA;obtain ⟨n2, ao2, len2, cap2, ws2, rfl, hW2, hl2, hL2, hc2, hx2⟩ := hB;have hn2 : n2 = decide (y < 0) := by rw [hx2]; exact zi_neg_iff (by rw [<- hx2]; exact hy)
 clear hW hW2 hx hx2 hl hl2 hc hc2 hL1 hL2;have HA := Lib.hid hA'; clear hA';have HB := Lib.hid hB'; clear hB';have HY := Lib.hid hy; clear hy;have HN2 := Lib.hid hn2; clear hn2;go_enter Tryz.func209, Tryz.ntmps209;go_wp2_with fail
 obtain ⟨r1, r2, r3, r4, hb⟩ := four_new w #[.bool n, .slice ao len cap] #[.bool n2, .slice ao2 len2 cap2] #[.bool false, .slice none 0 0] #[.bool false, .slice none 0 0] 45 45 45 45;generalize (((w.alloc (.cells #[.bool n, .slice ao len cap] 45)).alloc (.cells #[.bool n2, .slice ao2 len2 cap2] 45)).alloc (.cells #[.bool false, .slice none 0 0] 45)).alloc (.cells #[.bool false, .slice none 0 0] 45) = w2 at *;refine (ITrunc_c _ _ x y _ (HA.out.below hb) (HB.out.below hb) HY.out).mono ?_;rintro e w3 ⟨⟨v', u', rfl, hq, hr⟩, hb3⟩;have R2 := r2.below hb3 r2.lt;have R3 := r3.below hb3 r3.lt;have R4 := r4.below hb3 r4.lt;have hs3 : w.heap.size + 4 <= w2.heap.size := r4.lt;have hs4 := hb3.size;have hbf : Below w.heap.size w w3 := hb.trans (hb3.mono hb.size);obtain ⟨q, hq0⟩ : ∃ q, x.tdiv y = q := ⟨_, rfl⟩;obtain ⟨r, hr0⟩ : ∃ r, x.tmod y = r := ⟨_, rfl⟩;rw [hq0] at hq;rw [hr0] at hr;have hlq : wlen q.natAbs <= 17592186044415 := by rw [<- hq0, Int.natAbs_tdiv]; exact Nat.le_trans (wlen_div ..) hlx
 have hlr : wlen r.natAbs <= 17592186044415 := by rw [<- hr0, Int.natAbs_tmod]; exact Nat.le_trans (wlen_mod ..) hlx
 have hq' := hq.mono (B' := w.heap.size + 4) hs3;have hr' := hr.mono (B' := w.heap.size + 4) hs3;obtain ⟨aq, cq, rfl, hOq⟩ := hq;obtain ⟨ar, cr, rfl, hOr⟩ := hr;have hs5 : w.heap.size + 3 < w3.heap.size := R4.lt;have hk1 : w.heap.size + 1 < w3.heap.size := by omega
 have c2 : w3.cell? ⟨w.heap.size + 1, 0, none⟩ = some (.bool n2) := R2.cell 0;have HQ0 := Lib.hid hq0; clear hq0;have HR0 := Lib.hid hr0; clear hr0;by_cases h0 : r < 0
 · have HF := Lib.hid (euclid_neg HY.out (by rw [HR0.out]; exact h0));rw [HQ0.out, HR0.out] at HF;have hd : decide (r < 0) = true := by simpa using h0
   rw [hd] at hr' ⊢;clear h0 hd;cases n2
   · have B2_0 : Hid (RowAt w3 (w.heap.size + 1) 45 [.bool false, .slice ao2 len2 cap2]) := Lib.hid (R2);have P3_0 : Hid (RowAt w3 (w.heap.size + 2) 45 [.bool false, .slice none 0 0]) := Lib.hid (R3);have P4_0 : Hid (RowAt w3 (w.heap.size + 3) 45 [.bool false, .slice none 0 0]) := Lib.hid (R4);have Q_0 : Hid (OwnI w3 (w.heap.size + 4) (.agg #[.bool (decide (q < 0)), .slice aq (wlen q.natAbs) cq]) (q)) := Lib.hid (hq');have R_0 : Hid (OwnI w3 (w.heap.size + 4) (.agg #[.bool true, .slice ar (wlen r.natAbs) cr]) (r)) := Lib.hid (hr');have Y_0 : Hid (IntAt w3 (17592186044415) (.agg #[.bool false, .slice ao2 len2 cap2]) (y)) := Lib.hid ((HB.out.below hb).below hb3);have bw_0 : Hid (Below (w.heap.size) w w3) := Lib.hid (hbf);clear r1 r2 r3 r4 hOq hOr hb hb3 R2 R3 R4 hq' hr' hbf;obtain ⟨l7, l8, hb4⟩ := two_new w3 #[.bool (decide (q < 0)), .slice aq (wlen q.natAbs) cq] #[.bool true, .slice ar (wlen r.natAbs) cr] 45 45;have cc := (hb4.cell (p := ⟨w.heap.size + 1, 0, none⟩) hk1).trans c2;go_wp2_with fail
     generalize (w3.alloc (.cells #[.bool (decide (q < 0)), .slice aq (wlen q.natAbs) cq] 45)).alloc (.cells #[.bool true, .slice ar (wlen r.natAbs) cr] 45) = w4 at *;have sz_1 := (hb4).size;have B2_1 := Lib.hid (RowAt.below (w := w3) B2_0.out (hb4) B2_0.out.lt);have P3_1 := Lib.hid (RowAt.below (w := w3) P3_0.out (hb4) P3_0.out.lt);have P4_1 := Lib.hid (RowAt.below (w := w3) P4_0.out (hb4) P4_0.out.lt);have Q_1 := Lib.hid (OwnI.below (w := w3) Q_0.out (hb4));have R_1 := Lib.hid (OwnI.below (w := w3) R_0.out (hb4));have Y_1 := Lib.hid (IntAt.below (w := w3) Y_0.out (hb4));have bw_1 := Lib.hid (Below.trans bw_0.out (Below.mono (hb4) (by have := bw_0.out.size; omega)));clear B2_0 P3_0 P4_0 Q_0 R_0 Y_0 bw_0;have L7_1 : Hid (RowAt w4 (w3.heap.size) 45 [.bool (decide (q < 0)), .slice aq (wlen q.natAbs) cq]) := Lib.hid (l7);have L8_1 : Hid (RowAt w4 (w3.heap.size + 1) 45 [.bool true, .slice ar (wlen r.natAbs) cr]) := Lib.hid (l8);have k8 := l8.lt;clear l7 l8 cc c2 hb4;refine wp_region_J ⟨9, fun q_ => [35, 36, 37, 38, 39, 40, 1006, 1007, 6].getD q_ 0,
      fun q_ => [.val (.agg #[.bool (decide (q < 0)), .slice aq (wlen q.natAbs) cq]), .int (w.heap.size + 4) 1, .int (w.heap.size + 4) (q - 1), .val (.agg #[.bool true, .slice ar (wlen r.natAbs) cr]), .val (.agg #[.bool false, .slice ao2 len2 cap2]), .int (w.heap.size + 4) (r + y), .any, .any, .val (.int .i64 0)].getD q_ .any,
      [(6, w.heap.size + 2, .int (w.heap.size + 4) (q - 1)), (7, w.heap.size + 3, .int (w.heap.size + 4) (r + y))],
      [(.agg #[.bool (decide (q < 0)), .slice aq (wlen q.natAbs) cq], .int (w.heap.size + 4) q), (.agg #[.bool true, .slice ar (wlen r.natAbs) cr], .int (w.heap.size + 4) r), (.agg #[.bool false, .slice ao2 len2 cap2], .at_ 17592186044415 y)],
      [(w3.heap.size, 45, [.bool (decide (q < 0)), .slice aq (wlen q.natAbs) cq]), (w3.heap.size + 1, 45, [.bool true, .slice ar (wlen r.natAbs) cr]), (w.heap.size + 1, 45, [.bool false, .slice ao2 len2 cap2])],
      [], [], []⟩ [35, 36, 37, 38, 39, 40, 6] (w.heap.size + 2) (by kernel_rfl) (by kernel_rfl) (by kernel_rfl) (by kernel_rfl) ?_ ?_ ?_ ?_ ?_ ?_
     · intro p hp;rcases mc hp with rfl | hp
       · exact Q_1.out
       rcases mc hp with rfl | hp
       · exact R_1.out
       rcases mc hp with rfl | hp
       · exact Y_1.out
       cases hp
     · intro p hp;rcases mc hp with rfl | hp
       · refine ⟨L7_1.out, by show w3.heap.size < w4.heap.size; omega, ?_⟩;intro t ht;rcases mc ht with rfl | ht
         · show w3.heap.size ≠ w.heap.size + 2; omega
         rcases mc ht with rfl | ht
         · show w3.heap.size ≠ w.heap.size + 3; omega
         cases ht
       rcases mc hp with rfl | hp
       · refine ⟨L8_1.out, by show w3.heap.size + 1 < w4.heap.size; omega, ?_⟩;intro t ht;rcases mc ht with rfl | ht
         · show w3.heap.size + 1 ≠ w.heap.size + 2; omega
         rcases mc ht with rfl | ht
         · show w3.heap.size + 1 ≠ w.heap.size + 3; omega
         cases ht
       rcases mc hp with rfl | hp
       · refine ⟨B2_1.out, by show w.heap.size + 1 < w4.heap.size; omega, ?_⟩;intro t ht;rcases mc ht with rfl | ht
         · show w.heap.size + 1 ≠ w.heap.size + 2; omega
         rcases mc ht with rfl | ht
         · show w.heap.size + 1 ≠ w.heap.size + 3; omega
         cases ht
       cases hp
     · intro p hp;cases hp
     · intro t ht;rcases mc ht with rfl | ht
       · exact ⟨by show w.heap.size + 2 <= w.heap.size + 2; omega, by show w.heap.size + 2 < w4.heap.size; omega, _, _, _, _, P3_1.out⟩
       rcases mc ht with rfl | ht
       · exact ⟨by show w.heap.size + 2 <= w.heap.size + 3; omega, by show w.heap.size + 3 < w4.heap.size; omega, _, _, _, _, P4_1.out⟩
       cases ht
     · refine allc ?_ (allc ?_ (allc ?_ (allc ?_ (allc ?_ (allc ?_ (allc ?_ (allc ?_ (allc ?_ alln))))))));any_goals (first | (intro L fx w' hJ hL hp hcl; have _ := hp0 hp (by decide +kernel); refine wps rfl fun K hK => ?_; go_simp; exact hJ.q hK (by kernel_rfl) rfl) | fail)
       · intro L fx w' hJ hL hp hcl;refine wps rfl fun K hK => ?_;have rw0 := (hJ.rows _ mm0).1;have cl0 : w'.cell? ⟨w3.heap.size, 0, none⟩ = some (.bool (decide (q < 0))) := rw0.cell 0;have cl1 : w'.cell? ⟨w3.heap.size, 1, none⟩ = some (.slice aq (wlen q.natAbs) cq) := rw0.cell 1;go_simp;exact hJ.q hK (by kernel_rfl) rfl
       · intro L fx w' hJ hL hp hcl;refine wps rfl fun K hK => ?_;go_simp;go_at_call 105;refine (IOf_c 1 _ (by decide) (by decide)).mono ?_;rintro e w4 ⟨⟨v5, rfl, h5⟩, hb4⟩;try dsimp only
         exact hK _ _ ⟨_, by kernel_rfl, hJ.gC 1 rfl (by kernel_rfl) hb4 (OwnI.mono h5 (Nat.le_trans (by omega) hJ.size)) (by omega)⟩
       · intro L fx w' hJ hL hp hcl;have e1 := hJ.slot 1 (by show 1 < 9; decide) (hp 1 (by decide));have e0 := hJ.pt 0 35 (.agg #[.bool (decide (q < 0)), .slice aq (wlen q.natAbs) cq]) rfl rfl rfl (hp 0 (by decide));rw [e0] at hJ ⊢; clear e0;refine wps rfl fun K hK => ?_;go_simp;go_at_call 71;refine (ISub_c _ _ q 1 _ (OwnI.int (show OwnI w' _ _ q from hJ.base _ mm0) hlq) (OwnI.int (show OwnI w' _ (fx 36) 1 from e1) wlen_one)).mono ?_;rintro e w4 ⟨⟨v5, rfl, h5⟩, hb4⟩;try dsimp only
         exact hK _ _ ⟨_, by kernel_rfl, hJ.gC 2 rfl (by kernel_rfl) hb4 (OwnI.mono h5 (Nat.le_trans (by omega) hJ.size)) (by omega)⟩
       · intro L fx w' hJ hL hp hcl;refine wps rfl fun K hK => ?_;have rw0 := (hJ.rows _ mm1).1;have cl0 : w'.cell? ⟨w3.heap.size + 1, 0, none⟩ = some (.bool true) := rw0.cell 0;have cl1 : w'.cell? ⟨w3.heap.size + 1, 1, none⟩ = some (.slice ar (wlen r.natAbs) cr) := rw0.cell 1;go_simp;exact hJ.q hK (by kernel_rfl) rfl
       · intro L fx w' hJ hL hp hcl;refine wps rfl fun K hK => ?_;have rw0 := (hJ.rows _ mm2).1;have cl0 : w'.cell? ⟨w.heap.size + 1, 0, none⟩ = some (.bool false) := rw0.cell 0;have cl1 : w'.cell? ⟨w.heap.size + 1, 1, none⟩ = some (.slice ao2 len2 cap2) := rw0.cell 1;go_simp;exact hJ.q hK (by kernel_rfl) rfl
       · intro L fx w' hJ hL hp hcl;have e3 := hJ.pt 3 38 (.agg #[.bool true, .slice ar (wlen r.natAbs) cr]) rfl rfl rfl (hp 3 (by decide));rw [e3] at hJ ⊢; clear e3;have e4 := hJ.pt 4 39 (.agg #[.bool false, .slice ao2 len2 cap2]) rfl rfl rfl (hp 4 (by decide));rw [e4] at hJ ⊢; clear e4;refine wps rfl fun K hK => ?_;go_simp;go_at_call 118;refine (IAdd_c _ _ r y _ (OwnI.int (show OwnI w' _ _ r from hJ.base _ mm1) hlr) (show IntAt w' _ _ y from hJ.base _ mm2)).mono ?_;rintro e w4 ⟨⟨v5, rfl, h5⟩, hb4⟩;try dsimp only
         exact hK _ _ ⟨_, by kernel_rfl, hJ.gC 5 rfl (by kernel_rfl) hb4 (OwnI.mono h5 (Nat.le_trans (by omega) hJ.size)) (by omega)⟩
       · intro L fx w' hJ hL hp hcl;have e2 := hJ.slot 2 (by show 2 < 9; decide) (hp 2 (by decide));have hu0 : ∀ t ∈ ([(6, w.heap.size + 2, .int (w.heap.size + 4) (q - 1)), (7, w.heap.size + 3, .int (w.heap.size + 4) (r + y))] : List (Nat × Nat × AV)), t.2.1 = w.heap.size + 2 -> t = (6, w.heap.size + 2, .int (w.heap.size + 4) (q - 1)) := by
          intro t ht h;rcases mc ht with rfl | ht
          · rfl
          rcases mc ht with rfl | ht
          · exact absurd (show w.heap.size + 3 = w.heap.size + 2 from h) (by omega)
          cases ht
         have hu1 : ∀ t ∈ ([(6, w.heap.size + 2, .int (w.heap.size + 4) (q - 1)), (7, w.heap.size + 3, .int (w.heap.size + 4) (r + y))] : List (Nat × Nat × AV)), t.1 = 6 -> t = (6, w.heap.size + 2, .int (w.heap.size + 4) (q - 1)) := by
          intro t ht h;rcases mc ht with rfl | ht
          · rfl
          rcases mc ht with rfl | ht
          · exact absurd (show 7 = 6 from h) (by decide)
          cases ht
         obtain ⟨ao0, cap0, hv0, hO0⟩ := e2;rw [patchX (x := fx) (d := 37) hv0] at hJ ⊢;obtain ⟨_, _, a0, b0, l0, k0, hr0, _⟩ := hJ.tgt _ mm0;have hf0 := RowAt.free hr0 0;have hf1 := RowAt.free hr0 1;have hc0 := RowAt.cell hr0 0;have hc1 := RowAt.cell hr0 1;try dsimp only at hf0 hf1 hc0 hc1
         refine wps rfl fun K hK => ?_;go_simp;exact hK _ _ ⟨_, by kernel_rfl, hJ.store 6 (w.heap.size + 2) _ (by show 6 < 9; decide) rfl mm0 hu0 hu1 (by kernel_rfl) (by kernel_rfl) _ _ _ _ ⟨ao0, cap0, rfl, hO0⟩⟩
       · intro L fx w' hJ hL hp hcl;have e5 := hJ.slot 5 (by show 5 < 9; decide) (hp 5 (by decide));have hu0 : ∀ t ∈ ([(6, w.heap.size + 2, .int (w.heap.size + 4) (q - 1)), (7, w.heap.size + 3, .int (w.heap.size + 4) (r + y))] : List (Nat × Nat × AV)), t.2.1 = w.heap.size + 3 -> t = (7, w.heap.size + 3, .int (w.heap.size + 4) (r + y)) := by
          intro t ht h;rcases mc ht with rfl | ht
          · exact absurd (show w.heap.size + 2 = w.heap.size + 3 from h) (by omega)
          rcases mc ht with rfl | ht
          · rfl
          cases ht
         have hu1 : ∀ t ∈ ([(6, w.heap.size + 2, .int (w.heap.size + 4) (q - 1)), (7, w.heap.size + 3, .int (w.heap.size + 4) (r + y))] : List (Nat × Nat × AV)), t.1 = 7 -> t = (7, w.heap.size + 3, .int (w.heap.size + 4) (r + y)) := by
          intro t ht h;rcases mc ht with rfl | ht
          · exact absurd (show 6 = 7 from h) (by decide)
          rcases mc ht with rfl | ht
          · rfl
          cases ht
         obtain ⟨ao0, cap0, hv0, hO0⟩ := e5;rw [patchX (x := fx) (d := 40) hv0] at hJ ⊢;obtain ⟨_, _, a0, b0, l0, k0, hr0, _⟩ := hJ.tgt _ mm1;have hf0 := RowAt.free hr0 0;have hf1 := RowAt.free hr0 1;have hc0 := RowAt.cell hr0 0;have hc1 := RowAt.cell hr0 1;try dsimp only at hf0 hf1 hc0 hc1
         refine wps rfl fun K hK => ?_;go_simp;exact hK _ _ ⟨_, by kernel_rfl, hJ.store 7 (w.heap.size + 3) _ (by show 7 < 9; decide) rfl mm1 hu0 hu1 (by kernel_rfl) (by kernel_rfl) _ _ _ _ ⟨ao0, cap0, rfl, hO0⟩⟩
     · intro L x' w' hL hJ;obtain ⟨_, _, a1, b1, l1, k1, hr1, hc1⟩ := hJ.tgt _ mm0;obtain ⟨_, _, a2, b2, l2, k2, hr2, hc2⟩ := hJ.tgt _ mm1;have hI1 : OwnI w' _ (.agg #[.bool a1, .slice b1 l1 k1]) (q - 1) := hc1 (hL 6 (by show 6 < 9; decide));have hI2 : OwnI w' _ (.agg #[.bool a2, .slice b2 l2 k2]) (r + y) := hc2 (hL 7 (by show 7 < 9; decide));have e13 : x' 6 = _ := hJ.slot 8 (by show 8 < 9; decide) (hL 8 (by show 8 < 9; decide));rw [patchX (x := x') (d := 6) (v := (.int .i64 0)) e13] at hJ ⊢;have hfr := hJ.fr;clear hJ hc1 hc2 e13;simp only [pN, Nat.reduceEqDiff, ↓reduceIte];try go_wp2
       refine bodyPost_ret (results_int2_tmp (p := 4) (p2 := 5) (q := 6) (by kernel_rfl) _ _ (w.heap.size + 2) (w.heap.size + 3) _ _ _ _ rfl rfl hr1 hr2) rfl ?_;have hf := HF.out.2 (by have := HN2.out; simpa using this);rw [hf.1, hf.2];refine ⟨⟨_, _, rfl, hI1.mono (by omega), hI2.mono (by omega)⟩, ?_⟩;exact bw_1.out.trans (((Below.refl w.heap.size w4).drew).trans (hfr.mono (by omega)))
   · have B2_0 : Hid (RowAt w3 (w.heap.size + 1) 45 [.bool true, .slice ao2 len2 cap2]) := Lib.hid (R2);have P3_0 : Hid (RowAt w3 (w.heap.size + 2) 45 [.bool false, .slice none 0 0]) := Lib.hid (R3);have P4_0 : Hid (RowAt w3 (w.heap.size + 3) 45 [.bool false, .slice none 0 0]) := Lib.hid (R4);have Q_0 : Hid (OwnI w3 (w.heap.size + 4) (.agg #[.bool (decide (q < 0)), .slice aq (wlen q.natAbs) cq]) (q)) := Lib.hid (hq');have R_0 : Hid (OwnI w3 (w.heap.size + 4) (.agg #[.bool true, .slice ar (wlen r.natAbs) cr]) (r)) := Lib.hid (hr');have Y_0 : Hid (IntAt w3 (17592186044415) (.agg #[.bool true, .slice ao2 len2 cap2]) (y)) := Lib.hid ((HB.out.below hb).below hb3);have bw_0 : Hid (Below (w.heap.size) w w3) := Lib.hid (hbf);clear r1 r2 r3 r4 hOq hOr hb hb3 R2 R3 R4 hq' hr' hbf;obtain ⟨l7, l8, hb4⟩ := two_new w3 #[.bool (decide (q < 0)), .slice aq (wlen q.natAbs) cq] #[.bool true, .slice ar (wlen r.natAbs) cr] 45 45;have cc := (hb4.cell (p := ⟨w.heap.size + 1, 0, none⟩) hk1).trans c2;go_wp2_with fail
     generalize (w3.alloc (.cells #[.bool (decide (q < 0)), .slice aq (wlen q.natAbs) cq] 45)).alloc (.cells #[.bool true, .slice ar (wlen r.natAbs) cr] 45) = w4 at *;have sz_1 := (hb4).size;have B2_1 := Lib.hid (RowAt.below (w := w3) B2_0.out (hb4) B2_0.out.lt);have P3_1 := Lib.hid (RowAt.below (w := w3) P3_0.out (hb4) P3_0.out.lt);have P4_1 := Lib.hid (RowAt.below (w := w3) P4_0.out (hb4) P4_0.out.lt);have Q_1 := Lib.hid (OwnI.below (w := w3) Q_0.out (hb4));have R_1 := Lib.hid (OwnI.below (w := w3) R_0.out (hb4));have Y_1 := Lib.hid (IntAt.below (w := w3) Y_0.out (hb4));have bw_1 := Lib.hid (Below.trans bw_0.out (Below.mono (hb4) (by have := bw_0.out.size; omega)));clear B2_0 P3_0 P4_0 Q_0 R_0 Y_0 bw_0;have L7_1 : Hid (RowAt w4 (w3.heap.size) 45 [.bool (decide (q < 0)), .slice aq (wlen q.natAbs) cq]) := Lib.hid (l7);have L8_1 : Hid (RowAt w4 (w3.heap.size + 1) 45 [.bool true, .slice ar (wlen r.natAbs) cr]) := Lib.hid (l8);have k8 := l8.lt;clear l7 l8 cc c2 hb4;refine wp_region_J ⟨9, fun q_ => [29, 30, 31, 32, 33, 34, 1006, 1007, 6].getD q_ 0,
      fun q_ => [.val (.agg #[.bool (decide (q < 0)), .slice aq (wlen q.natAbs) cq]), .int (w.heap.size + 4) 1, .int (w.heap.size + 4) (q + 1), .val (.agg #[.bool true, .slice ar (wlen r.natAbs) cr]), .val (.agg #[.bool true, .slice ao2 len2 cap2]), .int (w.heap.size + 4) (r - y), .any, .any, .val (.int .i64 0)].getD q_ .any,
      [(6, w.heap.size + 2, .int (w.heap.size + 4) (q + 1)), (7, w.heap.size + 3, .int (w.heap.size + 4) (r - y))],
      [(.agg #[.bool (decide (q < 0)), .slice aq (wlen q.natAbs) cq], .int (w.heap.size + 4) q), (.agg #[.bool true, .slice ar (wlen r.natAbs) cr], .int (w.heap.size + 4) r), (.agg #[.bool true, .slice ao2 len2 cap2], .at_ 17592186044415 y)],
      [(w3.heap.size, 45, [.bool (decide (q < 0)), .slice aq (wlen q.natAbs) cq]), (w3.heap.size + 1, 45, [.bool true, .slice ar (wlen r.natAbs) cr]), (w.heap.size + 1, 45, [.bool true, .slice ao2 len2 cap2])],
      [], [], []⟩ [29, 30, 31, 32, 33, 34, 6] (w.heap.size + 2) (by kernel_rfl) (by kernel_rfl) (by kernel_rfl) (by kernel_rfl) ?_ ?_ ?_ ?_ ?_ ?_
     · intro p hp;rcases mc hp with rfl | hp
       · exact Q_1.out
       rcases mc hp with rfl | hp
       · exact R_1.out
       rcases mc hp with rfl | hp
       · exact Y_1.out
       cases hp
     · intro p hp;rcases mc hp with rfl | hp
       · refine ⟨L7_1.out, by show w3.heap.size < w4.heap.size; omega, ?_⟩;intro t ht;rcases mc ht with rfl | ht
         · show w3.heap.size ≠ w.heap.size + 2; omega
         rcases mc ht with rfl | ht
         · show w3.heap.size ≠ w.heap.size + 3; omega
         cases ht
       rcases mc hp with rfl | hp
       · refine ⟨L8_1.out, by show w3.heap.size + 1 < w4.heap.size; omega, ?_⟩;intro t ht;rcases mc ht with rfl | ht
         · show w3.heap.size + 1 ≠ w.heap.size + 2; omega
         rcases mc ht with rfl | ht
         · show w3.heap.size + 1 ≠ w.heap.size + 3; omega
         cases ht
       rcases mc hp with rfl | hp
       · refine ⟨B2_1.out, by show w.heap.size + 1 < w4.heap.size; omega, ?_⟩;intro t ht;rcases mc ht with rfl | ht
         · show w.heap.size + 1 ≠ w.heap.size + 2; omega
         rcases mc ht with rfl | ht
         · show w.heap.size + 1 ≠ w.heap.size + 3; omega
         cases ht
       cases hp
     · intro p hp;cases hp
     · intro t ht;rcases mc ht with rfl | ht
       · exact ⟨by show w.heap.size + 2 <= w.heap.size + 2; omega, by show w.heap.size + 2 < w4.heap.size; omega, _, _, _, _, P3_1.out⟩
       rcases mc ht with rfl | ht
       · exact ⟨by show w.heap.size + 2 <= w.heap.size + 3; omega, by show w.heap.size + 3 < w4.heap.size; omega, _, _, _, _, P4_1.out⟩
       cases ht
     · refine allc ?_ (allc ?_ (allc ?_ (allc ?_ (allc ?_ (allc ?_ (allc ?_ (allc ?_ (allc ?_ alln))))))));any_goals (first | (intro L fx w' hJ hL hp hcl; have _ := hp0 hp (by decide +kernel); refine wps rfl fun K hK => ?_; go_simp; exact hJ.q hK (by kernel_rfl) rfl) | fail)
       · intro L fx w' hJ hL hp hcl;refine wps rfl fun K hK => ?_;have rw0 := (hJ.rows _ mm0).1;have cl0 : w'.cell? ⟨w3.heap.size, 0, none⟩ = some (.bool (decide (q < 0))) := rw0.cell 0;have cl1 : w'.cell? ⟨w3.heap.size, 1, none⟩ = some (.slice aq (wlen q.natAbs) cq) := rw0.cell 1;go_simp;exact hJ.q hK (by kernel_rfl) rfl
       · intro L fx w' hJ hL hp hcl;refine wps rfl fun K hK => ?_;go_simp;go_at_call 105;refine (IOf_c 1 _ (by decide) (by decide)).mono ?_;rintro e w4 ⟨⟨v5, rfl, h5⟩, hb4⟩;try dsimp only
         exact hK _ _ ⟨_, by kernel_rfl, hJ.gC 1 rfl (by kernel_rfl) hb4 (OwnI.mono h5 (Nat.le_trans (by omega) hJ.size)) (by omega)⟩
       · intro L fx w' hJ hL hp hcl;have e1 := hJ.slot 1 (by show 1 < 9; decide) (hp 1 (by decide));have e0 := hJ.pt 0 29 (.agg #[.bool (decide (q < 0)), .slice aq (wlen q.natAbs) cq]) rfl rfl rfl (hp 0 (by decide));rw [e0] at hJ ⊢; clear e0;refine wps rfl fun K hK => ?_;go_simp;go_at_call 118;refine (IAdd_c _ _ q 1 _ (OwnI.int (show OwnI w' _ _ q from hJ.base _ mm0) hlq) (OwnI.int (show OwnI w' _ (fx 30) 1 from e1) wlen_one)).mono ?_;rintro e w4 ⟨⟨v5, rfl, h5⟩, hb4⟩;try dsimp only
         exact hK _ _ ⟨_, by kernel_rfl, hJ.gC 2 rfl (by kernel_rfl) hb4 (OwnI.mono h5 (Nat.le_trans (by omega) hJ.size)) (by omega)⟩
       · intro L fx w' hJ hL hp hcl;refine wps rfl fun K hK => ?_;have rw0 := (hJ.rows _ mm1).1;have cl0 : w'.cell? ⟨w3.heap.size + 1, 0, none⟩ = some (.bool true) := rw0.cell 0;have cl1 : w'.cell? ⟨w3.heap.size + 1, 1, none⟩ = some (.slice ar (wlen r.natAbs) cr) := rw0.cell 1;go_simp;exact hJ.q hK (by kernel_rfl) rfl
       · intro L fx w' hJ hL hp hcl;refine wps rfl fun K hK => ?_;have rw0 := (hJ.rows _ mm2).1;have cl0 : w'.cell? ⟨w.heap.size + 1, 0, none⟩ = some (.bool true) := rw0.cell 0;have cl1 : w'.cell? ⟨w.heap.size + 1, 1, none⟩ = some (.slice ao2 len2 cap2) := rw0.cell 1;go_simp;exact hJ.q hK (by kernel_rfl) rfl
       · intro L fx w' hJ hL hp hcl;have e3 := hJ.pt 3 32 (.agg #[.bool true, .slice ar (wlen r.natAbs) cr]) rfl rfl rfl (hp 3 (by decide));rw [e3] at hJ ⊢; clear e3;have e4 := hJ.pt 4 33 (.agg #[.bool true, .slice ao2 len2 cap2]) rfl rfl rfl (hp 4 (by decide));rw [e4] at hJ ⊢; clear e4;refine wps rfl fun K hK => ?_;go_simp;go_at_call 71;refine (ISub_c _ _ r y _ (OwnI.int (show OwnI w' _ _ r from hJ.base _ mm1) hlr) (show IntAt w' _ _ y from hJ.base _ mm2)).mono ?_;rintro e w4 ⟨⟨v5, rfl, h5⟩, hb4⟩;try dsimp only
         exact hK _ _ ⟨_, by kernel_rfl, hJ.gC 5 rfl (by kernel_rfl) hb4 (OwnI.mono h5 (Nat.le_trans (by omega) hJ.size)) (by omega)⟩
       · intro L fx w' hJ hL hp hcl;have e2 := hJ.slot 2 (by show 2 < 9; decide) (hp 2 (by decide));have hu0 : ∀ t ∈ ([(6, w.heap.size + 2, .int (w.heap.size + 4) (q + 1)), (7, w.heap.size + 3, .int (w.heap.size + 4) (r - y))] : List (Nat × Nat × AV)), t.2.1 = w.heap.size + 2 -> t = (6, w.heap.size + 2, .int (w.heap.size + 4) (q + 1)) := by
          intro t ht h;rcases mc ht with rfl | ht
          · rfl
          rcases mc ht with rfl | ht
          · exact absurd (show w.heap.size + 3 = w.heap.size + 2 from h) (by omega)
          cases ht
         have hu1 : ∀ t ∈ ([(6, w.heap.size + 2, .int (w.heap.size + 4) (q + 1)), (7, w.heap.size + 3, .int (w.heap.size + 4) (r - y))] : List (Nat × Nat × AV)), t.1 = 6 -> t = (6, w.heap.size + 2, .int (w.heap.size + 4) (q + 1)) := by
          intro t ht h;rcases mc ht with rfl | ht
          · rfl
          rcases mc ht with rfl | ht
          · exact absurd (show 7 = 6 from h) (by decide)
          cases ht
         obtain ⟨ao0, cap0, hv0, hO0⟩ := e2;rw [patchX (x := fx) (d := 31) hv0] at hJ ⊢;obtain ⟨_, _, a0, b0, l0, k0, hr0, _⟩ := hJ.tgt _ mm0;have hf0 := RowAt.free hr0 0;have hf1 := RowAt.free hr0 1;have hc0 := RowAt.cell hr0 0;have hc1 := RowAt.cell hr0 1;try dsimp only at hf0 hf1 hc0 hc1
         refine wps rfl fun K hK => ?_;go_simp;exact hK _ _ ⟨_, by kernel_rfl, hJ.store 6 (w.heap.size + 2) _ (by show 6 < 9; decide) rfl mm0 hu0 hu1 (by kernel_rfl) (by kernel_rfl) _ _ _ _ ⟨ao0, cap0, rfl, hO0⟩⟩
       · intro L fx w' hJ hL hp hcl;have e5 := hJ.slot 5 (by show 5 < 9; decide) (hp 5 (by decide));have hu0 : ∀ t ∈ ([(6, w.heap.size + 2, .int (w.heap.size + 4) (q + 1)), (7, w.heap.size + 3, .int (w.heap.size + 4) (r - y))] : List (Nat × Nat × AV)), t.2.1 = w.heap.size + 3 -> t = (7, w.heap.size + 3, .int (w.heap.size + 4) (r - y)) := by
          intro t ht h;rcases mc ht with rfl | ht
          · exact absurd (show w.heap.size + 2 = w.heap.size + 3 from h) (by omega)
          rcases mc ht with rfl | ht
          · rfl
          cases ht
         have hu1 : ∀ t ∈ ([(6, w.heap.size + 2, .int (w.heap.size + 4) (q + 1)), (7, w.heap.size + 3, .int (w.heap.size + 4) (r - y))] : List (Nat × Nat × AV)), t.1 = 7 -> t = (7, w.heap.size + 3, .int (w.heap.size + 4) (r - y)) := by
          intro t ht h;rcases mc ht with rfl | ht
          · exact absurd (show 6 = 7 from h) (by decide)
          rcases mc ht with rfl | ht
          · rfl
          cases ht
         obtain ⟨ao0, cap0, hv0, hO0⟩ := e5;rw [patchX (x := fx) (d := 34) hv0] at hJ ⊢;obtain ⟨_, _, a0, b0, l0, k0, hr0, _⟩ := hJ.tgt _ mm1;have hf0 := RowAt.free hr0 0;have hf1 := RowAt.free hr0 1;have hc0 := RowAt.cell hr0 0;have hc1 := RowAt.cell hr0 1;try dsimp only at hf0 hf1 hc0 hc1
         refine wps rfl fun K hK => ?_;go_simp;exact hK _ _ ⟨_, by kernel_rfl, hJ.store 7 (w.heap.size + 3) _ (by show 7 < 9; decide) rfl mm1 hu0 hu1 (by kernel_rfl) (by kernel_rfl) _ _ _ _ ⟨ao0, cap0, rfl, hO0⟩⟩
     · intro L x' w' hL hJ;obtain ⟨_, _, a1, b1, l1, k1, hr1, hc1⟩ := hJ.tgt _ mm0;obtain ⟨_, _, a2, b2, l2, k2, hr2, hc2⟩ := hJ.tgt _ mm1;have hI1 : OwnI w' _ (.agg #[.bool a1, .slice b1 l1 k1]) (q + 1) := hc1 (hL 6 (by show 6 < 9; decide));have hI2 : OwnI w' _ (.agg #[.bool a2, .slice b2 l2 k2]) (r - y) := hc2 (hL 7 (by show 7 < 9; decide));have e13 : x' 6 = _ := hJ.slot 8 (by show 8 < 9; decide) (hL 8 (by show 8 < 9; decide));rw [patchX (x := x') (d := 6) (v := (.int .i64 0)) e13] at hJ ⊢;have hfr := hJ.fr;clear hJ hc1 hc2 e13;simp only [pN, Nat.reduceEqDiff, ↓reduceIte];try go_wp2
       refine bodyPost_ret (results_int2_tmp (p := 4) (p2 := 5) (q := 6) (by kernel_rfl) _ _ (w.heap.size + 2) (w.heap.size + 3) _ _ _ _ rfl rfl hr1 hr2) rfl ?_;have hf := HF.out.1 (by have := HN2.out; simpa using this);rw [hf.1, hf.2];refine ⟨⟨_, _, rfl, hI1.mono (by omega), hI2.mono (by omega)⟩, ?_⟩;exact bw_1.out.trans (((Below.refl w.heap.size w4).drew).trans (hfr.mono (by omega)))
 · have HF := Lib.hid (euclid_same HY.out (by rw [HR0.out]; exact h0));rw [HQ0.out, HR0.out] at HF;have hd : decide (r < 0) = false := by simpa using h0
   rw [hd] at hr' ⊢;clear h0 hd;have B2_0 : Hid (RowAt w3 (w.heap.size + 1) 45 [.bool n2, .slice ao2 len2 cap2]) := Lib.hid (R2);have P3_0 : Hid (RowAt w3 (w.heap.size + 2) 45 [.bool false, .slice none 0 0]) := Lib.hid (R3);have P4_0 : Hid (RowAt w3 (w.heap.size + 3) 45 [.bool false, .slice none 0 0]) := Lib.hid (R4);have Q_0 : Hid (OwnI w3 (w.heap.size + 4) (.agg #[.bool (decide (q < 0)), .slice aq (wlen q.natAbs) cq]) (q)) := Lib.hid (hq');have R_0 : Hid (OwnI w3 (w.heap.size + 4) (.agg #[.bool false, .slice ar (wlen r.natAbs) cr]) (r)) := Lib.hid (hr');have Y_0 : Hid (IntAt w3 (17592186044415) (.agg #[.bool n2, .slice ao2 len2 cap2]) (y)) := Lib.hid ((HB.out.below hb).below hb3);have bw_0 : Hid (Below (w.heap.size) w w3) := Lib.hid (hbf);clear r1 r2 r3 r4 hOq hOr hb hb3 R2 R3 R4 hq' hr' hbf;obtain ⟨l7, l8, hb4⟩ := two_new w3 #[.bool (decide (q < 0)), .slice aq (wlen q.natAbs) cq] #[.bool false, .slice ar (wlen r.natAbs) cr] 45 45;have cc := (hb4.cell (p := ⟨w.heap.size + 1, 0, none⟩) hk1).trans c2;go_wp2_with fail
   generalize (w3.alloc (.cells #[.bool (decide (q < 0)), .slice aq (wlen q.natAbs) cq] 45)).alloc (.cells #[.bool false, .slice ar (wlen r.natAbs) cr] 45) = w4 at *;have sz_1 := (hb4).size;have B2_1 := Lib.hid (RowAt.below (w := w3) B2_0.out (hb4) B2_0.out.lt);have P3_1 := Lib.hid (RowAt.below (w := w3) P3_0.out (hb4) P3_0.out.lt);have P4_1 := Lib.hid (RowAt.below (w := w3) P4_0.out (hb4) P4_0.out.lt);have Q_1 := Lib.hid (OwnI.below (w := w3) Q_0.out (hb4));have R_1 := Lib.hid (OwnI.below (w := w3) R_0.out (hb4));have Y_1 := Lib.hid (IntAt.below (w := w3) Y_0.out (hb4));have bw_1 := Lib.hid (Below.trans bw_0.out (Below.mono (hb4) (by have := bw_0.out.size; omega)));clear B2_0 P3_0 P4_0 Q_0 R_0 Y_0 bw_0;have L7_1 : Hid (RowAt w4 (w3.heap.size) 45 [.bool (decide (q < 0)), .slice aq (wlen q.natAbs) cq]) := Lib.hid (l7);have L8_1 : Hid (RowAt w4 (w3.heap.size + 1) 45 [.bool false, .slice ar (wlen r.natAbs) cr]) := Lib.hid (l8);have k8 := l8.lt;clear l7 l8 cc c2 hb4;have d0 : w4.cell? ⟨w3.heap.size, 0, none⟩ = some (.bool (decide (q < 0))) := L7_1.out.cell 0;have d1 : w4.cell? ⟨w3.heap.size, 1, none⟩ = some (.slice aq (wlen q.natAbs) cq) := L7_1.out.cell 1;have d10 : w4.cell? ⟨w3.heap.size + 1, 0, none⟩ = some (.bool false) := L8_1.out.cell 0;have d11 : w4.cell? ⟨w3.heap.size + 1, 1, none⟩ = some (.slice ar (wlen r.natAbs) cr) := L8_1.out.cell 1;have d20 : w4.cell? ⟨w.heap.size + 2, 0, none⟩ = some (.bool false) := P3_1.out.cell 0;have d21 : w4.cell? ⟨w.heap.size + 2, 1, none⟩ = some (.slice none 0 0) := P3_1.out.cell 1;have d30 : w4.cell? ⟨w.heap.size + 3, 0, none⟩ = some (.bool false) := P4_1.out.cell 0;have d31 : w4.cell? ⟨w.heap.size + 3, 1, none⟩ = some (.slice none 0 0) := P4_1.out.cell 1;have g20 : w4.frozen? ⟨w.heap.size + 2, 0, none⟩ = false := P3_1.out.free 0;have g21 : w4.frozen? ⟨w.heap.size + 2, 1, none⟩ = false := P3_1.out.free 1;have g30 : w4.frozen? ⟨w.heap.size + 3, 0, none⟩ = false := P4_1.out.free 0;have g31 : w4.frozen? ⟨w.heap.size + 3, 1, none⟩ = false := P4_1.out.free 1;have : ¬ w3.heap.size = w.heap.size + 2 := by omega
   have : ¬ w.heap.size + 2 = w3.heap.size := by omega
   have : ¬ w3.heap.size + 1 = w.heap.size + 2 := by omega
   have : ¬ w.heap.size + 2 = w3.heap.size + 1 := by omega
   have : ¬ w3.heap.size = w.heap.size + 3 := by omega
   have : ¬ w.heap.size + 3 = w3.heap.size := by omega
   have : ¬ w3.heap.size + 1 = w.heap.size + 3 := by omega
   have : ¬ w.heap.size + 3 = w3.heap.size + 1 := by omega
   go_region
   go_wp2;obtain ⟨q_1, hq_1⟩ : ∃ wq_, ((w4.setCell ⟨w.heap.size + 2, 0, none⟩ (.bool (decide (q < 0)))).setCell ⟨w.heap.size + 2, 1, none⟩ (.slice aq (wlen q.natAbs) cq)) = wq_ := ⟨_, rfl⟩;have B2_2 : Hid (RowAt q_1 (w.heap.size + 1) 45 [.bool n2, .slice ao2 len2 cap2]) := Lib.hid (by rw [<- hq_1]; exact RowAt.setAll_other (w := w4) (g := w.heap.size + 2) (by omega) [.bool (decide (q < 0)), .slice aq (wlen q.natAbs) cq] 0 B2_1.out);have P3_2 : Hid (RowAt q_1 (w.heap.size + 2) 45 [.bool (decide (q < 0)), .slice aq (wlen q.natAbs) cq]) := Lib.hid (by rw [<- hq_1]; exact RowAt.setAll (w := w4) [.bool (decide (q < 0)), .slice aq (wlen q.natAbs) cq] 0 P3_1.out rfl);have P4_2 : Hid (RowAt q_1 (w.heap.size + 3) 45 [.bool false, .slice none 0 0]) := Lib.hid (by rw [<- hq_1]; exact RowAt.setAll_other (w := w4) (g := w.heap.size + 2) (by omega) [.bool (decide (q < 0)), .slice aq (wlen q.natAbs) cq] 0 P4_1.out);have L7_2 : Hid (RowAt q_1 (w3.heap.size) 45 [.bool (decide (q < 0)), .slice aq (wlen q.natAbs) cq]) := Lib.hid (by rw [<- hq_1]; exact RowAt.setAll_other (w := w4) (g := w.heap.size + 2) (by omega) [.bool (decide (q < 0)), .slice aq (wlen q.natAbs) cq] 0 L7_1.out);have L8_2 : Hid (RowAt q_1 (w3.heap.size + 1) 45 [.bool false, .slice ar (wlen r.natAbs) cr]) := Lib.hid (by rw [<- hq_1]; exact RowAt.setAll_other (w := w4) (g := w.heap.size + 2) (by omega) [.bool (decide (q < 0)), .slice aq (wlen q.natAbs) cq] 0 L8_1.out);have Q_2 : Hid (OwnI q_1 (w.heap.size + 4) (.agg #[.bool (decide (q < 0)), .slice aq (wlen q.natAbs) cq]) (q)) := Lib.hid (by rw [<- hq_1]; exact AV.setAll (AV.int (w.heap.size + 4) (q)) (by decide) [.bool (decide (q < 0)), .slice aq (wlen q.natAbs) cq] 0 (w := w4) Q_1.out P3_1.out (NoW.bool (NoW.slice NoW.nil)) (NoW.bool (NoW.slice NoW.nil)));have R_2 : Hid (OwnI q_1 (w.heap.size + 4) (.agg #[.bool false, .slice ar (wlen r.natAbs) cr]) (r)) := Lib.hid (by rw [<- hq_1]; exact AV.setAll (AV.int (w.heap.size + 4) (r)) (by decide) [.bool (decide (q < 0)), .slice aq (wlen q.natAbs) cq] 0 (w := w4) R_1.out P3_1.out (NoW.bool (NoW.slice NoW.nil)) (NoW.bool (NoW.slice NoW.nil)));have Y_2 : Hid (IntAt q_1 (17592186044415) (.agg #[.bool n2, .slice ao2 len2 cap2]) (y)) := Lib.hid (by rw [<- hq_1]; exact AV.setAll (AV.at_ (17592186044415) (y)) (by decide) [.bool (decide (q < 0)), .slice aq (wlen q.natAbs) cq] 0 (w := w4) Y_1.out P3_1.out (NoW.bool (NoW.slice NoW.nil)) (NoW.bool (NoW.slice NoW.nil)));have bw_2 : Hid (Below (w.heap.size) w q_1) := Lib.hid (by rw [<- hq_1]; exact below_setAll (g := w.heap.size + 2) (by omega) [.bool (decide (q < 0)), .slice aq (wlen q.natAbs) cq] 0 bw_1.out);have sz_2 : q_1.heap.size = w4.heap.size := by rw [<- hq_1]; simp
   clear B2_1 P3_1 P4_1 L7_1 L8_1 Q_1 R_1 Y_1 bw_1;obtain ⟨q_2, hq_2⟩ : ∃ wq_, ((q_1.setCell ⟨w.heap.size + 3, 0, none⟩ (.bool false)).setCell ⟨w.heap.size + 3, 1, none⟩ (.slice ar (wlen r.natAbs) cr)) = wq_ := ⟨_, rfl⟩;have B2_3 : Hid (RowAt q_2 (w.heap.size + 1) 45 [.bool n2, .slice ao2 len2 cap2]) := Lib.hid (by rw [<- hq_2]; exact RowAt.setAll_other (w := q_1) (g := w.heap.size + 3) (by omega) [.bool false, .slice ar (wlen r.natAbs) cr] 0 B2_2.out);have P3_3 : Hid (RowAt q_2 (w.heap.size + 2) 45 [.bool (decide (q < 0)), .slice aq (wlen q.natAbs) cq]) := Lib.hid (by rw [<- hq_2]; exact RowAt.setAll_other (w := q_1) (g := w.heap.size + 3) (by omega) [.bool false, .slice ar (wlen r.natAbs) cr] 0 P3_2.out);have P4_3 : Hid (RowAt q_2 (w.heap.size + 3) 45 [.bool false, .slice ar (wlen r.natAbs) cr]) := Lib.hid (by rw [<- hq_2]; exact RowAt.setAll (w := q_1) [.bool false, .slice ar (wlen r.natAbs) cr] 0 P4_2.out rfl);have L7_3 : Hid (RowAt q_2 (w3.heap.size) 45 [.bool (decide (q < 0)), .slice aq (wlen q.natAbs) cq]) := Lib.hid (by rw [<- hq_2]; exact RowAt.setAll_other (w := q_1) (g := w.heap.size + 3) (by omega) [.bool false, .slice ar (wlen r.natAbs) cr] 0 L7_2.out);have L8_3 : Hid (RowAt q_2 (w3.heap.size + 1) 45 [.bool false, .slice ar (wlen r.natAbs) cr]) := Lib.hid (by rw [<- hq_2]; exact RowAt.setAll_other (w := q_1) (g := w.heap.size + 3) (by omega) [.bool false, .slice ar (wlen r.natAbs) cr] 0 L8_2.out);have Q_3 : Hid (OwnI q_2 (w.heap.size + 4) (.agg #[.bool (decide (q < 0)), .slice aq (wlen q.natAbs) cq]) (q)) := Lib.hid (by rw [<- hq_2]; exact AV.setAll (AV.int (w.heap.size + 4) (q)) (by decide) [.bool false, .slice ar (wlen r.natAbs) cr] 0 (w := q_1) Q_2.out P4_2.out (NoW.bool (NoW.slice NoW.nil)) (NoW.bool (NoW.slice NoW.nil)));have R_3 : Hid (OwnI q_2 (w.heap.size + 4) (.agg #[.bool false, .slice ar (wlen r.natAbs) cr]) (r)) := Lib.hid (by rw [<- hq_2]; exact AV.setAll (AV.int (w.heap.size + 4) (r)) (by decide) [.bool false, .slice ar (wlen r.natAbs) cr] 0 (w := q_1) R_2.out P4_2.out (NoW.bool (NoW.slice NoW.nil)) (NoW.bool (NoW.slice NoW.nil)));have Y_3 : Hid (IntAt q_2 (17592186044415) (.agg #[.bool n2, .slice ao2 len2 cap2]) (y)) := Lib.hid (by rw [<- hq_2]; exact AV.setAll (AV.at_ (17592186044415) (y)) (by decide) [.bool false, .slice ar (wlen r.natAbs) cr] 0 (w := q_1) Y_2.out P4_2.out (NoW.bool (NoW.slice NoW.nil)) (NoW.bool (NoW.slice NoW.nil)));have bw_3 : Hid (Below (w.heap.size) w q_2) := Lib.hid (by rw [<- hq_2]; exact below_setAll (g := w.heap.size + 3) (by omega) [.bool false, .slice ar (wlen r.natAbs) cr] 0 bw_2.out);have sz_3 : q_2.heap.size = q_1.heap.size := by rw [<- hq_2]; simp
   clear B2_2 P3_2 P4_2 L7_2 L8_2 Q_2 R_2 Y_2 bw_2;subst hq_2;subst hq_1;refine bodyPost_ret (results_int2_tmp (p := 4) (p2 := 5) (q := 6) (by kernel_rfl) _ _ (w.heap.size + 2) (w.heap.size + 3) _ _ _ _ rfl rfl P3_3.out P4_3.out) rfl ?_;refine ⟨⟨_, _, rfl, ?_, ?_⟩, ?_⟩
   · rw [HF.out.1];exact (OwnI.drew Q_3.out).mono (by omega)
   · rw [HF.out.2];exact (OwnI.drew R_3.out).mono (by omega)
   · exact Below.drew bw_3.out
set_option maxRecDepth 100000 in
set_option maxHeartbeats 8000000 in
theorem IMod_c (v u : Value) (x y : Int) (w : World) (hA : IntAt w 17592186044415 v x) (hB : IntAt w 17592186044415 u y) (hy : y ≠ 0) :
 Calls Tryz.prog 194 #[v, u] w fun e w' => (∃ u', e = .returned (.tuple #[u', .int .i64 0]) /\ OwnI w' w.heap.size u' (x % y)) /\ Below w.heap.size w w' := by
 have hA' := hA;have hB' := hB;obtain ⟨n, ao, len, cap, ws, rfl, hW, hl, hL1, hc, hx⟩ := hA;obtain ⟨n2, ao2, len2, cap2, ws2, rfl, hW2, hl2, hL2, hc2, hx2⟩ := hB;clear hW hW2 hx hx2 hl hl2 hc hc2 hL1 hL2;have HA := Lib.hid hA'; clear hA';have HB := Lib.hid hB'; clear hB';have HY := Lib.hid hy; clear hy;go_enter Tryz.func194, Tryz.ntmps194;go_wp2_with fail
 obtain ⟨r1, r2, r3, hb⟩ := three_new w #[.bool n, .slice ao len cap] #[.bool n2, .slice ao2 len2 cap2] #[.bool false, .slice none 0 0] 45 45 45;generalize ((w.alloc (.cells #[.bool n, .slice ao len cap] 45)).alloc (.cells #[.bool n2, .slice ao2 len2 cap2] 45)).alloc (.cells #[.bool false, .slice none 0 0] 45) = w2 at *;refine (IEuclid_c _ _ x y _ (HA.out.below hb) (HB.out.below hb) HY.out).mono ?_;rintro e w3 ⟨⟨v', u', rfl, hq, hr⟩, hb3⟩;have R3 := r3.below hb3 r3.lt;have hs3 : w.heap.size + 3 <= w2.heap.size := r3.lt;have hs4 := hb3.size;have hs5 : w.heap.size + 2 < w3.heap.size := R3.lt;have hbf : Below w.heap.size w w3 := hb.trans (hb3.mono hb.size);generalize x / y = q at *;obtain ⟨r, hr0⟩ : ∃ r, x % y = r := ⟨_, rfl⟩;rw [hr0] at hr;have hr' := hr.mono (B' := w.heap.size + 3) hs3;obtain ⟨aq, cq, rfl, hOq⟩ := hq;obtain ⟨ar, cr, rfl, hOr⟩ := hr;have HR0 := Lib.hid hr0; clear hr0;clear HA HB HY;have P_0 : Hid (RowAt w3 (w.heap.size + 2) 45 [.bool false, .slice none 0 0]) := Lib.hid (R3);have R_0 : Hid (OwnI w3 (w.heap.size + 3) (.agg #[.bool (decide (r < 0)), .slice ar (wlen r.natAbs) cr]) (r)) := Lib.hid (hr');have bw_0 : Hid (Below (w.heap.size) w w3) := Lib.hid (hbf);clear r1 r2 r3 hOq hOr hb hb3 R3 hr' hbf;obtain ⟨l7, l8, hb4⟩ := two_new w3 #[.bool (decide (q < 0)), .slice aq (wlen q.natAbs) cq] #[.bool (decide (r < 0)), .slice ar (wlen r.natAbs) cr] 45 45;have cc0 := l8.cell 0;have cc1 := l8.cell 1;have sz_1 := (hb4).size;have P_1 := Lib.hid (RowAt.below (w := w3) P_0.out (hb4) P_0.out.lt);have R_1 := Lib.hid (OwnI.below (w := w3) R_0.out (hb4));have bw_1 := Lib.hid (Below.trans bw_0.out (Below.mono (hb4) (by have := bw_0.out.size; omega)));clear P_0 R_0 bw_0;have d0 : ((w3.alloc (.cells #[.bool (decide (q < 0)), .slice aq (wlen q.natAbs) cq] 45)).alloc (.cells #[.bool (decide (r < 0)), .slice ar (wlen r.natAbs) cr] 45)).cell? ⟨w.heap.size + 2, 0, none⟩ = some (.bool false) := P_1.out.cell 0;have d1 : ((w3.alloc (.cells #[.bool (decide (q < 0)), .slice aq (wlen q.natAbs) cq] 45)).alloc (.cells #[.bool (decide (r < 0)), .slice ar (wlen r.natAbs) cr] 45)).cell? ⟨w.heap.size + 2, 1, none⟩ = some (.slice none 0 0) := P_1.out.cell 1;have g0 : ((w3.alloc (.cells #[.bool (decide (q < 0)), .slice aq (wlen q.natAbs) cq] 45)).alloc (.cells #[.bool (decide (r < 0)), .slice ar (wlen r.natAbs) cr] 45)).frozen? ⟨w.heap.size + 2, 0, none⟩ = false := P_1.out.free 0;have g1 : ((w3.alloc (.cells #[.bool (decide (q < 0)), .slice aq (wlen q.natAbs) cq] 45)).alloc (.cells #[.bool (decide (r < 0)), .slice ar (wlen r.natAbs) cr] 45)).frozen? ⟨w.heap.size + 2, 1, none⟩ = false := P_1.out.free 1;go_wp2;obtain ⟨q_1, hq_1⟩ : ∃ wq_, ((((w3.alloc (.cells #[.bool (decide (q < 0)), .slice aq (wlen q.natAbs) cq] 45)).alloc (.cells #[.bool (decide (r < 0)), .slice ar (wlen r.natAbs) cr] 45)).setCell ⟨w.heap.size + 2, 0, none⟩ (.bool (decide (r < 0)))).setCell ⟨w.heap.size + 2, 1, none⟩ (.slice ar (wlen r.natAbs) cr)) = wq_ := ⟨_, rfl⟩;have P_2 : Hid (RowAt q_1 (w.heap.size + 2) 45 [.bool (decide (r < 0)), .slice ar (wlen r.natAbs) cr]) := Lib.hid (by rw [<- hq_1]; exact RowAt.setAll (w := ((w3.alloc (.cells #[.bool (decide (q < 0)), .slice aq (wlen q.natAbs) cq] 45)).alloc (.cells #[.bool (decide (r < 0)), .slice ar (wlen r.natAbs) cr] 45))) [.bool (decide (r < 0)), .slice ar (wlen r.natAbs) cr] 0 P_1.out rfl);have R_2 : Hid (OwnI q_1 (w.heap.size + 3) (.agg #[.bool (decide (r < 0)), .slice ar (wlen r.natAbs) cr]) (r)) := Lib.hid (by rw [<- hq_1]; exact AV.setAll (AV.int (w.heap.size + 3) (r)) (by decide) [.bool (decide (r < 0)), .slice ar (wlen r.natAbs) cr] 0 (w := ((w3.alloc (.cells #[.bool (decide (q < 0)), .slice aq (wlen q.natAbs) cq] 45)).alloc (.cells #[.bool (decide (r < 0)), .slice ar (wlen r.natAbs) cr] 45))) R_1.out P_1.out (NoW.bool (NoW.slice NoW.nil)) (NoW.bool (NoW.slice NoW.nil)));have bw_2 : Hid (Below (w.heap.size) w q_1) := Lib.hid (by rw [<- hq_1]; exact below_setAll (g := w.heap.size + 2) (by omega) [.bool (decide (r < 0)), .slice ar (wlen r.natAbs) cr] 0 bw_1.out);have sz_2 : q_1.heap.size = ((w3.alloc (.cells #[.bool (decide (q < 0)), .slice aq (wlen q.natAbs) cq] 45)).alloc (.cells #[.bool (decide (r < 0)), .slice ar (wlen r.natAbs) cr] 45)).heap.size := by rw [<- hq_1]; simp
 clear P_1 R_1 bw_1;subst hq_1;refine bodyPost_ret (results_int_tmp (p := 4) (q := 5) (by kernel_rfl) _ _ (w.heap.size + 2) _ _ rfl P_2.out) rfl ?_;rw [HR0.out];exact ⟨⟨_, rfl, R_2.out.mono (by omega)⟩, bw_2.out⟩
def zcmp (x y : Int) : Int := if x < y then -1 else if x = y then 0 else 1
theorem zsign_cases (x : Int) : zsign x = -1 ∨ zsign x = 0 ∨ zsign x = 1 := by
 unfold zsign; split
 · exact .inl rfl
 · split
   · exact .inr (.inl rfl)
   · exact .inr (.inr rfl)
theorem ncmp_cases (a b : Nat) : ncmp a b = -1 ∨ ncmp a b = 0 ∨ ncmp a b = 1 := by
 unfold ncmp; split
 · exact .inl rfl
 · split
   · exact .inr (.inr rfl)
   · exact .inr (.inl rfl)
theorem zcmp_lt {x y : Int} (h : zsign x < zsign y) : zcmp x y = -1 := by
 unfold zsign at h; unfold zcmp; (repeat' split at h) <;> (repeat' split) <;> omega
theorem zcmp_gt {x y : Int} (h : ¬ zsign x < zsign y) (h2 : ¬ zsign x = zsign y) : zcmp x y = 1 := by
 unfold zsign at h h2; unfold zcmp; (repeat' split at h) <;> (repeat' split at h2) <;> (repeat' split) <;> omega
theorem zcmp_eq {x y : Int} (h : zsign x = zsign y) : zcmp x y = zsign x * ncmp x.natAbs y.natAbs := by
 unfold zsign at *; unfold zcmp ncmp; (repeat' split at h) <;> (repeat' split) <;> omega
theorem wrap_small {a : Int} (h1 : -9223372036854775808 <= a) (h2 : a <= 9223372036854775807) : IntKind.i64.wrap a = a := IntWalk.i64_in _ (by omega)
set_option maxRecDepth 100000 in
set_option maxHeartbeats 8000000 in
theorem ICmp_c (v u : Value) (x y : Int) (w : World) (hA : IntAt w 17592186044415 v x) (hB : IntAt w 17592186044415 u y) :
 Calls Tryz.prog 48 #[v, u] w fun e w' => e = .returned (.int .i64 (zcmp x y)) /\ Below w.heap.size w w' := by
 have hA' := hA;have hB' := hB;obtain ⟨n, ao, len, cap, ws, rfl, hW, hl, hL1, hc, hx⟩ := hA;obtain ⟨n2, ao2, len2, cap2, ws2, rfl, hW2, hl2, hL2, hc2, hx2⟩ := hB;have ex : x.natAbs = nval ws := by rw [hx, zi_abs]
 have ey : y.natAbs = nval ws2 := by rw [hx2, zi_abs]
 have EX := Lib.hid ex; clear ex;have EY := Lib.hid ey; clear ey;have Hl := Lib.hid hl; clear hl;have Hl2 := Lib.hid hl2; clear hl2;have HW := Lib.hid hW; clear hW;have HW2 := Lib.hid hW2; clear hW2;clear hx hx2 hc hc2;have HA := Lib.hid hA'; clear hA';have HB := Lib.hid hB'; clear hB';go_enter Tryz.func48, Tryz.ntmps48;go_wp2;obtain ⟨r1, r2, hb⟩ := two_new w #[.bool n, .slice ao len cap] #[.bool n2, .slice ao2 len2 cap2] 45 45;generalize (w.alloc (.cells #[.bool n, .slice ao len cap] 45)).alloc (.cells #[.bool n2, .slice ao2 len2 cap2] 45) = w2 at *;have A_0 : Hid (RowAt w2 (w.heap.size) 45 [.bool n, .slice ao len cap]) := Lib.hid (r1);have B_0 : Hid (RowAt w2 (w.heap.size + 1) 45 [.bool n2, .slice ao2 len2 cap2]) := Lib.hid (r2);have X_0 : Hid (IntAt w2 (17592186044415) (.agg #[.bool n, .slice ao len cap]) (x)) := Lib.hid (HA.out.below hb);have Y_0 : Hid (IntAt w2 (17592186044415) (.agg #[.bool n2, .slice ao2 len2 cap2]) (y)) := Lib.hid (HB.out.below hb);have bw_0 : Hid (Below (w.heap.size) w w2) := Lib.hid (hb);have hs2 : w.heap.size + 1 < w2.heap.size := r2.lt;clear r1 r2 hb;refine wp_region_J ⟨6, fun q_ => [7, 8, 9, 10, 5, 6].getD q_ 0,
  fun q_ => [.val (.agg #[.bool n, .slice ao len cap]), .val (.int .i64 (zsign x)), .val (.agg #[.bool n2, .slice ao2 len2 cap2]), .val (.int .i64 (zsign y)), .val (.int .i64 (zsign x)), .val (.int .i64 (zsign y))].getD q_ .any,
  [],
  [(.agg #[.bool n, .slice ao len cap], .at_ 17592186044415 x), (.agg #[.bool n2, .slice ao2 len2 cap2], .at_ 17592186044415 y)],
  [(w.heap.size, 45, [.bool n, .slice ao len cap]), (w.heap.size + 1, 45, [.bool n2, .slice ao2 len2 cap2])],
  [], [], []⟩ [7, 8, 9, 10, 5, 6] (w.heap.size + 2) (by kernel_rfl) (by kernel_rfl) (by kernel_rfl) (by kernel_rfl) ?_ ?_ ?_ ?_ ?_ ?_
 · intro p hp;rcases mc hp with rfl | hp
   · exact X_0.out
   rcases mc hp with rfl | hp
   · exact Y_0.out
   cases hp
 · intro p hp;rcases mc hp with rfl | hp
   · refine ⟨A_0.out, by show w.heap.size < w2.heap.size; omega, ?_⟩;intro t ht;cases ht
   rcases mc hp with rfl | hp
   · refine ⟨B_0.out, by show w.heap.size + 1 < w2.heap.size; omega, ?_⟩;intro t ht;cases ht
   cases hp
 · intro p hp;cases hp
 · intro t ht;cases ht
 · refine allc ?_ (allc ?_ (allc ?_ (allc ?_ (allc ?_ (allc ?_ alln)))))
   · intro L fx w' hJ hL hp hcl;refine wps rfl fun K hK => ?_;have rw0 := (hJ.rows _ mm0).1;have cl0 : w'.cell? ⟨w.heap.size, 0, none⟩ = some (.bool n) := rw0.cell 0;have cl1 : w'.cell? ⟨w.heap.size, 1, none⟩ = some (.slice ao len cap) := rw0.cell 1;go_simp;exact hJ.q hK (by kernel_rfl) rfl
   · intro L fx w' hJ hL hp hcl;have e0 := hJ.pt 0 7 (.agg #[.bool n, .slice ao len cap]) rfl rfl rfl (hp 0 (by decide));rw [e0] at hJ ⊢; clear e0;refine wps rfl fun K hK => ?_;go_simp;go_at_call 47;refine (ISign_c _ x _ (show IntAt w' _ _ x from hJ.base _ mm0)).mono ?_;rintro e w4 ⟨rfl, hb4⟩;try dsimp only
     exact hK _ _ ⟨_, by kernel_rfl, hJ.gC 1 rfl (by kernel_rfl) hb4 rfl (by omega)⟩
   · intro L fx w' hJ hL hp hcl;refine wps rfl fun K hK => ?_;have rw0 := (hJ.rows _ mm1).1;have cl0 : w'.cell? ⟨w.heap.size + 1, 0, none⟩ = some (.bool n2) := rw0.cell 0;have cl1 : w'.cell? ⟨w.heap.size + 1, 1, none⟩ = some (.slice ao2 len2 cap2) := rw0.cell 1;go_simp;exact hJ.q hK (by kernel_rfl) rfl
   · intro L fx w' hJ hL hp hcl;have e2 := hJ.pt 2 9 (.agg #[.bool n2, .slice ao2 len2 cap2]) rfl rfl rfl (hp 2 (by decide));rw [e2] at hJ ⊢; clear e2;refine wps rfl fun K hK => ?_;go_simp;go_at_call 47;refine (ISign_c _ y _ (show IntAt w' _ _ y from hJ.base _ mm1)).mono ?_;rintro e w4 ⟨rfl, hb4⟩;try dsimp only
     exact hK _ _ ⟨_, by kernel_rfl, hJ.gC 3 rfl (by kernel_rfl) hb4 rfl (by omega)⟩
   · intro L fx w' hJ hL hp hcl;have e1 := hJ.pt 1 8 (.int .i64 (zsign x)) rfl rfl rfl (hp 1 (by decide));rw [e1] at hJ ⊢; clear e1;refine wps rfl fun K hK => ?_;go_simp;exact hJ.q hK (by kernel_rfl) rfl
   · intro L fx w' hJ hL hp hcl;have e3 := hJ.pt 3 10 (.int .i64 (zsign y)) rfl rfl rfl (hp 3 (by decide));rw [e3] at hJ ⊢; clear e3;refine wps rfl fun K hK => ?_;go_simp;exact hJ.q hK (by kernel_rfl) rfl
 · intro L x' w' hL hJ;have e4 : x' 5 = _ := hJ.slot 4 (by show 4 < 6; decide) (hL 4 (by show 4 < 6; decide));have e5 : x' 6 = _ := hJ.slot 5 (by show 5 < 6; decide) (hL 5 (by show 5 < 6; decide));have R1 := (hJ.rows _ mm0).1;have R2 := (hJ.rows _ mm1).1;have hfr : Below (w.heap.size + 2) w2.drew w' := hJ.fr;have hbw : Below w.heap.size w w' := bw_0.out.trans (((Below.refl w.heap.size w2).drew).trans (hfr.mono (by omega)));rw [patchX (x := x') (d := 5) (v := (.int .i64 (zsign x))) e4] at hJ ⊢;rw [patchX (x := updX x' 5 (.int .i64 (zsign x))) (d := 6) (v := (.int .i64 (zsign y))) e5] at hJ ⊢;clear hJ e4 e5 hfr;simp only [pN, Nat.reduceEqDiff, ↓reduceIte];have d1 : w'.cell? ⟨w.heap.size, 1, none⟩ = some (.slice ao len cap) := R1.cell 1;have d2 : w'.cell? ⟨w.heap.size + 1, 1, none⟩ = some (.slice ao2 len2 cap2) := R2.cell 1;have hc1 := zsign_cases x;have hc2 := ncmp_cases (nval ws) (nval ws2);have hz1 := @zcmp_eq x y;have hz2 := @zcmp_lt x y;have hz3 := @zcmp_gt x y;rw [EX.out, EY.out] at hz1;obtain ⟨s, hs⟩ : ∃ s, zsign x = s := ⟨_, rfl⟩;obtain ⟨t, ht⟩ : ∃ t, zsign y = t := ⟨_, rfl⟩;rw [hs] at hc1 hz1 hz2 hz3 ⊢;rw [ht] at hz1 hz2 hz3 ⊢;have HC1 := Lib.hid hc1; clear hc1;have HC2 := Lib.hid hc2; clear hc2;have HZ1 := Lib.hid hz1; clear hz1;have HZ2 := Lib.hid hz2; clear hz2;have HZ3 := Lib.hid hz3; clear hz3;clear hs ht R1 R2;by_cases h : s = t
   · subst h;go_wp2_with fail
     refine (Cmp_c _ _ _ _ _ _ ws ws2 _ (HW.out.below hbw) (HW2.out.below hbw) Hl.out Hl2.out (by omega) (by omega)).mono ?_;rintro e w5 ⟨rfl, hb5⟩;obtain ⟨k, hk⟩ : ∃ k, ncmp (nval ws) (nval ws2) = k := ⟨_, rfl⟩;have HK := Lib.hid hk;rw [hk];have hw : IntKind.i64.wrap (s * k) = s * k := by
      have h1 := HC1.out;have h2 := HC2.out;rw [HK.out] at h2;refine wrap_small ?_ ?_ <;> rcases h1 with rfl | rfl | rfl <;> rcases h2 with rfl | rfl | rfl <;> decide
     clear hk;go_wp2;go_ret;have hz : zcmp x y = s * ncmp (nval ws) (nval ws2) := by
      have := HZ1.out;simpa using this
     rw [HK.out] at hz;rw [hz];exact ⟨rfl, hbw.trans (hb5.mono hbw.size)⟩
   · have hb : (s != t) = true := by simpa using h
     by_cases h2 : s < t
     · go_wp2;go_ret;rw [HZ2.out h2];exact ⟨rfl, hbw⟩
     · go_wp2;go_ret;rw [HZ3.out h2 h];exact ⟨rfl, hbw⟩
end Go.Proofs.YtknkkceioockjaaGreat
namespace Go.Proofs.YtknkkceioockjaaGreat
structure EInv (A : Nat) (b : Int) (r0 r1 : Nat) (m0 m1 : Int) : Prop where
 c0 : b ∣ (r0 : Int) - m0 * A
 c1 : b ∣ (r1 : Int) - m1 * A
 g : Nat.gcd r0 r1 = Nat.gcd A b.natAbs
 s : (0 <= m0 /\ m1 <= 0) ∨ (m0 <= 0 /\ 0 <= m1)
 d : r0 * m1.natAbs + r1 * m0.natAbs = b.natAbs
 k0 : m0.natAbs <= b.natAbs
 k1 : m1.natAbs <= b.natAbs
theorem EInv.start (A : Nat) {b : Int} (hb : b ≠ 0) : EInv A b A b.natAbs 1 0 := by
 refine ⟨by simp, ?_, rfl, .inl ⟨by omega, by omega⟩, by simp, by omega, by simp⟩;rw [Int.zero_mul, Int.sub_zero];exact Int.dvd_natAbs.2 (Int.dvd_refl b)
theorem natAbs_sub_mul {m0 m1 : Int} (q : Nat) (s : (0 <= m0 /\ m1 <= 0) ∨ (m0 <= 0 /\ 0 <= m1)) : (m0 - (q : Int) * m1).natAbs = m0.natAbs + q * m1.natAbs := by
 rcases s with ⟨h0, h1⟩ | ⟨h0, h1⟩
 · obtain ⟨a, rfl⟩ := Int.eq_ofNat_of_zero_le h0;obtain ⟨c, hc⟩ := Int.eq_ofNat_of_zero_le (Int.neg_nonneg_of_nonpos h1);obtain rfl : m1 = -(c : Int) := by omega
   rw [Int.mul_neg, Int.sub_neg, <- Int.natCast_mul];simp only [Int.natAbs_neg, Int.natAbs_natCast];omega
 · obtain ⟨c, rfl⟩ := Int.eq_ofNat_of_zero_le h1;obtain ⟨a, ha⟩ := Int.eq_ofNat_of_zero_le (Int.neg_nonneg_of_nonpos h0);obtain rfl : m0 = -(a : Int) := by omega
   rw [<- Int.natCast_mul];simp only [Int.natAbs_neg, Int.natAbs_natCast];omega
theorem EInv.step {A : Nat} {b : Int} {r0 r1 : Nat} {m0 m1 : Int} (h : EInv A b r0 r1 m0 m1) (hr : r1 ≠ 0) : EInv A b r1 (r0 % r1) m1 (m0 - ((r0 / r1 : Nat) : Int) * m1) := by
 have hd := Nat.div_add_mod r0 r1;have hn := natAbs_sub_mul (r0 / r1) h.s;have hD : r1 * (m0 - ((r0 / r1 : Nat) : Int) * m1).natAbs + (r0 % r1) * m1.natAbs = b.natAbs := by
  rw [hn, <- h.d];have : r0 * m1.natAbs = r1 * (r0 / r1) * m1.natAbs + r0 % r1 * m1.natAbs := by rw [<- Nat.add_mul, hd]
  rw [this, Nat.mul_add, Nat.mul_assoc];omega
 refine ⟨h.c1, ?_, ?_, ?_, hD, h.k1, ?_⟩
 · have e : ((r0 % r1 : Nat) : Int) = (r0 : Int) - (r1 : Int) * ((r0 / r1 : Nat) : Int) := by
    have : (r0 : Int) = ((r1 * (r0 / r1) + r0 % r1 : Nat) : Int) := by rw [hd]
    rw [this]; push_cast; omega
   rw [e];have := Int.dvd_sub h.c0 (Int.dvd_mul_of_dvd_left (c := ((r0 / r1 : Nat) : Int)) h.c1);have e2 : (r0 : Int) - (r1 : Int) * ((r0 / r1 : Nat) : Int) - (m0 - ((r0 / r1 : Nat) : Int) * m1) * A = (r0 : Int) - m0 * A - ((r1 : Int) - m1 * A) * ((r0 / r1 : Nat) : Int) := by
    generalize ((r0 / r1 : Nat) : Int) = q;rw [Int.sub_mul, Int.sub_mul, Int.mul_comm q m1, Int.mul_assoc m1 q, Int.mul_comm q, <- Int.mul_assoc];omega
   rw [e2]; exact this
 · rw [<- h.g, Nat.gcd_comm, Nat.gcd_comm r0 r1, Nat.gcd_rec r1 r0]
 · rcases h.s with ⟨h0, h1⟩ | ⟨h0, h1⟩
   · refine .inr ⟨h1, ?_⟩;have := Int.mul_nonpos_of_nonneg_of_nonpos (Int.natCast_nonneg (r0 / r1)) h1;omega
   · refine .inl ⟨h1, ?_⟩;have := Int.mul_nonneg (Int.natCast_nonneg (r0 / r1)) h1;omega
 · have : 1 * (m0 - ((r0 / r1 : Nat) : Int) * m1).natAbs <= r1 * (m0 - ((r0 / r1 : Nat) : Int) * m1).natAbs := Nat.mul_le_mul_right _ (by omega);omega
def ExtIs (a b g x y : Int) : Prop :=
 if b = 0 then g = a.natAbs /\ x = a.sign /\ y = 0
 else g = Int.gcd a b /\ 0 <= x /\ x * g < b.natAbs /\ a * x + b * y = g
theorem EInv.done {a b : Int} {r0 : Nat} {m0 m1 : Int} (hb : b ≠ 0) (h : EInv a.natAbs b r0 0 m0 m1) : (r0 : Int) = Int.gcd a b /\ b ∣ (r0 : Int) - (if a < 0 then -m0 else m0) * a := by
 refine ⟨?_, ?_⟩
 · have := h.g; rw [Nat.gcd_zero_right] at this; rw [this]; rfl
 · have := h.c0;have e : (if a < 0 then -m0 else m0) * a = m0 * (a.natAbs : Int) := by
    split
    · have : (a.natAbs : Int) = -a := by omega
      rw [this, Int.neg_mul, Int.mul_neg]
    · have : (a.natAbs : Int) = a := by omega
      rw [this]
   rw [e]; exact this
theorem ext_last {a b g m : Int} (hb : b ≠ 0) (hg : g = Int.gcd a b) (hm : b ∣ g - m * a) : g ∣ b /\ b / g ≠ 0 /\ b ∣ g - a * (m % (b / g)) /\ ExtIs a b g (m % (b / g)) ((g - a * (m % (b / g))) / b) := by
 have hgb : g ∣ b := hg ▸ Int.gcd_dvd_right ..;have hga : g ∣ a := hg ▸ Int.gcd_dvd_left ..;obtain ⟨c, hc⟩ := hgb;obtain ⟨e, he⟩ := hga;have hg0 : g ≠ 0 := fun h => hb (by rw [hc, h, Int.zero_mul]);have hgp : 0 < g := by rw [hg] at hg0 ⊢; omega
 have hq : b / g = c := by rw [hc]; exact Int.mul_ediv_cancel_left _ hg0
 have hc0 : c ≠ 0 := fun h => hb (by rw [hc, h, Int.mul_zero]);rw [hq];have hdv : b ∣ g - a * (m % c) := by
  have h1 : g - a * (m % c) = (g - m * a) + b * (e * (m / c)) := by
   have hm' := Int.emod_add_mul_ediv m c;have : m % c = m - c * (m / c) := by omega
   rw [this, he, hc];simp only [Int.mul_sub, Int.mul_assoc, Int.mul_comm, Int.mul_left_comm];omega
  rw [h1];exact Int.dvd_add hm (Int.dvd_mul_right ..)
 refine ⟨⟨c, hc⟩, hc0, hdv, ?_⟩;unfold ExtIs;rw [if_neg hb];refine ⟨hg, Int.emod_nonneg _ hc0, ?_, ?_⟩
 · have h2 : (b.natAbs : Int) = c.natAbs * g := by
    rw [hc, Int.natAbs_mul, Int.natCast_mul, Int.natAbs_of_nonneg (Int.le_of_lt hgp), Int.mul_comm]
   rw [h2];have h3 : m % c < (c.natAbs : Int) := Int.emod_lt m hc0;exact Int.mul_lt_mul_of_pos_right h3 hgp
 · obtain ⟨d, hd⟩ := hdv;rw [hd, Int.mul_ediv_cancel_left _ hb];omega
end Go.Proofs.YtknkkceioockjaaGreat
namespace Go.Proofs.YtknkkceioockjaaGreat
open Go.RowKit
theorem five_new (w : World) (c1 c2 c3 c4 c5 : Array Value) (t1 t2 t3 t4 t5 : TypeId) : RowAt (((((w.alloc (.cells c1 t1)).alloc (.cells c2 t2)).alloc (.cells c3 t3)).alloc (.cells c4 t4)).alloc (.cells c5 t5)) w.heap.size t1 c1.toList /\ RowAt (((((w.alloc (.cells c1 t1)).alloc (.cells c2 t2)).alloc (.cells c3 t3)).alloc (.cells c4 t4)).alloc (.cells c5 t5)) (w.heap.size + 1) t2 c2.toList /\
 RowAt (((((w.alloc (.cells c1 t1)).alloc (.cells c2 t2)).alloc (.cells c3 t3)).alloc (.cells c4 t4)).alloc (.cells c5 t5)) (w.heap.size + 2) t3 c3.toList /\ RowAt (((((w.alloc (.cells c1 t1)).alloc (.cells c2 t2)).alloc (.cells c3 t3)).alloc (.cells c4 t4)).alloc (.cells c5 t5)) (w.heap.size + 3) t4 c4.toList /\
 RowAt (((((w.alloc (.cells c1 t1)).alloc (.cells c2 t2)).alloc (.cells c3 t3)).alloc (.cells c4 t4)).alloc (.cells c5 t5)) (w.heap.size + 4) t5 c5.toList /\
 Below w.heap.size w (((((w.alloc (.cells c1 t1)).alloc (.cells c2 t2)).alloc (.cells c3 t3)).alloc (.cells c4 t4)).alloc (.cells c5 t5)) := by
 obtain ⟨h1, h2, h3, h4, h5⟩ := four_new w c1 c2 c3 c4 t1 t2 t3 t4;have e : ((((w.alloc (.cells c1 t1)).alloc (.cells c2 t2)).alloc (.cells c3 t3)).alloc (.cells c4 t4)).heap.size = w.heap.size + 4 := by simp
 refine ⟨h1.alloc _, h2.alloc _, h3.alloc _, h4.alloc _, ?_, h5.alloc (by omega) _⟩;have := RowAt.new ((((w.alloc (.cells c1 t1)).alloc (.cells c2 t2)).alloc (.cells c3 t3)).alloc (.cells c4 t4)) c5 t5
 rwa [e] at this
theorem OwnI.zero (w : World) (B : Nat) : OwnI w B (.agg #[.bool false, .slice none 0 0]) 0 := by
 have h : wlen (0 : Int).natAbs = 0 := wlen_zero;refine ⟨none, 0, by rw [h]; rfl, ?_⟩;rw [h];have : dig (0 : Int).natAbs = [] := dig_zero;rw [this];exact OwnW.nil w B
theorem results_int3 {fn : Func} {p p2 p3 : Tmp} (h : fn.results = #[.cell p 45, .cell p2 45, .cell p3 45]) (tmps : Array Value) (w : World) (g g2 g3 : Nat) (a b c d e f : Value) (hp : tmps.getD p undef = .pointer (some ⟨g, 0, none⟩)) (hp2 : tmps.getD p2 undef = .pointer (some ⟨g2, 0, none⟩)) (hp3 : tmps.getD p3 undef = .pointer (some ⟨g3, 0, none⟩))
 (hr : RowAt w g 45 [a, b]) (hr2 : RowAt w g2 45 [c, d]) (hr3 : RowAt w g3 45 [e, f]) :
 (results fn tmps).run Tryz.prog w = .ok (.tuple #[.agg #[a, b], .agg #[c, d], .agg #[e, f]]) w := by
 have hp' : tmps[p]?.getD undef = .pointer (some ⟨g, 0, none⟩) := by simpa using hp
 have hp2' : tmps[p2]?.getD undef = .pointer (some ⟨g2, 0, none⟩) := by simpa using hp2
 have hp3' : tmps[p3]?.getD undef = .pointer (some ⟨g3, 0, none⟩) := by simpa using hp3
 simp [results, h, hp', hp2', hp3', asAddr, run_loadVar_row w g 45 45 #[a, b] (0, 0) _ hr Tryz.underlying45 rfl (by kernel_rfl), run_loadVar_row w g2 45 45 #[c, d] (0, 0) _ hr2 Tryz.underlying45 rfl (by kernel_rfl), run_loadVar_row w g3 45 45 #[e, f] (0, 0) _ hr3 Tryz.underlying45 rfl (by kernel_rfl)]
theorem least_fun {α : Type} (J : Nat -> α -> Prop) : ∃ μ : α -> Nat, ∀ a n, J n a -> J (μ a) a /\ μ a <= n := by
 have h : ∀ a, ∃ k, ∀ n, J n a -> J k a /\ k <= n := by
  intro a;by_cases he : ∃ n, J n a
  · obtain ⟨n, hn⟩ := he;have key : ∀ n, J n a -> ∃ k, ∀ m, J m a -> J k a /\ k <= m := by
     intro n;induction n using Nat.strongRecOn with
     | _ n ih =>
      intro hn;by_cases hl : ∃ m, m < n /\ J m a
      · obtain ⟨m, hm, hj⟩ := hl; exact ih m hm hj
      · exact ⟨n, fun m hm => ⟨hn, Nat.le_of_not_lt fun hlt => hl ⟨m, hlt, hm⟩⟩⟩
    exact key n hn
  · exact ⟨0, fun n hn => absurd ⟨n, hn⟩ he⟩
 exact ⟨fun a => (h a).choose, fun a n hn => (h a).choose_spec n hn⟩
def AV.int2 (B : Nat) (x y : Int) : AV := AV.free (fun w v => ∃ b ao l k b' ao' l' k', v = .agg #[.bool b, .slice ao l k, .bool b', .slice ao' l' k'] /\ OwnI w B (.agg #[.bool b, .slice ao l k]) x /\ OwnI w B (.agg #[.bool b', .slice ao' l' k']) y) (fun ⟨b, ao, l, k, b', ao', l', k', e, h, h'⟩ hb => ⟨b, ao, l, k, b', ao', l', k', e, OwnI.below h hb, OwnI.below h' hb⟩) (fun ⟨b, ao, l, k, b', ao', l', k', e, h, h'⟩ hr _ ht j u _ => ⟨b, ao, l, k, b', ao', l', k', e, OwnI.setRow h hr ht j u, OwnI.setRow h' hr ht j u⟩)
def AV.tup1 (B : Nat) (x : Int) : AV := AV.free (fun w v => ∃ a, v = .tuple #[a, .int .i64 0] /\ OwnI w B a x) (fun ⟨a, e, h⟩ hb => ⟨a, e, OwnI.below h hb⟩) (fun ⟨a, e, h⟩ hr _ ht k u _ => ⟨a, e, OwnI.setRow h hr ht k u⟩)
theorem zsign_sign (x : Int) : zsign x = x.sign := by
 unfold zsign;rcases Int.lt_trichotomy x 0 with h | h | h
 · rw [if_pos h, Int.sign_eq_neg_one_of_neg h]
 · subst h; rfl
 · rw [if_neg (by omega), if_neg (by omega), Int.sign_eq_one_of_pos h]
theorem extIs_zero (a : Int) : ExtIs a 0 ((a.natAbs : Nat) : Int) (zsign a) 0 := by
 unfold ExtIs;rw [if_pos rfl];exact ⟨rfl, zsign_sign a, rfl⟩
theorem zsign_beq {x : Int} : (zsign x = 0) ↔ x = 0 := by
 unfold zsign; split
 · constructor <;> intro h <;> omega
 · split <;> constructor <;> intro h <;> omega
theorem OwnI.parts {w : World} {B : Nat} {v : Value} {x : Int} (h : OwnI w B v x) : ∃ b ao l k, v = .agg #[.bool b, .slice ao l k] := by
 obtain ⟨ao, cap, rfl, _⟩ := h; exact ⟨_, _, _, _, rfl⟩
structure ExtL (w : World) (a b : Int) (n : Bool) (ao : Option Addr) (len cap : Nat) (n2 : Bool) (ao2 : Option Addr) (len2 cap2 : Nat) (g7 g8 k : Nat) (wr : World) : Prop where
 A : RowAt wr w.heap.size 45 [.bool n, .slice ao len cap]
 B : RowAt wr (w.heap.size + 1) 45 [.bool n2, .slice ao2 len2 cap2]
 P : RowAt wr (w.heap.size + 2) 45 [.bool false, .slice none 0 0]
 Q : RowAt wr (w.heap.size + 3) 45 [.bool false, .slice none 0 0]
 R : RowAt wr (w.heap.size + 4) 45 [.bool false, .slice none 0 0]
 X : IntAt wr 17592186044415 (.agg #[.bool n, .slice ao len cap]) a
 Y : IntAt wr 17592186044415 (.agg #[.bool n2, .slice ao2 len2 cap2]) b
 bw : Below w.heap.size w wr
 lo : w.heap.size + 4 < g7 /\ g7 < g8
 body : ∃ (r0 : Nat) (m0 m1 : Int) (b1 : Bool) (o1 : Option Addr) (l1 k1 : Nat) (b2 : Bool) (o2 : Option Addr) (l2 k2 : Nat) (b3 : Bool) (o3 : Option Addr) (l3 k3 : Nat) (b4 : Bool) (o4 : Option Addr) (l4 k4 : Nat),
  EInv a.natAbs b r0 k m0 m1 /\ (r0 <= max a.natAbs b.natAbs /\ k <= max a.natAbs b.natAbs) /\
  RowAt wr g7 155 [.bool b1, .slice o1 l1 k1, .bool b2, .slice o2 l2 k2] /\ RowAt wr g8 155 [.bool b3, .slice o3 l3 k3, .bool b4, .slice o4 l4 k4] /\
  OwnI wr (w.heap.size + 5) (.agg #[.bool b1, .slice o1 l1 k1]) (r0 : Int) /\ OwnI wr (w.heap.size + 5) (.agg #[.bool b2, .slice o2 l2 k2]) (k : Int) /\
  OwnI wr (w.heap.size + 5) (.agg #[.bool b3, .slice o3 l3 k3]) m0 /\ OwnI wr (w.heap.size + 5) (.agg #[.bool b4, .slice o4 l4 k4]) m1
abbrev P4 := Bool × Option Addr × Nat × Nat
def av (p : P4) : Value := .agg #[.bool p.1, .slice p.2.1 p.2.2.1 p.2.2.2]
def p0 : P4 := (false, none, 0, 0)
def flat : List P4 -> List Value
 | [] => []
 | p :: ps => .bool p.1 :: .slice p.2.1 p.2.2.1 p.2.2.2 :: flat ps
theorem flat_length : ∀ ps : List P4, (flat ps).length = 2 * ps.length
 | [] => rfl
 | p :: ps => by simp [flat, flat_length ps]; omega
theorem flat_get0 : ∀ (ps : List P4) (i : Nat) (h : i < ps.length), (flat ps)[i * 2]? = some (.bool (ps[i]).1)
 | p :: ps, 0, _ => rfl
 | p :: ps, i + 1, h => by
  have e : (i + 1) * 2 = i * 2 + 1 + 1 := by omega
  rw [e]; simp only [flat, List.getElem?_cons_succ, List.getElem_cons_succ];exact flat_get0 ps i (by simpa using h)
theorem flat_get1 : ∀ (ps : List P4) (i : Nat) (h : i < ps.length), (flat ps)[i * 2 + 1]? = some (.slice (ps[i]).2.1 (ps[i]).2.2.1 (ps[i]).2.2.2)
 | p :: ps, 0, _ => rfl
 | p :: ps, i + 1, h => by
  have e : (i + 1) * 2 + 1 = i * 2 + 1 + 1 + 1 := by omega
  rw [e]; simp only [flat, List.getElem?_cons_succ, List.getElem_cons_succ];exact flat_get1 ps i (by simpa using h)
theorem flat_set : ∀ (ps : List P4) (i : Nat) (p : P4), ((flat ps).set (i * 2) (.bool p.1)).set (i * 2 + 1) (.slice p.2.1 p.2.2.1 p.2.2.2) = flat (ps.set i p)
 | [], i, p => rfl
 | q :: ps, 0, p => rfl
 | q :: ps, i + 1, p => by
  have e : (i + 1) * 2 = i * 2 + 1 + 1 := by omega
  rw [e]; simp only [flat, List.set_cons_succ];rw [flat_set ps i p]
theorem NoW_flat : ∀ ps : List P4, NoW (flat ps)
 | [] => NoW.nil
 | p :: ps => NoW.bool (NoW.slice (NoW_flat ps))
def NumAt (w : World) (v : Value) (x : Int) : Prop := IntAt w (wlen x.natAbs) v x /\ ∃ s, v = .agg #[.bool (decide (x < 0)), s]
theorem OwnI.num {w : World} {B : Nat} {v : Value} {x : Int} (h : OwnI w B v x) : NumAt w v x := ⟨h.at_, by obtain ⟨ao, cap, rfl, _⟩ := h; exact ⟨_, rfl⟩⟩
theorem NumAt.below {w w' : World} {v : Value} {x : Int} (h : NumAt w v x) (hb : Below w.heap.size w w') : NumAt w' v x := ⟨IntAt.below h.1 hb, h.2⟩
theorem NumAt.setRow {w : World} {v : Value} {x : Int} (h : NumAt w v x) {g : Nat} {t : TypeId} {cs : List Value} (hr : RowAt w g t cs) (hn : NoW cs) (i : Nat) (u : Value) : NumAt (w.setCell ⟨g, i, none⟩ u) v x := ⟨IntAt.setRow h.1 hr hn i u, h.2⟩
theorem NumAt.int {w : World} {L : Nat} {v : Value} {x : Int} (h : NumAt w v x) (hL : wlen x.natAbs <= L) : IntAt w L v x := IntAt.mono h.1 hL
theorem NumAt.parts {w : World} {v : Value} {x : Int} (h : NumAt w v x) : ∃ p : P4, v = av p := by
 obtain ⟨n, ao, len, cap, ws, rfl, _⟩ := h.1;exact ⟨(n, ao, len, cap), rfl⟩
theorem IntAt.parts {w : World} {L : Nat} {v : Value} {x : Int} (h : IntAt w L v x) : ∃ p : P4, v = av p := by
 obtain ⟨n, ao, len, cap, ws, rfl, _⟩ := h;exact ⟨(n, ao, len, cap), rfl⟩
def RowN (w : World) (b : Nat) (xs : List Int) : Prop := ∃ ps : List P4, RowAt w b 45 (flat ps) /\ ps.length = xs.length /\ ∀ i (h : i < ps.length) (h' : i < xs.length), NumAt w (av ps[i]) xs[i]
theorem RowN.lt {w : World} {b : Nat} {xs : List Int} (h : RowN w b xs) : b < w.heap.size := by
 obtain ⟨ps, hr, _⟩ := h; exact hr.lt
theorem RowN.below {w w' : World} {b : Nat} {xs : List Int} (h : RowN w b xs) (hb : Below w.heap.size w w') : RowN w' b xs := by
 obtain ⟨ps, hr, hl, hn⟩ := h;exact ⟨ps, hr.below hb hr.lt, hl, fun i h1 h2 => (hn i h1 h2).below hb⟩
theorem RowN.other {w : World} {b g : Nat} {xs : List Int} (h : RowN w b xs) (hne : b ≠ g) {t : TypeId} {cs : List Value} (hr : RowAt w g t cs) (hn : NoW cs) (i : Nat) (u : Value) : RowN (w.setCell ⟨g, i, none⟩ u) b xs := by
 obtain ⟨ps, hr', hl, hn'⟩ := h;exact ⟨ps, hr'.other hne u, hl, fun j h1 h2 => (hn' j h1 h2).setRow hr hn i u⟩
theorem RowN.get {w : World} {b : Nat} {xs : List Int} (h : RowN w b xs) {i : Nat} (hi : i < xs.length) : ∃ p : P4, w.cell? ⟨b, i * 2, none⟩ = some (.bool p.1) /\ w.cell? ⟨b, i * 2 + 1, none⟩ = some (.slice p.2.1 p.2.2.1 p.2.2.2) /\ NumAt w (av p) xs[i] := by
 obtain ⟨ps, hr, hl, hn⟩ := h;have hi' : i < ps.length := by omega
 exact ⟨ps[i], (hr.cell _).trans (flat_get0 ps i hi'), (hr.cell _).trans (flat_get1 ps i hi'), hn i hi' hi⟩
theorem RowN.free {w : World} {b : Nat} {xs : List Int} (h : RowN w b xs) (i : Nat) : w.frozen? ⟨b, i, none⟩ = false := by
 obtain ⟨ps, hr, _⟩ := h; exact hr.free i
theorem RowN.set {w : World} {b : Nat} {xs : List Int} (h : RowN w b xs) (i : Nat) {p : P4} {x : Int} (hx : NumAt w (av p) x) : RowN ((w.setCell ⟨b, i * 2, none⟩ (.bool p.1)).setCell ⟨b, i * 2 + 1, none⟩ (.slice p.2.1 p.2.2.1 p.2.2.2)) b (xs.set i x) := by
 obtain ⟨ps, hr, hl, hn⟩ := h;have h1 := hr.set (i * 2) (.bool p.1);have hn1 : NoW ((flat ps).set (i * 2) (.bool p.1)) := (NoW_flat ps).set _ (by simp);have h2 := h1.set (i * 2 + 1) (.slice p.2.1 p.2.2.1 p.2.2.2);rw [flat_set] at h2;refine ⟨ps.set i p, h2, by simp [hl], fun j hj hj' => ?_⟩;rw [List.getElem_set, List.getElem_set];split
 · exact (hx.setRow hr (NoW_flat ps) _ _).setRow h1 hn1 _ _
 · exact ((hn j (by simpa using hj) (by simpa using hj')).setRow hr (NoW_flat ps) _ _).setRow h1 hn1 _ _
theorem RowN.keepInt {w : World} {b : Nat} {xs : List Int} (h : RowN w b xs) {L : Nat} {v : Value} {x : Int} (hx : IntAt w L v x) (i : Nat) (p : P4) : IntAt ((w.setCell ⟨b, i * 2, none⟩ (.bool p.1)).setCell ⟨b, i * 2 + 1, none⟩ (.slice p.2.1 p.2.2.1 p.2.2.2)) L v x := by
 obtain ⟨ps, hr, hl, hn⟩ := h;exact (hx.setRow hr (NoW_flat ps) _ _).setRow (hr.set _ _) ((NoW_flat ps).set _ (by simp)) _ _
theorem RowN.keepRow {w : World} {b : Nat} {xs : List Int} (h : RowN w b xs) {b' : Nat} {ys : List Int} (hy : RowN w b' ys) (hne : b' ≠ b) (i : Nat) (p : P4) : RowN ((w.setCell ⟨b, i * 2, none⟩ (.bool p.1)).setCell ⟨b, i * 2 + 1, none⟩ (.slice p.2.1 p.2.2.1 p.2.2.2)) b' ys := by
 obtain ⟨ps, hr, hl, hn⟩ := h;exact (hy.other hne hr (NoW_flat ps) _ _).other hne (hr.set _ _) ((NoW_flat ps).set _ (by simp)) _ _
def lead : List Int -> Nat
 | [] => 0
 | x :: xs => if x = 0 then lead xs + 1 else 0
theorem lead_le : ∀ xs : List Int, lead xs <= xs.length
 | [] => Nat.le_refl _
 | x :: xs => by
  unfold lead; split
  · have := lead_le xs; simp; omega
  · simp
theorem lead_of : ∀ (xs : List Int) (k : Nat) (h : k < xs.length), (∀ i (h' : i < k), xs[i]'(by omega) = 0) -> xs[k] ≠ 0 -> lead xs = k
 | x :: xs, 0, _, _, hn => by unfold lead; rw [if_neg]; simpa using hn
 | x :: xs, k + 1, h, hz, hn => by
  have h0 : x = 0 := hz 0 (by omega);unfold lead; rw [if_pos h0, lead_of xs k (by simpa using h) (fun i hi => by have := hz (i + 1) (by omega); simpa using this) (by simpa using hn)]
theorem lead_all : ∀ (xs : List Int), (∀ i (h : i < xs.length), xs[i] = 0) -> lead xs = xs.length
 | [], _ => rfl
 | x :: xs, hz => by
  have h0 : x = 0 := hz 0 (by simp);unfold lead; rw [if_pos h0, lead_all xs (fun i hi => by have := hz (i + 1) (by simpa using hi); simpa using this)]; rfl
set_option maxRecDepth 100000 in
set_option maxHeartbeats 4000000 in
theorem Lead_c (b cap : Nat) (xs : List Int) (w : World) (hR : RowN w b xs) (hL : ∀ x ∈ xs, wlen x.natAbs <= 17592186044415) (hlen : xs.length <= 9223372036854775807) :
 Calls Tryz.prog 46 #[.slice (some ⟨b, 0, none⟩) xs.length cap] w fun e w' => e = .returned (.int .i64 (lead xs : Nat)) /\ Below w.heap.size w w' := by
 have HL := Lib.hid hL; clear hL;have HR := Lib.hid hR; clear hR;go_enter Tryz.func46, Tryz.ntmps46;go_wp2;go_loopw [7] (fun i wr => ∃ k : Nat, k <= xs.length /\ i = .int .i64 (k : Int) /\ Hid (∀ j (h : j < k) (h' : j < xs.length), xs[j] = 0) /\ Below w.heap.size w wr) (fun i _ => xs.length - (intOf i).toNat)
 case atStart => exact ⟨0, Nat.zero_le _, rfl, fun j h => by omega, Below.refl _ _⟩
 case round =>
  obtain ⟨k, hk, rfl, hz, hb⟩ := hrel;by_cases hkl : k < xs.length
  · have hR2 := HR.out.below hb;obtain ⟨p, hc0, hc1, hn⟩ := hR2.get hkl;have hkl' : (k : Int) < (xs.length : Int) := by omega
    have HN := Lib.hid hn;clear hn;go_wp2_with fail
    have hb1 : Below wr.heap.size wr (wr.alloc (.cells #[.bool p.fst, .slice p.snd.fst p.snd.snd.fst p.snd.snd.snd] 45)) := (Below.refl _ _).alloc (Nat.le_refl _) _;refine (ISign_c (av p) xs[k] _ ((HN.out.int (HL.out _ (List.getElem_mem hkl))).below hb1)).mono ?_;rintro e w2 ⟨rfl, hb2⟩;have hb3 : Below w.heap.size w w2 := hb.trans ((hb1.trans (hb2.mono hb1.size)).mono hb.size);have HB3 := Lib.hid hb3;clear hb1 hb2 hb3 hc0 hc1;by_cases h0 : xs[k] = 0
    · have hz0 : zsign xs[k] = 0 := zsign_beq.2 h0;rw [hz0];have H0 := Lib.hid h0;clear h0 hz0;go_wp2;go_roundw
      case rel => exact ⟨k + 1, by omega, by go_num, Lib.hid (fun j hj hj' => (Nat.lt_succ_iff_lt_or_eq.1 hj).elim (fun h => hz.out j h hj') (fun h => by subst h; exact H0.out)), HB3.out⟩
      case measure => simp [intOf]; omega
    · have hn0 : ¬ zsign xs[k] = 0 := fun h => h0 (zsign_beq.1 h);have hle := lead_of xs k hkl (fun i h' => hz.out i h' (by omega)) h0;have HLE := Lib.hid hle;obtain ⟨s, hs⟩ : ∃ s, zsign xs[k] = s := ⟨_, rfl⟩;rw [hs] at hn0 ⊢;have hb0 : (s != 0) = true := by simpa using hn0
      clear h0 hle hs;go_wp2;go_ret;rw [HLE.out];exact ⟨rfl, HB3.out⟩
  · obtain rfl : k = xs.length := by omega
    have hle := lead_all xs (fun i h => hz.out i h h);have HLE := Lib.hid hle;clear hle;go_wp2;go_ret;rw [HLE.out];exact ⟨rfl, hb⟩
structure Chg (S : Nat -> Prop) (w w' : World) : Prop where
 os : w'.os = w.os
 tape : w'.tape = w.tape
 output : w'.output = w.output
 size : w.heap.size <= w'.heap.size
 block : ∀ k, k < w.heap.size -> ¬ S k -> w'.heap[k]? = w.heap[k]?
theorem Chg.refl (S : Nat -> Prop) (w : World) : Chg S w w := ⟨rfl, rfl, rfl, Nat.le_refl _, fun _ _ _ => rfl⟩
theorem Chg.trans {S : Nat -> Prop} {a b c : World} (h : Chg S a b) (k : Chg S b c) : Chg S a c :=
 ⟨k.os.trans h.os, k.tape.trans h.tape, k.output.trans h.output, Nat.le_trans h.size k.size, fun i hi hs => (k.block i (Nat.lt_of_lt_of_le hi h.size) hs).trans (h.block i hi hs)⟩
theorem Chg.mono {S T : Nat -> Prop} {w w' : World} (h : Chg S w w') (hT : ∀ k, k < w.heap.size -> S k -> T k) : Chg T w w' :=
 ⟨h.os, h.tape, h.output, h.size, fun k hk ht => h.block k hk (fun hs => ht (hT k hk hs))⟩
theorem Chg.of_below {S : Nat -> Prop} {w w' : World} (h : Below w.heap.size w w') : Chg S w w' := ⟨h.os, h.tape, h.output, h.size, fun k hk _ => h.block k hk⟩
theorem Chg.below {S : Nat -> Prop} {w w' w'' : World} (h : Chg S w w') (hb : Below w'.heap.size w' w'') : Chg S w w'' := h.trans (Chg.of_below hb)
theorem Chg.set {S : Nat -> Prop} {w w' : World} (h : Chg S w w') {p : Addr} (hp : S p.block) (u : Value) : Chg S w (w'.setCell p u) :=
 h.trans ⟨rfl, rfl, rfl, by simp [World.setCell], fun k _ hs => Below.heap_setCell _ _ _ _ (fun e => hs (e ▸ hp))⟩
theorem Chg.setNew {S : Nat -> Prop} {w w' : World} (h : Chg S w w') {p : Addr} (hp : w.heap.size <= p.block) (u : Value) : Chg S w (w'.setCell p u) :=
 ⟨h.os, h.tape, h.output, by simpa [World.setCell] using h.size, fun k hk hs => (Below.heap_setCell _ _ _ _ (by omega)).trans (h.block k hk hs)⟩
theorem Chg.drew {S : Nat -> Prop} {w w' : World} (h : Chg S w w') : Chg S w w'.drew := ⟨h.os, h.tape, h.output, h.size, h.block⟩
theorem Chg.to_below {S : Nat -> Prop} {B : Nat} {w w' : World} (h : Chg S w w') (hS : ∀ k, S k -> B <= k) (hB : B <= w.heap.size) : Below B w w' :=
 ⟨h.os, h.tape, h.output, h.size, fun k hk => h.block k (by omega) (fun hs => by have := hS k hs; omega)⟩
theorem Chg.row {S : Nat -> Prop} {w w' : World} (h : Chg S w w') {b : Nat} {t : TypeId} {cs : List Value} (hr : RowAt w b t cs) (hb : ¬ S b) : RowAt w' b t cs := by
 unfold RowAt at *; rw [h.block b (RowAt.lt hr) hb]; exact hr
theorem Chg.cell {S : Nat -> Prop} {w w' : World} (h : Chg S w w') {p : Addr} (hp : p.block < w.heap.size) (hs : ¬ S p.block) : w'.cell? p = w.cell? p :=
 World.cell?_of_block (w := w) (h.block p.block hp hs)
def Wordless (S : Nat -> Prop) (w : World) : Prop := ∀ g, S g -> ∃ t cs, RowAt w g t cs /\ NoW cs
theorem Chg.wat {S : Nat -> Prop} {w w' : World} (h : Chg S w w') (hS : Wordless S w) {ao : Option Addr} {ws : List Nat} (hw : WAt w ao ws) : WAt w' ao ws := by
 refine ⟨hw.1, fun hl => ?_⟩;obtain ⟨b, o, rfl, hb, hc⟩ := hw.2 hl;have hns : ¬ S b := by
  intro hs;obtain ⟨t, cs, hr, hn⟩ := hS b hs;have h0 := hc 0 hl;rw [hr.cell] at h0;exact hn _ (List.mem_of_getElem? h0) _ rfl
 exact ⟨b, o, rfl, Nat.lt_of_lt_of_le hb h.size, fun i hi => (h.cell (p := ⟨b, o + i, none⟩) hb hns).trans (hc i hi)⟩
theorem Chg.int {S : Nat -> Prop} {w w' : World} (h : Chg S w w') (hS : Wordless S w) {L : Nat} {v : Value} {x : Int} (hx : IntAt w L v x) : IntAt w' L v x := by
 obtain ⟨n, ao, len, cap, ws, rfl, hW, hl, hL, hc, he⟩ := hx;exact ⟨n, ao, len, cap, ws, rfl, h.wat hS hW, hl, hL, hc, he⟩
theorem Chg.num {S : Nat -> Prop} {w w' : World} (h : Chg S w w') (hS : Wordless S w) {v : Value} {x : Int} (hx : NumAt w v x) : NumAt w' v x := ⟨h.int hS hx.1, hx.2⟩
theorem Chg.rowN {S : Nat -> Prop} {w w' : World} (h : Chg S w w') (hS : Wordless S w) {b : Nat} {xs : List Int} (hx : RowN w b xs) (hb : ¬ S b) : RowN w' b xs := by
 obtain ⟨ps, hr, hl, hn⟩ := hx;exact ⟨ps, h.row hr hb, hl, fun i h1 h2 => h.num hS (hn i h1 h2)⟩
theorem RowN.wordless {w : World} {b : Nat} {xs : List Int} (h : RowN w b xs) : Wordless (· = b) w := by
 rintro g rfl;obtain ⟨ps, hr, _⟩ := h;exact ⟨_, _, hr, NoW_flat ps⟩
theorem preOf_spec {ops : Array Oper} (L : Nat -> Bool) (i : Nat) (hp : ((ops[i]?).map (·.after.all fun e => !Region.binds .any e || L e.on)).getD false = true) : ∀ j ∈ preOf ops i, L j = true := by
 intro j hj;unfold preOf at hj;cases ho : ops[i]? with
 | none => rw [ho] at hj; simp at hj
 | some o =>
  rw [ho] at hp hj;simp only [Option.map_some, Option.getD_some, List.mem_map, List.mem_filter] at hj hp;obtain ⟨e, ⟨he, hbd⟩, rfl⟩ := hj;rw [Array.all_eq_true] at hp;obtain ⟨k, hk, rfl⟩ := Array.mem_iff_getElem.1 (Array.mem_def.2 he);have := hp k hk;rw [hbd] at this;simpa using this
theorem wp_region_K (d : RD) (ds : List Nat) {P : Program} {ops : Array Oper} {Q : Exit -> Act -> World -> Prop} {id : Nat} {a : Act} {w : World} (g0 : Nat) (hm : P.follows .mixedOrders = true) (hn : ops.size = d.n + 1)
 (hb : ((List.range (d.n + 1)).all fun i => ((ops[i]?).map (·.after.all fun e => !Region.binds .any e || decide (e.on < i))).getD false) = true)
 (hla : ((List.range d.n).all fun j => (List.range (d.n + 1)).any fun k => decide (j < k) && (preOf ops k).contains j) = true)
 (hF : a = putAll a (fun k => a.tmps.getD k undef) ds)
 (hbs : ∀ p ∈ d.bs, p.2.holds w.drew p.1) (hrw : ∀ p ∈ d.rows, RowAt w p.1 p.2.1 p.2.2 /\ p.1 < w.heap.size /\ ∀ t ∈ d.tg, p.1 ≠ t.2.1) (hcl : ∀ p ∈ d.cells, w.cell? p.1 = some p.2 /\ p.1.block < w.heap.size /\ ∀ t ∈ d.tg, p.1.block ≠ t.2.1) (ht : ∀ t ∈ d.tg, g0 <= t.2.1 /\ t.2.1 < w.heap.size /\ ∃ n ao l k, RowAt w t.2.1 45 [.bool n, .slice ao l k])
 (hs : ∀ i ∈ List.range d.n, ∀ L x w', d.J g0 w.heap.size w.drew L x w' -> L i = false -> (∀ j ∈ preOf ops i, L j = true) -> (∀ k < d.n, L k = true -> ∀ j ∈ preOf ops k, L j = true) -> wpOp P ops Q i (fun a' w'' => ∃ x', a' = putAll a x' ds /\ d.J g0 w.heap.size w.drew (updL L i) x' w'') (putAll a x ds) w')
 (hend : ∀ L x w', (∀ i < d.n, L i = true) -> d.J g0 w.heap.size w.drew L x w' -> wpOp P ops Q d.n (fun a' w'' => (∃ x', a' = putAll a x' ds) /\ Q .normal a' w'') (putAll a x ds) w') : (Code.region id ops true).wp P Q a w := by
 have hdown : ∀ (L : Nat -> Bool), (∀ j ∈ preOf ops d.n, L j = true) -> (∀ k < d.n, L k = true -> ∀ j ∈ preOf ops k, L j = true) -> ∀ j < d.n, L j = true := by
  intro L hp hg;have key : ∀ m j, d.n - j <= m -> j < d.n -> L j = true := by
   intro m;induction m with
   | zero => intro j h1 h2; omega
   | succ m ih =>
    intro j h1 h2;have := List.all_eq_true.1 hla j (List.mem_range.2 h2);obtain ⟨k, hk, hjk⟩ := List.any_eq_true.1 this;simp only [Bool.and_eq_true, decide_eq_true_eq, List.contains_iff_mem] at hjk;have hk' := List.mem_range.1 hk;by_cases hkn : k = d.n
    · subst hkn; exact hp j hjk.2
    · exact hg k (by omega) (ih k (by omega) (by omega)) j hjk.2
  exact fun j hj => key (d.n - j) j (Nat.le_refl _) hj
 refine wp_region_inv hm hn hb (fun x => putAll a x ds) (fun L x w' => (L d.n = false /\ d.J g0 w.heap.size w.drew L x w') ∨ (L d.n = true /\ Q .normal (putAll a x ds) w')) (fun k => a.tmps.getD k undef) hF ?_ ?_ ?_
 · refine .inl ⟨rfl, Below.refl _ _, Nat.le_refl _, hbs, hrw, hcl, fun i _ h => by simp at h, fun t h => ?_, fun _ _ _ _ _ h => by simp at h, fun _ _ h => by simp at h⟩;obtain ⟨h1, h2, a, b, l, k, hr⟩ := ht t h;exact ⟨h1, h2, a, b, l, k, hr, fun h => by simp at h⟩
 · intro i hi L x w' hJ hG hL hp;by_cases hin : i = d.n
   · subst hin;rcases hJ with ⟨_, hJ⟩ | ⟨h, _⟩
     · have hall : ∀ j < d.n, L j = true := hdown L (preOf_spec L d.n hp) (fun k hk hLk => preOf_spec L k (hG k (by omega) hLk));refine wpOp_mono ?_ (hend L x w' hall hJ);rintro a' w'' ⟨⟨x', rfl⟩, hQ⟩;exact ⟨x', rfl, .inr ⟨by simp, hQ⟩⟩
     · rw [h] at hL; cases hL
   · have hlt : i < d.n := by omega
     rcases hJ with ⟨h0, hJ⟩ | ⟨h, _⟩
     · refine wpOp_mono ?_ (hs i (List.mem_range.2 hlt) L x w' hJ hL (preOf_spec L i hp) (fun k hk hLk => preOf_spec L k (hG k (by omega) hLk)));rintro a' w'' ⟨x', rfl, hJ'⟩;exact ⟨x', rfl, .inl ⟨by show (if d.n = i then true else L d.n) = false; rw [if_neg (fun e => hin e.symm)]; exact h0, hJ'⟩⟩
     · have := hdown L (preOf_spec L d.n (hG d.n (by omega) h)) (fun k hk hLk => preOf_spec L k (hG k (by omega) hLk)) i hlt;rw [this] at hL; cases hL
 · intro L x w' hL hJ;rcases hJ with ⟨h, _⟩ | ⟨_, hQ⟩
   · rw [hL d.n (by omega)] at h; cases h
   · exact hQ
def addRow (k : Int) (xs ys : List Int) : List Int := List.zipWith (fun x y => k * y + x) xs ys
def AddTo (k : Int) (xs ys cu : List Int) (m : Nat) : Prop := cu.length = xs.length /\ (∀ j (h : j < cu.length) (h1 : j < xs.length) (h2 : j < ys.length), j < m -> cu[j] = k * ys[j] + xs[j]) /\ (∀ j (h : j < cu.length) (h1 : j < xs.length), m <= j -> cu[j] = xs[j])
theorem AddTo.start (k : Int) (xs ys : List Int) : AddTo k xs ys xs 0 := ⟨rfl, fun _ _ _ _ h => by omega, fun _ _ _ _ => rfl⟩
theorem AddTo.next {k : Int} {xs ys cu : List Int} {m : Nat} (h : AddTo k xs ys cu m) (hm : m < xs.length) (hl : xs.length = ys.length) : AddTo k xs ys (cu.set m (k * ys[m] + xs[m])) (m + 1) := by
 obtain ⟨h1, h2, h3⟩ := h;refine ⟨by simpa using h1, fun j hj hx hy hjm => ?_, fun j hj hx hjm => ?_⟩
 · rw [List.getElem_set];split
   · rename_i e; subst e; rfl
   · exact h2 j (by simpa using hj) hx hy (by omega)
 · rw [List.getElem_set, if_neg (by omega)];exact h3 j (by simpa using hj) hx (by omega)
theorem AddTo.skip {k : Int} {xs ys cu : List Int} {m : Nat} (h : AddTo k xs ys cu m) (hm : m < xs.length) (hl : xs.length = ys.length) (h0 : ys[m] = 0) : AddTo k xs ys cu (m + 1) := by
 obtain ⟨h1, h2, h3⟩ := h;refine ⟨h1, fun j hj hx hy hjm => ?_, fun j hj hx hjm => h3 j hj hx (by omega)⟩;by_cases e : j = m
 · subst e; rw [h3 j hj hx (Nat.le_refl _), h0]; simp
 · exact h2 j hj hx hy (by omega)
theorem AddTo.all {k : Int} {xs ys cu : List Int} (h : AddTo k xs ys cu xs.length) (hl : xs.length = ys.length) : cu = addRow k xs ys := by
 obtain ⟨h1, h2, h3⟩ := h;refine List.ext_getElem (by simp [addRow, h1, <- hl]) fun j hj hj' => ?_;rw [h2 j hj (by omega) (by omega) (by omega)];simp [addRow]
set_option maxRecDepth 100000 in
set_option maxHeartbeats 4000000 in
theorem LAdd_c (bx by_ cx cy LA LB : Nat) (xs ys : List Int) (kv : Value) (k : Int) (w : World) (hX : RowN w bx xs) (hY : RowN w by_ ys) (hK : IntAt w LA kv k) (hne : bx ≠ by_) (hl : xs.length = ys.length)
 (hxL : ∀ x ∈ xs, wlen x.natAbs <= 17592186044415) (hyL : ∀ y ∈ ys, wlen y.natAbs <= LB) (hLab : LA + LB <= 17592186044415) (hlen : xs.length <= 4611686018427387903) :
 Calls Tryz.prog 108 #[.slice (some ⟨bx, 0, none⟩) xs.length cx, .slice (some ⟨by_, 0, none⟩) ys.length cy, kv] w fun e w' => e = .returned (.tuple #[]) /\ RowN w' bx (addRow k xs ys) /\ Chg (· = bx) w w' := by
 obtain ⟨kp, rfl⟩ := hK.parts;have HX := Lib.hid hX; clear hX;have HY := Lib.hid hY; clear hY;have HK := Lib.hid hK; clear hK;have HXL := Lib.hid hxL; clear hxL;have HYL := Lib.hid hyL; clear hyL;have Hl := Lib.hid hl; clear hl;go_enter Tryz.func108, Tryz.ntmps108;unfold av at *;go_wp2;have hb1 : Below w.heap.size w (w.alloc (.cells #[.bool kp.1, .slice kp.2.1 kp.2.2.1 kp.2.2.2] 45)) := (Below.refl _ _).alloc (Nat.le_refl _) _;have hr1 := RowAt.new w #[.bool kp.1, .slice kp.2.1 kp.2.2.1 kp.2.2.2] 45;generalize w.alloc (.cells #[.bool kp.1, .slice kp.2.1 kp.2.2.1 kp.2.2.2] 45) = w1 at *;have HB1 := Lib.hid (Chg.of_below (S := (· = bx)) hb1);have HX1 := Lib.hid (HX.out.below hb1);have HY1 := Lib.hid (HY.out.below hb1);have HK1 := Lib.hid (HK.out.below hb1);have HR1 := Lib.hid hr1;have hs1 : w.heap.size < w1.heap.size := hr1.lt;have hbx := HX.out.lt;have hby := HY.out.lt;clear hr1 hb1;go_loopw [9] (fun i wr => ∃ (m : Nat) (cu : List Int), m <= xs.length /\ i = .int .i64 (m : Int) /\ Hid (AddTo k xs ys cu m) /\ Hid (RowN wr bx cu) /\ Hid (RowN wr by_ ys) /\ Hid (RowAt wr w.heap.size 45 [.bool kp.1, .slice kp.2.1 kp.2.2.1 kp.2.2.2]) /\ Hid (IntAt wr LA (av kp) k) /\ Hid (Chg (· = bx) w wr)) (fun i _ => xs.length - (intOf i).toNat)
 case atStart => exact ⟨0, xs, Nat.zero_le _, rfl, AddTo.start .., HX1, HY1, HR1, HK1, HB1⟩
 case round =>
  obtain ⟨m, cu, hm, rfl, HA, hX, hY, hR, hK, hC⟩ := hrel;by_cases hml : m < xs.length
  · have hmy : m < ys.length := by have := Hl.out; omega
    have hmx : m < cu.length := by rw [HA.out.1]; exact hml
    have hm1 : (m : Int) < (ys.length : Int) := by omega
    have hm2 : (m : Int) < (xs.length : Int) := by omega
    obtain ⟨py, cy0, cy1, hny⟩ := hY.out.get hmy;have Hny := Lib.hid hny; clear hny;go_wp2_with fail
    refine (ISign_c (av py) ys[m] _ (Hny.out.int (by have := HYL.out _ (List.getElem_mem hmy); omega))).mono ?_;rintro e w2 ⟨rfl, hb2⟩;clear cy0 cy1;have X2 := Lib.hid (hX.out.below hb2);have Y2 := Lib.hid (hY.out.below hb2);have R2 := Lib.hid (hR.out.below hb2 hR.out.lt);have K2 := Lib.hid (hK.out.below hb2);have C2 := Lib.hid (hC.out.below hb2);have N2 := Lib.hid (Hny.out.below hb2);have hsw := hC.out.size;have hsw2 := hb2.size;have hswr := hR.out.lt;clear hX hY hR hK hC Hny hb2;by_cases h0 : ys[m] = 0
    · have hz0 : zsign ys[m] = 0 := zsign_beq.2 h0;rw [hz0];have H0 := Lib.hid h0;clear h0 hz0;go_wp2;go_roundw
      case rel => exact ⟨m + 1, cu, by omega, by go_num, HA.out.skip hml Hl.out H0.out, X2, Y2, R2, K2, C2⟩
      case measure => simp [intOf]; omega
    · have hn0 : ¬ zsign ys[m] = 0 := fun h => h0 (zsign_beq.1 h);obtain ⟨s, hs⟩ : ∃ s, zsign ys[m] = s := ⟨_, rfl⟩;rw [hs] at hn0 ⊢;have hb0 : (s != 0) = true := by simpa using hn0
      clear h0 hs;go_wp2;clear hb0 hn0;obtain ⟨px, cx0, cx1, hnx⟩ := X2.out.get hmx;obtain ⟨py, cy0, cy1, hny⟩ := Y2.out.get hmy;have ck0 : w2.cell? ⟨w.heap.size, 0, none⟩ = some (.bool kp.1) := R2.out.cell 0;have ck1 : w2.cell? ⟨w.heap.size, 1, none⟩ = some (.slice kp.2.1 kp.2.2.1 kp.2.2.2) := R2.out.cell 1;have hbx2 := X2.out.lt;have hby2 := Y2.out.lt;have hsk2 := R2.out.lt;have hxe : cu[m] = xs[m] := HA.out.2.2 m hmx hml (Nat.le_refl _);have hxw : wlen (cu[m]).natAbs <= 17592186044415 := by rw [hxe]; exact HXL.out _ (List.getElem_mem hml)
      have hyw : wlen (ys[m]).natAbs <= LB := HYL.out _ (List.getElem_mem hmy);have HXE := Lib.hid hxe; clear hxe;have Hnx := Lib.hid (hnx.int hxw); clear hnx;have Hny := Lib.hid (hny.int hyw); clear hny;clear N2;refine wp_region_K ⟨13, fun q_ => [18, 19, 20, 21, 22, 23, 24, 25, 26, 27, 28, 29, 30].getD q_ 0,
       fun q_ => [.val (.slice (some ⟨bx, 0, none⟩) xs.length cx), .val (.int .i64 (m : Int)), .val (.agg #[.bool kp.1, .slice kp.2.1 kp.2.2.1 kp.2.2.2]), .val (.slice (some ⟨by_, 0, none⟩) ys.length cy), .val (.int .i64 (m : Int)), .val (.pointer (some ⟨by_, m * 2, none⟩)), .val (.agg #[.bool py.1, .slice py.2.1 py.2.2.1 py.2.2.2]), .val (.slice (some ⟨bx, 0, none⟩) xs.length cx), .val (.int .i64 (m : Int)), .val (.pointer (some ⟨bx, m * 2, none⟩)), .val (.agg #[.bool px.1, .slice px.2.1 px.2.2.1 px.2.2.2]), .int 0 (k * ys[m] + cu[m]), .val (.pointer (some ⟨bx, m * 2, none⟩))].getD q_ .any,
       [],
       [(.agg #[.bool kp.1, .slice kp.2.1 kp.2.2.1 kp.2.2.2], .at_ LA k), (.agg #[.bool py.1, .slice py.2.1 py.2.2.1 py.2.2.2], .at_ LB ys[m]), (.agg #[.bool px.1, .slice px.2.1 px.2.2.1 px.2.2.2], .at_ 17592186044415 cu[m])],
       [],
       [], [(⟨w.heap.size, 0, none⟩, .bool kp.1), (⟨w.heap.size, 1, none⟩, .slice kp.2.1 kp.2.2.1 kp.2.2.2), (⟨by_, m * 2, none⟩, .bool py.1), (⟨by_, m * 2 + 1, none⟩, .slice py.2.1 py.2.2.1 py.2.2.2), (⟨bx, m * 2, none⟩, .bool px.1), (⟨bx, m * 2 + 1, none⟩, .slice px.2.1 px.2.2.1 px.2.2.2)], []⟩ [18, 19, 20, 21, 22, 23, 24, 25, 26, 27, 28, 29, 30] (w2.heap.size) (by kernel_rfl) (by kernel_rfl) (by kernel_rfl) (by kernel_rfl) (by kernel_rfl) ?_ ?_ ?_ ?_ ?_ ?_
      · intro p hp;rcases mc hp with rfl | hp
        · exact K2.out
        rcases mc hp with rfl | hp
        · exact Hny.out
        rcases mc hp with rfl | hp
        · exact Hnx.out
        cases hp
      · intro p hp;cases hp
      · intro p hp;rcases mc hp with rfl | hp
        · refine ⟨ck0, by show w.heap.size < w2.heap.size; omega, ?_⟩;intro t ht;cases ht
        rcases mc hp with rfl | hp
        · refine ⟨ck1, by show w.heap.size < w2.heap.size; omega, ?_⟩;intro t ht;cases ht
        rcases mc hp with rfl | hp
        · refine ⟨cy0, by show by_ < w2.heap.size; omega, ?_⟩;intro t ht;cases ht
        rcases mc hp with rfl | hp
        · refine ⟨cy1, by show by_ < w2.heap.size; omega, ?_⟩;intro t ht;cases ht
        rcases mc hp with rfl | hp
        · refine ⟨cx0, by show bx < w2.heap.size; omega, ?_⟩;intro t ht;cases ht
        rcases mc hp with rfl | hp
        · refine ⟨cx1, by show bx < w2.heap.size; omega, ?_⟩;intro t ht;cases ht
        cases hp
      · intro t ht;cases ht
      · refine allc ?_ (allc ?_ (allc ?_ (allc ?_ (allc ?_ (allc ?_ (allc ?_ (allc ?_ (allc ?_ (allc ?_ (allc ?_ (allc ?_ (allc ?_ alln))))))))))));any_goals (first | (intro L fx w' hJ hL hp hcl; have _ := hp0 hp (by decide +kernel); refine wps rfl fun K hK => ?_; go_simp; exact hJ.q hK (by kernel_rfl) rfl) | fail)
        · intro L fx w' hJ hL hp hcl;refine wps rfl fun K hK => ?_;have cl0 := (hJ.cells _ mm0).1;have cl1 := (hJ.cells _ mm1).1;try dsimp only at cl0 cl1
          go_simp;exact hJ.q hK (by kernel_rfl) rfl
        · intro L fx w' hJ hL hp hcl;have e3 := hJ.pt 3 21 (.slice (some ⟨by_, 0, none⟩) ys.length cy) rfl rfl rfl (hp 3 (by decide));rw [e3] at hJ ⊢; clear e3;have e4 := hJ.pt 4 22 (.int .i64 (m : Int)) rfl rfl rfl (hp 4 (by decide));rw [e4] at hJ ⊢; clear e4;refine wps rfl fun K hK => ?_;go_simp;exact hJ.q hK (by kernel_rfl) rfl
        · intro L fx w' hJ hL hp hcl;have e5 := hJ.pt 5 23 (.pointer (some ⟨by_, m * 2, none⟩)) rfl rfl rfl (hp 5 (by decide));rw [e5] at hJ ⊢; clear e5;refine wps rfl fun K hK => ?_;have cl0 := (hJ.cells _ mm2).1;have cl1 := (hJ.cells _ mm3).1;try dsimp only at cl0 cl1
          go_simp;exact hJ.q hK (by kernel_rfl) rfl
        · intro L fx w' hJ hL hp hcl;have e7 := hJ.pt 7 25 (.slice (some ⟨bx, 0, none⟩) xs.length cx) rfl rfl rfl (hp 7 (by decide));rw [e7] at hJ ⊢; clear e7;have e8 := hJ.pt 8 26 (.int .i64 (m : Int)) rfl rfl rfl (hp 8 (by decide));rw [e8] at hJ ⊢; clear e8;refine wps rfl fun K hK => ?_;go_simp;exact hJ.q hK (by kernel_rfl) rfl
        · intro L fx w' hJ hL hp hcl;have e9 := hJ.pt 9 27 (.pointer (some ⟨bx, m * 2, none⟩)) rfl rfl rfl (hp 9 (by decide));rw [e9] at hJ ⊢; clear e9;refine wps rfl fun K hK => ?_;have cl0 := (hJ.cells _ mm4).1;have cl1 := (hJ.cells _ mm5).1;try dsimp only at cl0 cl1
          go_simp;exact hJ.q hK (by kernel_rfl) rfl
        · intro L fx w' hJ hL hp hcl;have e2 := hJ.pt 2 20 (.agg #[.bool kp.1, .slice kp.2.1 kp.2.2.1 kp.2.2.2]) rfl rfl rfl (hp 2 (by decide));rw [e2] at hJ ⊢; clear e2;have e6 := hJ.pt 6 24 (.agg #[.bool py.1, .slice py.2.1 py.2.2.1 py.2.2.2]) rfl rfl rfl (hp 6 (by decide));rw [e6] at hJ ⊢; clear e6;have e10 := hJ.pt 10 28 (.agg #[.bool px.1, .slice px.2.1 px.2.2.1 px.2.2.2]) rfl rfl rfl (hp 10 (by decide));rw [e10] at hJ ⊢; clear e10;refine wps rfl fun K hK => ?_;go_simp;go_at_call 150;refine (IMulAdd_c _ _ _ k ys[m] cu[m] LA LB _ (show IntAt w' (LA) (.agg #[.bool kp.1, .slice kp.2.1 kp.2.2.1 kp.2.2.2]) (k) from hJ.base _ mm0) (show IntAt w' (LB) (.agg #[.bool py.1, .slice py.2.1 py.2.2.1 py.2.2.2]) (ys[m]) from hJ.base _ mm1) (show IntAt w' (17592186044415) (.agg #[.bool px.1, .slice px.2.1 px.2.2.1 px.2.2.2]) (cu[m]) from hJ.base _ mm2) hLab).mono ?_;rintro e w4 ⟨⟨v5, rfl, h5⟩, hb4⟩;try dsimp only
          exact hK _ _ ⟨_, by kernel_rfl, hJ.gC 11 rfl (by kernel_rfl) hb4 (OwnI.mono h5 (Nat.zero_le _)) (by omega)⟩
        · intro L fx w' hJ hL hp hcl;have e0 := hJ.pt 0 18 (.slice (some ⟨bx, 0, none⟩) xs.length cx) rfl rfl rfl (hp 0 (by decide));rw [e0] at hJ ⊢; clear e0;have e1 := hJ.pt 1 19 (.int .i64 (m : Int)) rfl rfl rfl (hp 1 (by decide));rw [e1] at hJ ⊢; clear e1;refine wps rfl fun K hK => ?_;go_simp;exact hJ.q hK (by kernel_rfl) rfl
      · intro L x' w3 hL hJ;have hfr : Below w2.drew.heap.size w2.drew w3 := hJ.fr;have e11 : OwnI w3 0 (x' 29) (k * ys[m] + cu[m]) := hJ.slot 11 (by show 11 < 13; decide) (hL 11 (by show 11 < 13; decide));have e12 : x' 30 = .pointer (some ⟨bx, m * 2, none⟩) := hJ.slot 12 (by show 12 < 13; decide) (hL 12 (by show 12 < 13; decide));obtain ⟨pz, hpz⟩ := NumAt.parts e11.num;rw [hpz] at e11;unfold av at hpz;rw [patchX (x := x') (d := 29) hpz];rw [patchX (x := updX x' 29 (.agg #[.bool pz.1, .slice pz.2.1 pz.2.2.1 pz.2.2.2])) (d := 30) (v := .pointer (some ⟨bx, m * 2, none⟩)) e12];clear hJ hL;have X3 := Lib.hid (RowN.below (w := w2.drew) X2.out hfr);have Y3 := Lib.hid (RowN.below (w := w2.drew) Y2.out hfr);have R3 := Lib.hid (RowAt.below (w := w2.drew) R2.out hfr R2.out.lt);have K3 := Lib.hid (IntAt.below (w := w2.drew) K2.out hfr);have C3 := Lib.hid (C2.out.drew.below hfr);obtain ⟨pq, q0, q1, _⟩ := X3.out.get hmx;have q2 := X3.out.free (m * 2);have q3 := X3.out.free (m * 2 + 1);refine wps rfl fun K hK => ?_;go_simp;refine hK _ _ ⟨⟨updX (updX x' 29 (.agg #[.bool pz.1, .slice pz.2.1 pz.2.2.1 pz.2.2.2])) 30 (.pointer (some ⟨bx, m * 2, none⟩)), by kernel_rfl⟩, ?_⟩;clear hK q0 q1 q2 q3;go_wp2;go_roundw
        case rel =>
         refine ⟨m + 1, _, by omega, by go_num, ?_, Lib.hid (X3.out.set m e11.num), Lib.hid (X3.out.keepRow Y3.out (fun e => hne e.symm) m pz), Lib.hid ((R3.out.other (by show w.heap.size ≠ bx; omega) _).other (by show w.heap.size ≠ bx; omega) _), Lib.hid (X3.out.keepInt K3.out m pz), Lib.hid ((C3.out.set rfl _).set rfl _)⟩;rw [HXE.out];exact HA.out.next hml Hl.out
        case measure => simp [intOf]; omega
  · obtain rfl : m = xs.length := by omega
    have he := HA.out.all Hl.out;have HE := Lib.hid he;clear he;go_wp2;refine bodyPost_end (results_none (by kernel_rfl) _ _ _) rfl ?_;rw [<- HE.out];exact ⟨rfl, hX.out, hC.out⟩
end Go.Proofs.YtknkkceioockjaaGreat
