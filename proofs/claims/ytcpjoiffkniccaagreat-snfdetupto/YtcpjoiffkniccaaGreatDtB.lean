/- Part 2 of 8 of the proof that the law SnfDet returns true for every input of bulk at most 1048576 and leaves its arguments as they were: here the contracts of the functions that it calls, and plain lemmas. -/
import Derived.Deep.RegionHeld3
import Derived.RegionTactic
import Derived.Test.YtcpjoiffkniccaaGreatDtA
set_option linter.all false
namespace Go.Proofs.YtcpjoiffkniccaaGreat
open Go.RowKit
set_option maxRecDepth 100000 in
set_option maxHeartbeats 2000000 in
theorem product_step (n : Nat) (IH : ProdSpec n) : ProdSpec (n + 1) := by
 intro aoA aoB lA cA lB cB xs ys w hA hB hlA hlB hcA hcB hn hm;subst hlA hlB;have hIH := Lib.hid IH; clear IH;have htA := tlen_le xs;have htB := tlen_le ys;have W1 := Lib.hid (hA.take (tlen xs));have W2 := Lib.hid (hB.take (tlen ys));have L1 : Hid ((xs.take (tlen xs)).length = tlen xs) := by rw [List.length_take, Nat.min_eq_left htA]; exact rfl
 have L2 : Hid ((ys.take (tlen ys)).length = tlen ys) := by rw [List.length_take, Nat.min_eq_left htB]; exact rfl
 have V1 : Hid (nval (xs.take (tlen xs)) = nval xs) := nval_take_tlen hA.ok;have V2 : Hid (nval (ys.take (tlen ys)) = nval ys) := nval_take_tlen hB.ok;go_enter Tryz.func40, Tryz.ntmps40
 go_upto_if 16 with (go_at_call 53; first | ((with_reducible refine (trim_c aoA _ _ xs _ hA rfl (by omega) hcA).mono ?_); rintro e w' ⟨rfl, rfl⟩) | ((with_reducible refine (trim_c aoB _ _ ys _ hB rfl (by omega) hcB).mono ?_); rintro e w' ⟨rfl, rfl⟩))
 go_cut [0, 1] (fun s0 s1 wc => ∃ (ao1 ao2 : Option Addr) (as_ bs : List Nat) (l1 l2 : Nat), s0 = .slice ao1 l1 l1 /\ s1 = .slice ao2 l2 l2 /\ WAt w ao1 as_ /\ WAt w ao2 bs /\ l2 <= l1 /\ Hid (l1 = as_.length) /\ Hid (l2 = bs.length) /\ Hid (l1 + l2 = tlen xs + tlen ys) /\ l1 + l2 < n + 1 /\ l1 + l2 <= 17592186044416 /\
  Hid (nval as_ * nval bs = nval xs * nval ys) /\ w = wc)
 case first =>
  by_cases hlt : tlen xs < tlen ys
  · have t1 : decide (((tlen xs : Nat) : Int) < ((tlen ys : Nat) : Int)) = true := by simp; omega
    go_wp2
    go_meet
    exact ⟨_, _, ys.take (tlen ys), xs.take (tlen xs), _, _, rfl, rfl, W2.out, W1.out, by omega, L2.out.symm, L1.out.symm, Lib.hid (by omega), by omega, by omega, Lib.hid (by rw [V1.out, V2.out, Nat.mul_comm]), rfl⟩
  · have t1 : decide (((tlen xs : Nat) : Int) < ((tlen ys : Nat) : Int)) = false := by simp; omega
    go_wp2
    go_meet
    exact ⟨_, _, xs.take (tlen xs), ys.take (tlen ys), _, _, rfl, rfl, W1.out, W2.out, by omega, L1.out.symm, L2.out.symm, Lib.hid rfl, by omega, by omega, Lib.hid (by rw [V1.out, V2.out]), rfl⟩
 case rest =>
  obtain ⟨ao1, ao2, as_, bs, l1, l2, rfl, rfl, h1, h2, hle, e1, e2, hsum, hn', hm', hprod, rfl⟩ := hcut;by_cases h24 : l2 < 24
  · have t1 : decide (((l2 : Nat) : Int) < 24) = true := by simp; omega
    go_wp2_with (first
     | (at_make; refine mk_words rfl _ _ rfl (l1 + l2) (l1 + l2) rfl rfl (by omega) (by omega) (Nat.le_refl _) (by omega) ?_; intro b w1 hm1)
     | (go_at_call 54; refine (rows_c _ _ b _ _ _ _ _ _ as_ bs _ hm1.row (h1.below hm1.below) (h2.below hm1.below) e1.out e2.out (by omega) rfl (h1.apart (Nat.le_of_eq hm1.at_.symm)) (h2.apart (Nat.le_of_eq hm1.at_.symm))).mono ?_; rintro e w2 ⟨rfl, cur', hR, hv⟩; have Hv := Lib.hid hv; clear hv))
    have hge : w.heap.size <= b := Nat.le_of_eq hm1.at_.symm;go_ret;refine ⟨b, cur', ?_, ⟨hR.row, hR.ok, hge, hR.below hm1.below hge hm1.below.size⟩, ?_, ?_⟩
    · rw [<- hsum.out]; rfl
    · rw [hR.len, List.length_replicate, hsum.out]
    · rw [Hv.out, hprod.out]
  · have t1 : decide (((l2 : Nat) : Int) < 24) = false := by simp; omega
    by_cases h2l : l1 < 2 * l2
    · have t2 : decide ((2 : Int) * ((l2 : Nat) : Int) <= ((l1 : Nat) : Int)) = false := by simp; omega
      go_wp2_with (first
       | (at_make; refine mk_words rfl _ _ rfl (l1 + l2) (l1 + l2) rfl rfl (by omega) (by omega) (Nat.le_refl _) (by omega) ?_; intro b w1 hm1)
       | (go_at_call 56; refine (halves_c n hIH.out _ _ b _ _ _ _ _ _ as_ bs _ hm1.row (h1.below hm1.below) (h2.below hm1.below) e1.out e2.out rfl rfl (by omega) rfl rfl (by omega) (by omega) (by omega) (by omega) (h1.apart (Nat.le_of_eq hm1.at_.symm)) (h2.apart (Nat.le_of_eq hm1.at_.symm))).mono ?_; rintro e w2 ⟨rfl, cur', hv, hr, hok, hlen, hg⟩; have Hv := Lib.hid hv; clear hv; have Hlen := Lib.hid hlen; clear hlen))
      have hge : w.heap.size <= b := Nat.le_of_eq hm1.at_.symm;go_ret;refine ⟨b, cur', ?_, ⟨hr, hok, hge, hm1.below.grown hg hm1.below.size (fun k e => by cases e; exact hge)⟩, ?_, ?_⟩
      · rw [<- hsum.out]; rfl
      · rw [Hlen.out, hsum.out]
      · rw [Hv.out, hprod.out]
    · have t2 : decide ((2 : Int) * ((l2 : Nat) : Int) <= ((l1 : Nat) : Int)) = true := by simp; omega
      go_wp2_with (first
       | (at_make; refine mk_words rfl _ _ rfl (l1 + l2) (l1 + l2) rfl rfl (by omega) (by omega) (Nat.le_refl _) (by omega) ?_; intro b w1 hm1))
      have hge : w.heap.size <= b := Nat.le_of_eq hm1.at_.symm;go_loopw [6] (fun i wr => ∃ (k q : Nat) (cu : List Nat), k = q * l2 /\ k < l1 + l2 /\ i = .int .i64 k /\ RowAt wr b 52 (cu.map wv) /\ Ok cu /\ cu.length = l1 + l2 /\ Below w.heap.size w wr /\ Hid (nval cu = nval (as_.take k) * nval bs)) (fun i _ => l1 + l2 - (intOf i).toNat)
      case atStart => exact ⟨0, 0, _, by omega, by omega, rfl, hm1.row, Ok.replicate _, by simp, hm1.below, Lib.hid (by rw [nval_replicate]; simp [nval])⟩
      case round =>
       obtain ⟨k, q, cu, hkq, hk, rfl, hrow, hok, hlen, hb, He⟩ := hrel;have Hkq := Lib.hid hkq; clear hkq;have Hlen := Lib.hid hlen; clear hlen;by_cases hlt : k < l1
       · obtain ⟨b1, o1, rfl, hb1, _⟩ := h1.pos (by have := e1.out; omega);obtain ⟨en, hen⟩ : ∃ en, en = min (k + l2) l1 := ⟨_, rfl⟩;have hmin : min ((k : Int) + (l2 : Int)) (l1 : Int) = (en : Int) := by omega
         have b1' : k < en := by omega
         have b2' : en <= l1 := by omega
         have b3' : en - k <= l2 := by omega
         have b4' : en = k + l2 ∨ en = l1 := by omega
         have Hen := Lib.hid b4'; clear b4' hen;have b5 : ¬ (en = k) := by omega
         have b6 : ¬ (l1 + l2 = k) := by omega
         have b7 : (en : Int) <= (l1 : Int) := by omega
         have b8 : (k : Int) <= (en : Int) := by omega
         have b9 : (k : Int) <= (l1 : Int) + (l2 : Int) := by omega
         have S1 : Hid (WAt wr (some ⟨b1, o1 + k, none⟩) ((as_.drop k).take (en - k))) := ((h1.below hb).drop k).take _;have S1l : Hid (((as_.drop k).take (en - k)).length = en - k) := by unfold Hid; rw [List.length_take, List.length_drop]; have := e1.out; omega
         have S2 : Hid (WAt wr ao2 bs) := h2.below hb;have t3 := tlen_le ((as_.drop k).take (en - k));rw [S1l.out] at t3;have t4 := tlen_le bs;rw [<- e2.out] at t4;have hbw : b < wr.heap.size := hrow.lt;have Hrow := Lib.hid hrow; clear hrow;go_wp2
         go_region_held3 (fun _ => True) (trivial)
          (first
           | (go_at_call 40; refine (hIH.out _ _ _ _ _ _ ((as_.drop k).take (en - k)) bs _ (by exact S1.out) (by exact S2.out) S1l.out.symm e2.out (Nat.le_refl _) (Nat.le_refl _) (by omega) (by omega)).mono ?_; rintro e w3 ⟨b3, z3, rfl, hN3, hl3, hv3⟩; have Hl3 := Lib.hid hl3; clear hl3; have Hv3 := Lib.hid hv3; clear hv3)
           | (go_at_call 53; refine (trim_c _ _ _ z3 _ (hN3.row.wat hN3.ok) Hl3.out.symm (by omega) (Nat.le_refl _)).mono ?_; rintro e w4 ⟨rfl, rfl⟩)
           | (go_at_call 55; have hr3 : RowAt w3 b 52 (cu.map wv) := RowAt.below (w := wr.drew) Hrow.out hN3.below hbw; have n3b : b3 ≠ b := (by have h : wr.heap.size <= b3 := hN3.ge; omega); have t5 := tlen_le z3; have t6 := Hl3.out; refine (addTo_c _ _ b k _ _ _ _ (z3.take (tlen z3)) cu _ hr3 hok (.inr rfl) (by have := Hlen.out; omega) ((hN3.row.wat hN3.ok).take _) (fun _ a ha => by cases ha; exact n3b) (by rw [List.length_take]; omega) (by omega) (by have := Hlen.out; omega)).mono ?_; rintro e w5 ⟨rfl, c5, cr, hR5, hcr, hs5, he5⟩; have Hs5 := Lib.hid hs5; clear hs5; have He5 := Lib.hid he5; clear he5))
         go_wp2;go_roundw
         case rel =>
          have hx : sv as_ 0 en = sv as_ 0 k + W ^ k * sv as_ k (en - k) := by
           have := sv_add as_ 0 k (en - k);rw [Nat.zero_add] at this;rw [<- this]; congr 1; omega
          rw [sv_take, sv_take] at hx;have hx2 : nval (as_.take (k + l2)) = nval (as_.take en) := by
           rcases Hen.out with h | h
           · rw [h]
           · rw [List.take_of_length_le (by have := e1.out; omega), List.take_of_length_le (by have := e1.out; omega)]
          have ht := addTo_total (o := k) (lz := l1 + l2 - k) (by have := Hlen.out; omega) (by have := Hlen.out; have := hR5.len; omega) Hs5.out He5.out;have n1 : k + (l1 + l2 - k) = l1 + l2 := by omega
          have hz : nval (z3.take (tlen z3)) = sv as_ k (en - k) * nval bs := by rw [nval_take_tlen hN3.ok, Hv3.out]; rfl
          have hlt' : nval (as_.take en) * nval bs < W ^ (l1 + l2) := by
           rw [Nat.pow_add];have q1 := nval_lt (h1.ok.take en);have q2 := nval_lt h2.ok;rw [<- e2.out] at q2;refine Nat.mul_lt_mul_of_le_of_lt (Nat.le_trans (Nat.le_of_lt q1) (Nat.pow_le_pow_right W_pos ?_)) q2 (Nat.pow_pos W_pos);rw [List.length_take]; omega
          rw [n1, He.out, hz] at ht;have hs : nval (as_.take en) * nval bs = nval (as_.take k) * nval bs + W ^ k * (sv as_ k (en - k) * nval bs) := by rw [hx, Nat.add_mul, Nat.mul_assoc]
          rw [<- hs] at ht;have hc0 := cr_zero ht hlt';rw [hc0, Nat.mul_zero, Nat.add_zero] at ht;have hb5 : Below w.heap.size w w5 := hR5.below (hb.drew.trans (hN3.below.mono hb.size)) hge (by have := hN3.below.size; have h : wr.drew.heap.size = wr.heap.size := rfl; have := hb.size; omega);exact ⟨k + l2, q + 1, c5, by have := Hkq.out; rw [Nat.add_mul, Nat.one_mul]; omega, by omega, by go_num, hR5.row, hR5.ok, by rw [hR5.len, Hlen.out], hb5, Lib.hid (by rw [hx2]; exact ht)⟩
         case measure => simp [intOf]; omega
       · go_wp2;go_ret;refine ⟨b, cu, ?_, ⟨hrow, hok, hge, hb⟩, ?_, ?_⟩
         · rw [<- hsum.out]; rfl
         · rw [Hlen.out, hsum.out]
         · rw [He.out, List.take_of_length_le (by have := e1.out; omega), hprod.out]
theorem product_all (n : Nat) : ProdSpec n := by
 induction n with
 | zero =>
  intro aoA aoB lA cA lB cB xs ys w hA hB hlA hlB hcA hcB hn hm;omega
 | succ n ih => exact product_step n ih
set_option maxHeartbeats 1000000 in
theorem MulN_c (aoA aoB : Option Addr) (lA cA lB cB : Nat) (xs ys : List Nat) (w : World) (hA : WAt w aoA xs) (hB : WAt w aoB ys) (hlA : lA = xs.length) (hlB : lB = ys.length) (hcA : lA <= cA) (hcB : lB <= cB) (hm : lA + lB <= 17592186044416) :
 Calls Tryz.prog 22 #[.slice aoA lA cA, .slice aoB lB cB] w fun e w' =>
  (∃ ao' cap', e = .returned (.slice ao' (wlen (nval xs * nval ys)) cap') /\ OwnW w' w.heap.size ao' (wlen (nval xs * nval ys)) cap' (dig (nval xs * nval ys))) /\ Below w.heap.size w w' := by
 subst hlA hlB;have t1 := tlen_le xs;have t2 := tlen_le ys;go_enter Tryz.func22, Tryz.ntmps22;go_wp2_with (first
  | (go_at_call 40; refine (product_all _ _ _ _ _ _ _ xs ys _ hA hB rfl rfl hcA hcB (Nat.lt_succ_self _) hm).mono ?_; rintro e w1 ⟨b, zs, rfl, hN, hl, hv⟩; have Hl := Lib.hid hl; clear hl; have Hv := Lib.hid hv; clear hv)
  | (go_at_call 20; refine (Least_c _ _ _ zs _ (hN.row.wat hN.ok) Hl.out.symm (by omega)).mono ?_; rintro e w2 ⟨⟨ao', cap', rfl, h1⟩, h2⟩))
 go_ret;rw [Hv.out] at h1 ⊢;exact ⟨⟨_, _, rfl, h1.mono hN.below.size⟩, hN.below.trans (h2.mono hN.below.size)⟩
theorem three_new (w : World) (c1 c2 c3 : Array Value) (t1 t2 t3 : TypeId) : RowAt (((w.alloc (.cells c1 t1)).alloc (.cells c2 t2)).alloc (.cells c3 t3)) w.heap.size t1 c1.toList /\ RowAt (((w.alloc (.cells c1 t1)).alloc (.cells c2 t2)).alloc (.cells c3 t3)) (w.heap.size + 1) t2 c2.toList /\
 RowAt (((w.alloc (.cells c1 t1)).alloc (.cells c2 t2)).alloc (.cells c3 t3)) (w.heap.size + 2) t3 c3.toList /\
 Below w.heap.size w (((w.alloc (.cells c1 t1)).alloc (.cells c2 t2)).alloc (.cells c3 t3)) := by
 obtain ⟨h1, h2, h3⟩ := two_new w c1 c2 t1 t2;have e : ((w.alloc (.cells c1 t1)).alloc (.cells c2 t2)).heap.size = w.heap.size + 2 := by simp
 refine ⟨h1.alloc _, h2.alloc _, ?_, h3.alloc (by omega) _⟩;have := RowAt.new ((w.alloc (.cells c1 t1)).alloc (.cells c2 t2)) c3 t3
 rwa [e] at this
theorem OwnI.setOther {w : World} {B : Nat} {v : Value} {x : Int} (h : OwnI w B v x) {p : Addr} (hp : p.block < B) (u : Value) : OwnI (w.setCell p u) B v x := by
 obtain ⟨ao, cap, rfl, hO⟩ := h;exact ⟨ao, cap, rfl, hO.setOther hp u⟩
theorem OwnI.done {w w4 : World} {r B : Nat} {v a b : Value} {x : Int} (h : OwnI w4 (r + 1) v x) (hB : B <= r) (hb : Below B w w4) :
 (∃ v', Ending.returned v = .returned v' /\ OwnI ((w4.setCell ⟨r, 0, none⟩ a).setCell ⟨r, 1, none⟩ b) B v' x) /\ Below B w ((w4.setCell ⟨r, 0, none⟩ a).setCell ⟨r, 1, none⟩ b) :=
 ⟨⟨v, rfl, ((h.setOther (p := ⟨r, 0, none⟩) (Nat.lt_succ_self _) a).setOther (p := ⟨r, 1, none⟩) (Nat.lt_succ_self _) b).mono (Nat.le_succ_of_le hB)⟩, (hb.setCell (p := ⟨r, 0, none⟩) hB a).setCell (p := ⟨r, 1, none⟩) hB b⟩
theorem zi_not (n : Bool) (m : Nat) : zi (!n) m = -zi n m := by cases n <;> simp [zi]
theorem zi_mul (a b : Bool) (m n : Nat) : zi (a != b) (m * n) = zi a m * zi b n := by
 cases a <;> cases b <;> simp [zi, Int.natCast_mul, Int.neg_mul, Int.mul_neg]
set_option maxRecDepth 100000 in
set_option maxHeartbeats 1000000 in
theorem INeg_c (v : Value) (x : Int) (w : World) (hA : IntAt w 17592186044415 v x) :
 Calls Tryz.prog 28 #[v] w fun e w' => (∃ v', e = .returned v' /\ OwnI w' w.heap.size v' (-x)) /\ Below w.heap.size w w' := by
 obtain ⟨n, ao, len, cap, ws, rfl, hW, hl, hL, hc, hx⟩ := hA;have Hx := Lib.hid hx; clear hx;have Hl := Lib.hid hl; clear hl;go_enter Tryz.func28, Tryz.ntmps28;go_wp2;obtain ⟨r1, r2, hb⟩ := two_new w #[.bool n, .slice ao len cap] #[.bool false, .slice none 0 0] 33 33;have hW2 := hW.below hb;generalize (w.alloc (.cells #[.bool n, .slice ao len cap] 33)).alloc (.cells #[.bool false, .slice none 0 0] 33) = w2 at *;have e1 : w2.cell? ⟨w.heap.size, 0, none⟩ = some (.bool n) := r1.cell 0;have e2 : w2.cell? ⟨w.heap.size, 1, none⟩ = some (.slice ao len cap) := r1.cell 1;have hb1 := r1.lt;have hb2 := r2.lt;have Hr2 := Lib.hid r2;have HW2 := Lib.hid hW2;clear r1 r2 hW2
 go_region_held3 (fun w' => w'.cell? ⟨w.heap.size, 0, none⟩ = some (.bool n) /\ w'.cell? ⟨w.heap.size, 1, none⟩ = some (.slice ao len cap))
  (first | exact ⟨e1, e2⟩ | exact ⟨(hb3.cell hb1).trans e1, (hb3.cell hb1).trans e2⟩ | exact ⟨(hb5.cell (Nat.lt_succ_self _)).trans e1, (hb5.cell (Nat.lt_succ_self _)).trans e2⟩ | exact ⟨(((hb5.setCell (Nat.le_refl _) _).setCell (Nat.le_refl _) _).cell (Nat.lt_succ_self _)).trans e1, (((hb5.setCell (Nat.le_refl _) _).setCell (Nat.le_refl _) _).cell (Nat.lt_succ_self _)).trans e2⟩)
  (first
   | (go_at_call 20; refine (Least_c _ _ _ ws _ (by exact HW2.out) Hl.out (by omega)).mono ?_; rintro e w3 ⟨⟨ao', cap', rfl, hO⟩, hb3⟩)
   | (go_at_call 19; refine (of_c (!n) _ _ _ _).mono ?_; rintro e w4 ⟨rfl, hb4⟩; have hb5 : Below (w.heap.size + 1) w2.drew w4 := (hb3.trans (hb4.mono hb3.size)).mono (Nat.le_of_lt hb2); have hr4 := (RowAt.below (w := w2.drew) Hr2.out hb3 hb2).below hb4 (Nat.lt_of_lt_of_le hb2 hb3.size); have hf0 := hr4.free 0; have hf1 := hr4.free 1; have hc0 := hr4.cell 0; have hc1 := hr4.cell 1))
 go_wp2;have hr5 := hr4.set2 (.bool (!n && decide (0 < wlen (nval ws)))) (.slice ao' (wlen (nval ws)) cap');have hs2 : w.heap.size <= w2.heap.size := by omega
 have hbf : Below w.heap.size w w4 := (hb.drew.trans (hb3.mono hs2)).trans (hb4.mono (Nat.le_trans hs2 hb3.size));refine bodyPost_ret (results_int (p := 2) (by kernel_rfl) _ _ (w.heap.size + 1) _ _ rfl hr5) rfl ?_;have hO' := (hO.mono (B' := w.heap.size + 2) (by show w.heap.size + 2 <= w2.heap.size; omega)).below hb4;have hI := OwnI.mk (!n) hO';rw [Hx.out];rw [zi_not] at hI;exact OwnI.done hI (Nat.le_succ _) hbf
set_option maxRecDepth 100000 in
set_option maxHeartbeats 1000000 in
theorem IAbs_c (v : Value) (x : Int) (w : World) (hA : IntAt w 17592186044415 v x) :
 Calls Tryz.prog 13 #[v] w fun e w' => (∃ v', e = .returned v' /\ OwnI w' w.heap.size v' ((x.natAbs : Nat) : Int)) /\ Below w.heap.size w w' := by
 obtain ⟨n, ao, len, cap, ws, rfl, hW, hl, hL, hc, hx⟩ := hA;have Hx := Lib.hid hx; clear hx;have Hl := Lib.hid hl; clear hl;go_enter Tryz.func13, Tryz.ntmps13;go_wp2_with fail
 obtain ⟨r1, r2, hb⟩ := two_new w #[.bool n, .slice ao len cap] #[.bool false, .slice none 0 0] 33 33;have hW2 := hW.below hb;generalize (w.alloc (.cells #[.bool n, .slice ao len cap] 33)).alloc (.cells #[.bool false, .slice none 0 0] 33) = w2 at *;have hb2 := r2.lt;refine (Least_c _ _ _ ws _ hW2 Hl.out (by omega)).mono ?_;rintro e w3 ⟨⟨ao', cap', rfl, hO⟩, hb3⟩;go_wp2_with fail
 refine (of_c false _ _ _ _).mono ?_;rintro e w4 ⟨rfl, hb4⟩;have hr4 := (r2.below hb3 hb2).below hb4 (Nat.lt_of_lt_of_le hb2 hb3.size);have hf0 := hr4.free 0;have hf1 := hr4.free 1;have hc0 := hr4.cell 0;have hc1 := hr4.cell 1;clear r1 r2;go_wp2;have hr5 := hr4.set2 (.bool false) (.slice ao' (wlen (nval ws)) cap');have hs2 : w.heap.size <= w2.heap.size := by omega
 have hbf : Below w.heap.size w w4 := (hb.trans (hb3.mono hs2)).trans (hb4.mono (Nat.le_trans hs2 hb3.size));refine bodyPost_ret (results_int (p := 2) (by kernel_rfl) _ _ (w.heap.size + 1) _ _ rfl hr5) rfl ?_;have hO' := (hO.mono (B' := w.heap.size + 2) (by show w.heap.size + 2 <= w2.heap.size; omega)).below hb4;have hI := OwnI.mk false hO';rw [Hx.out, zi_abs];exact OwnI.done hI (Nat.le_succ _) hbf
set_option maxRecDepth 100000 in
set_option maxHeartbeats 1000000 in
theorem IMul_c (v u : Value) (x y : Int) (LA LB : Nat) (w : World) (hA : IntAt w LA v x) (hB : IntAt w LB u y) (hL : LA + LB <= 17592186044415) :
 Calls Tryz.prog 9 #[v, u] w fun e w' => (∃ v', e = .returned v' /\ OwnI w' w.heap.size v' (x * y)) /\ Below w.heap.size w w' := by
 obtain ⟨n, ao, len, cap, ws, rfl, hW, hl, hL1, hc, hx⟩ := hA;obtain ⟨n2, ao2, len2, cap2, ws2, rfl, hW2, hl2, hL2, hc2, hx2⟩ := hB;have Hx := Lib.hid hx; clear hx;have Hl := Lib.hid hl; clear hl;have Hx2 := Lib.hid hx2; clear hx2;have Hl2 := Lib.hid hl2; clear hl2;go_enter Tryz.func9, Tryz.ntmps9;go_wp2;obtain ⟨r1, r2, r3, hb⟩ := three_new w #[.bool n, .slice ao len cap] #[.bool n2, .slice ao2 len2 cap2] #[.bool false, .slice none 0 0] 33 33 33;have hW' := hW.below hb;have hW2' := hW2.below hb;generalize ((w.alloc (.cells #[.bool n, .slice ao len cap] 33)).alloc (.cells #[.bool n2, .slice ao2 len2 cap2] 33)).alloc (.cells #[.bool false, .slice none 0 0] 33) = w2 at *;have e1 : w2.cell? ⟨w.heap.size, 0, none⟩ = some (.bool n) := r1.cell 0;have e2 : w2.cell? ⟨w.heap.size, 1, none⟩ = some (.slice ao len cap) := r1.cell 1;have e3 : w2.cell? ⟨w.heap.size + 1, 0, none⟩ = some (.bool n2) := r2.cell 0;have e4 : w2.cell? ⟨w.heap.size + 1, 1, none⟩ = some (.slice ao2 len2 cap2) := r2.cell 1;have hb2 := r3.lt;have k0 : w.heap.size < w.heap.size + 2 := by omega
 have k1 : w.heap.size + 1 < w.heap.size + 2 := by omega
 have Hr3 := Lib.hid r3;have HW := Lib.hid hW';have HW2 := Lib.hid hW2';clear r1 r2 r3 hW' hW2'
 go_region_held3 (fun w' => w'.cell? ⟨w.heap.size, 0, none⟩ = some (.bool n) /\ w'.cell? ⟨w.heap.size, 1, none⟩ = some (.slice ao len cap) /\ w'.cell? ⟨w.heap.size + 1, 0, none⟩ = some (.bool n2) /\ w'.cell? ⟨w.heap.size + 1, 1, none⟩ = some (.slice ao2 len2 cap2))
  (first
   | exact ⟨e1, e2, e3, e4⟩
   | exact ⟨(hb3'.cell k0).trans e1, (hb3'.cell k0).trans e2, (hb3'.cell k1).trans e3, (hb3'.cell k1).trans e4⟩
   | exact ⟨(hb5.cell k0).trans e1, (hb5.cell k0).trans e2, (hb5.cell k1).trans e3, (hb5.cell k1).trans e4⟩
   | exact ⟨(((hb5.setCell (Nat.le_refl _) _).setCell (Nat.le_refl _) _).cell k0).trans e1, (((hb5.setCell (Nat.le_refl _) _).setCell (Nat.le_refl _) _).cell k0).trans e2, (((hb5.setCell (Nat.le_refl _) _).setCell (Nat.le_refl _) _).cell k1).trans e3, (((hb5.setCell (Nat.le_refl _) _).setCell (Nat.le_refl _) _).cell k1).trans e4⟩)
  (first
   | (go_at_call 22; refine (MulN_c _ _ _ _ _ _ ws ws2 _ (by exact HW.out) (by exact HW2.out) Hl.out Hl2.out hc hc2 (by omega)).mono ?_; rintro e w3 ⟨⟨ao', cap', rfl, hO⟩, hb3⟩; have hb3' : Below (w.heap.size + 2) w2.drew w3 := hb3.mono (Nat.le_of_lt hb2))
   | (go_at_call 19; refine (of_c (n != n2) _ _ _ _).mono ?_; rintro e w4 ⟨rfl, hb4⟩; have hb5 : Below (w.heap.size + 2) w2.drew w4 := (hb3.trans (hb4.mono hb3.size)).mono (Nat.le_of_lt hb2); have hr4 := (RowAt.below (w := w2.drew) Hr3.out hb3 hb2).below hb4 (Nat.lt_of_lt_of_le hb2 hb3.size); have hf0 := hr4.free 0; have hf1 := hr4.free 1; have hc0 := hr4.cell 0; have hc1 := hr4.cell 1))
 go_wp2;have hr5 := hr4.set2 (.bool ((n != n2) && decide (0 < wlen (nval ws * nval ws2)))) (.slice ao' (wlen (nval ws * nval ws2)) cap');have hs2 : w.heap.size <= w2.heap.size := by omega
 have hbf : Below w.heap.size w w4 := (hb.drew.trans (hb3.mono hs2)).trans (hb4.mono (Nat.le_trans hs2 hb3.size));refine bodyPost_ret (results_int (p := 4) (by kernel_rfl) _ _ (w.heap.size + 2) _ _ rfl hr5) rfl ?_;have hO' := (hO.mono (B' := w.heap.size + 3) (by show w.heap.size + 3 <= w2.heap.size; omega)).below hb4;have hI := OwnI.mk (n != n2) hO';rw [zi_mul] at hI;rw [Hx.out, Hx2.out];exact OwnI.done hI (by omega) hbf
theorem zi_add (n : Bool) (a b : Nat) : zi n (a + b) = zi n a + zi n b := by cases n <;> simp [zi] <;> omega
theorem zi_subR {n n2 : Bool} (h : n ≠ n2) {a b : Nat} (hle : b <= a) : zi n (a - b) = zi n a + zi n2 b := by
 cases n <;> cases n2 <;> simp [zi] at h ⊢ <;> omega
theorem zi_subL {n n2 : Bool} (h : n ≠ n2) {a b : Nat} (hle : a <= b) : zi n2 (b - a) = zi n a + zi n2 b := by
 cases n <;> cases n2 <;> simp [zi] at h ⊢ <;> omega
set_option maxRecDepth 100000 in
set_option maxHeartbeats 1000000 in
theorem IAdd_c (v u : Value) (x y : Int) (w : World) (hA : IntAt w 17592186044415 v x) (hB : IntAt w 17592186044415 u y) :
 Calls Tryz.prog 62 #[v, u] w fun e w' => (∃ v', e = .returned v' /\ OwnI w' w.heap.size v' (x + y)) /\ Below w.heap.size w w' := by
 obtain ⟨n, ao, len, cap, ws, rfl, hW, hl, hL1, hc, hx⟩ := hA;obtain ⟨n2, ao2, len2, cap2, ws2, rfl, hW2, hl2, hL2, hc2, hx2⟩ := hB;have Hx := Lib.hid hx; clear hx;have Hl := Lib.hid hl; clear hl;have Hx2 := Lib.hid hx2; clear hx2;have Hl2 := Lib.hid hl2; clear hl2;go_enter Tryz.func62, Tryz.ntmps62;by_cases hne : n = n2
 · subst hne;go_wp2;obtain ⟨r1, r2, r3, hb⟩ := three_new w #[.bool n, .slice ao len cap] #[.bool n, .slice ao2 len2 cap2] #[.bool false, .slice none 0 0] 33 33 33;have hW' := hW.below hb;have hW2' := hW2.below hb;generalize ((w.alloc (.cells #[.bool n, .slice ao len cap] 33)).alloc (.cells #[.bool n, .slice ao2 len2 cap2] 33)).alloc (.cells #[.bool false, .slice none 0 0] 33) = w2 at *;have e1 : w2.cell? ⟨w.heap.size, 0, none⟩ = some (.bool n) := r1.cell 0;have e2 : w2.cell? ⟨w.heap.size, 1, none⟩ = some (.slice ao len cap) := r1.cell 1;have e4 : w2.cell? ⟨w.heap.size + 1, 1, none⟩ = some (.slice ao2 len2 cap2) := r2.cell 1;have hb2 := r3.lt;have k0 : w.heap.size < w.heap.size + 2 := by omega
   have k1 : w.heap.size + 1 < w.heap.size + 2 := by omega
   have Hr3 := Lib.hid r3;have HW := Lib.hid hW';have HW2 := Lib.hid hW2';clear r1 r2 r3 hW' hW2'
   go_region_held3 (fun w' => w'.cell? ⟨w.heap.size, 0, none⟩ = some (.bool n) /\ w'.cell? ⟨w.heap.size, 1, none⟩ = some (.slice ao len cap) /\ w'.cell? ⟨w.heap.size + 1, 1, none⟩ = some (.slice ao2 len2 cap2))
    (first
     | exact ⟨e1, e2, e4⟩
     | exact ⟨(hb3'.cell k0).trans e1, (hb3'.cell k0).trans e2, (hb3'.cell k1).trans e4⟩
     | exact ⟨(hb5.cell k0).trans e1, (hb5.cell k0).trans e2, (hb5.cell k1).trans e4⟩
     | exact ⟨(((hb5.setCell (Nat.le_refl _) _).setCell (Nat.le_refl _) _).cell k0).trans e1, (((hb5.setCell (Nat.le_refl _) _).setCell (Nat.le_refl _) _).cell k0).trans e2, (((hb5.setCell (Nat.le_refl _) _).setCell (Nat.le_refl _) _).cell k1).trans e4⟩)
    (first
     | (go_at_call 74; refine (Add_c _ _ _ _ _ _ ws ws2 _ (by exact HW.out) (by exact HW2.out) Hl.out Hl2.out (by omega) (by omega)).mono ?_; rintro e w3 ⟨⟨ao', cap', rfl, hO⟩, hb3⟩; have hb3' : Below (w.heap.size + 2) w2.drew w3 := hb3.mono (Nat.le_of_lt hb2))
     | (go_at_call 19; refine (of_c n _ _ _ _).mono ?_; rintro e w4 ⟨rfl, hb4⟩; have hb5 : Below (w.heap.size + 2) w2.drew w4 := (hb3.trans (hb4.mono hb3.size)).mono (Nat.le_of_lt hb2); have hr4 := (RowAt.below (w := w2.drew) Hr3.out hb3 hb2).below hb4 (Nat.lt_of_lt_of_le hb2 hb3.size); have hf0 := hr4.free 0; have hf1 := hr4.free 1; have hc0 := hr4.cell 0; have hc1 := hr4.cell 1))
   go_wp2;have hr5 := hr4.set2 (.bool (n && decide (0 < wlen (nval ws + nval ws2)))) (.slice ao' (wlen (nval ws + nval ws2)) cap');have hs2 : w.heap.size <= w2.heap.size := by omega
   have hbf : Below w.heap.size w w4 := (hb.drew.trans (hb3.mono hs2)).trans (hb4.mono (Nat.le_trans hs2 hb3.size));refine bodyPost_ret (results_int (p := 4) (by kernel_rfl) _ _ (w.heap.size + 2) _ _ rfl hr5) rfl ?_;have hO' := (hO.mono (B' := w.heap.size + 3) (by show w.heap.size + 3 <= w2.heap.size; omega)).below hb4;have hI := OwnI.mk n hO';rw [zi_add] at hI;rw [Hx.out, Hx2.out];exact OwnI.done hI (by omega) hbf
 · have hnb : (n == n2) = false := by simpa using hne
   go_wp2_with fail
   obtain ⟨r1, r2, r3, hb⟩ := three_new w #[.bool n, .slice ao len cap] #[.bool n2, .slice ao2 len2 cap2] #[.bool false, .slice none 0 0] 33 33 33;generalize ((w.alloc (.cells #[.bool n, .slice ao len cap] 33)).alloc (.cells #[.bool n2, .slice ao2 len2 cap2] 33)).alloc (.cells #[.bool false, .slice none 0 0] 33) = w2 at *;refine (Cmp_c _ _ _ _ _ _ ws ws2 _ (hW.below hb) (hW2.below hb) Hl.out Hl2.out (by omega) (by omega)).mono ?_;rintro e w3 ⟨rfl, hb3⟩;have R1 := r1.below hb3 r1.lt;have R2 := r2.below hb3 r2.lt;have R3 := r3.below hb3 r3.lt;have HB : Below w.heap.size w w3 := hb.trans (hb3.mono hb.size);clear r1 r2 r3;have e1 : w3.cell? ⟨w.heap.size, 0, none⟩ = some (.bool n) := R1.cell 0;have e2 : w3.cell? ⟨w.heap.size, 1, none⟩ = some (.slice ao len cap) := R1.cell 1;have e3 : w3.cell? ⟨w.heap.size + 1, 0, none⟩ = some (.bool n2) := R2.cell 0;have e4 : w3.cell? ⟨w.heap.size + 1, 1, none⟩ = some (.slice ao2 len2 cap2) := R2.cell 1;by_cases hlt : nval ws < nval ws2
   · rw [ncmp_lt hlt];have HlE := Lib.hid (Nat.le_of_lt hlt); clear hlt;have g1 := R1.free 0;have g2 := R1.free 1;have g3 := R2.free 0;have g4 := R2.free 1;go_wp2_with fail
     have S1 := ((R1.set2 (.bool n2) (.slice ao2 len2 cap2)).other (p := ⟨w.heap.size + 1, 0, none⟩) (by show w.heap.size ≠ w.heap.size + 1; omega) (.bool n)).other (p := ⟨w.heap.size + 1, 1, none⟩) (by show w.heap.size ≠ w.heap.size + 1; omega) (.slice ao len cap);have S2 := (((R2.other (p := ⟨w.heap.size, 0, none⟩) (by show w.heap.size + 1 ≠ w.heap.size; omega) (.bool n2)).other (p := ⟨w.heap.size, 1, none⟩) (by show w.heap.size + 1 ≠ w.heap.size; omega) (.slice ao2 len2 cap2))).set2 (.bool n) (.slice ao len cap);have S3 := (((R3.other (p := ⟨w.heap.size, 0, none⟩) (by show w.heap.size + 2 ≠ w.heap.size; omega) (.bool n2)).other (p := ⟨w.heap.size, 1, none⟩) (by show w.heap.size + 2 ≠ w.heap.size; omega) (.slice ao2 len2 cap2)).other (p := ⟨w.heap.size + 1, 0, none⟩) (by show w.heap.size + 2 ≠ w.heap.size + 1; omega) (.bool n)).other (p := ⟨w.heap.size + 1, 1, none⟩) (by show w.heap.size + 2 ≠ w.heap.size + 1; omega) (.slice ao len cap);have SB := (((HB.setCell (p := ⟨w.heap.size, 0, none⟩) (Nat.le_refl _) (.bool n2)).setCell (p := ⟨w.heap.size, 1, none⟩) (Nat.le_refl _) (.slice ao2 len2 cap2)).setCell (p := ⟨w.heap.size + 1, 0, none⟩) (Nat.le_succ _) (.bool n)).setCell (p := ⟨w.heap.size + 1, 1, none⟩) (Nat.le_succ _) (.slice ao len cap);clear R1 R2 R3 HB e1 e2 e3 e4 g1 g2 g3 g4 hb3;generalize (((w3.setCell ⟨w.heap.size, 0, none⟩ (.bool n2)).setCell ⟨w.heap.size, 1, none⟩ (.slice ao2 len2 cap2)).setCell ⟨w.heap.size + 1, 0, none⟩ (.bool n)).setCell ⟨w.heap.size + 1, 1, none⟩ (.slice ao len cap) = w3' at *;clear w3;obtain ⟨w3, rfl⟩ : ∃ w3 : World, w3 = w3' := ⟨_, rfl⟩;have R1 := S1;have R2 := S2;have R3 := S3;have HB := SB;clear S1 S2 S3 SB;refine (Sub_c _ _ _ _ _ _ ws2 ws _ (hW2.below HB) (hW.below HB) Hl2.out Hl.out (by omega) (by omega) HlE.out).mono ?_;rintro e w4 ⟨⟨ao', cap', rfl, hO⟩, hb4⟩;have R1' := R1.below hb4 R1.lt;have R3' := R3.below hb4 R3.lt;have f1 : w4.cell? ⟨w.heap.size, 0, none⟩ = some (.bool n2) := R1'.cell 0;have k4 := R3'.lt;go_wp2_with fail
     refine (of_c n2 _ _ _ _).mono ?_;rintro e w5 ⟨rfl, hb5⟩;have hr5 := R3'.below hb5 R3'.lt;have hf0 := hr5.free 0;have hf1 := hr5.free 1;have hc0 := hr5.cell 0;have hc1 := hr5.cell 1;have hs3 : w.heap.size + 3 <= w3.heap.size := R3.lt;have hbf : Below w.heap.size w w5 := (HB.trans (hb4.mono (by omega))).trans (hb5.mono (by have := hb4.size; omega));clear R1 R1' R2 R3 R3';go_wp2;have hr6 := hr5.set2 (.bool (n2 && decide (0 < wlen (nval ws2 - nval ws)))) (.slice ao' (wlen (nval ws2 - nval ws)) cap');refine bodyPost_ret (results_int (p := 4) (by kernel_rfl) _ _ (w.heap.size + 2) _ _ rfl hr6) rfl ?_;have hO' := (hO.mono (B' := w.heap.size + 3) hs3).below hb5;have hI := OwnI.mk n2 hO';rw [zi_subL hne HlE.out] at hI;rw [Hx.out, Hx2.out];exact OwnI.done hI (by omega) hbf
   · have hc' : decide (ncmp (nval ws) (nval ws2) < 0) = false := by
      unfold ncmp; rw [if_neg hlt]; split <;> rfl
     have HlE := Lib.hid (Nat.le_of_not_lt hlt); clear hlt;generalize ncmp (nval ws) (nval ws2) = cm at *;go_wp2_with fail
     refine (Sub_c _ _ _ _ _ _ ws ws2 _ (hW.below HB) (hW2.below HB) Hl.out Hl2.out (by omega) (by omega) HlE.out).mono ?_;rintro e w4 ⟨⟨ao', cap', rfl, hO⟩, hb4⟩;have R1' := R1.below hb4 R1.lt;have R3' := R3.below hb4 R3.lt;have f1 : w4.cell? ⟨w.heap.size, 0, none⟩ = some (.bool n) := R1'.cell 0;have k4 := R3'.lt;go_wp2_with fail
     refine (of_c n _ _ _ _).mono ?_;rintro e w5 ⟨rfl, hb5⟩;have hr5 := R3'.below hb5 R3'.lt;have hf0 := hr5.free 0;have hf1 := hr5.free 1;have hc0 := hr5.cell 0;have hc1 := hr5.cell 1;have hs3 : w.heap.size + 3 <= w3.heap.size := R3.lt;have hbf : Below w.heap.size w w5 := (HB.trans (hb4.mono (by omega))).trans (hb5.mono (by have := hb4.size; omega));clear R1 R1' R2 R3 R3';go_wp2;have hr6 := hr5.set2 (.bool (n && decide (0 < wlen (nval ws - nval ws2)))) (.slice ao' (wlen (nval ws - nval ws2)) cap');refine bodyPost_ret (results_int (p := 4) (by kernel_rfl) _ _ (w.heap.size + 2) _ _ rfl hr6) rfl ?_;have hO' := (hO.mono (B' := w.heap.size + 3) hs3).below hb5;have hI := OwnI.mk n hO';rw [zi_subR hne HlE.out] at hI;rw [Hx.out, Hx2.out];exact OwnI.done hI (by omega) hbf
set_option maxRecDepth 100000 in
set_option maxHeartbeats 1000000 in
theorem ISub_c (v u : Value) (x y : Int) (w : World) (hA : IntAt w 17592186044415 v x) (hB : IntAt w 17592186044415 u y) :
 Calls Tryz.prog 44 #[v, u] w fun e w' => (∃ v', e = .returned v' /\ OwnI w' w.heap.size v' (x - y)) /\ Below w.heap.size w w' := by
 obtain ⟨n, ao, len, cap, ws, rfl, hW, hl, hL1, hc, hx⟩ := hA;obtain ⟨n2, ao2, len2, cap2, ws2, rfl, hW2, hl2, hL2, hc2, hx2⟩ := hB;have Hx := Lib.hid hx; clear hx;have Hl := Lib.hid hl; clear hl;have Hx2 := Lib.hid hx2; clear hx2;have Hl2 := Lib.hid hl2; clear hl2;go_enter Tryz.func44, Tryz.ntmps44;go_wp2_with fail
 obtain ⟨r1, r2, r3, hb⟩ := three_new w #[.bool n, .slice ao len cap] #[.bool n2, .slice ao2 len2 cap2] #[.bool false, .slice none 0 0] 33 33 33;generalize ((w.alloc (.cells #[.bool n, .slice ao len cap] 33)).alloc (.cells #[.bool n2, .slice ao2 len2 cap2] 33)).alloc (.cells #[.bool false, .slice none 0 0] 33) = w2 at *;have hI1 : IntAt w2 17592186044415 (.agg #[.bool n, .slice ao len cap]) x := ⟨n, ao, len, cap, ws, rfl, hW.below hb, Hl.out, hL1, hc, Hx.out⟩;have hI2 : IntAt w2 17592186044415 (.agg #[.bool (!n2), .slice ao2 len2 cap2]) (-y) := ⟨!n2, ao2, len2, cap2, ws2, rfl, hW2.below hb, Hl2.out, hL2, hc2, by rw [zi_not, Hx2.out]⟩;refine (IAdd_c _ _ x (-y) _ hI1 hI2).mono ?_;rintro e w3 ⟨⟨v', rfl, hO⟩, hb3⟩;have hs3 : w.heap.size + 3 <= w2.heap.size := r3.lt;have hr4 := r3.below hb3 r3.lt;have hf0 := hr4.free 0;have hf1 := hr4.free 1;have hc0 := hr4.cell 0;have hc1 := hr4.cell 1;have hbf : Below w.heap.size w w3 := hb.trans (hb3.mono hb.size);have HO := Lib.hid hO;obtain ⟨ao', cap', rfl, -⟩ := hO;clear r1 r2 r3;go_wp2;have hr6 := hr4.set2 (.bool (decide (x + -y < 0))) (.slice ao' (wlen (x + -y).natAbs) cap');refine bodyPost_ret (results_int (p := 4) (by kernel_rfl) _ _ (w.heap.size + 2) _ _ rfl hr6) rfl ?_;have hO' := HO.out.mono (B' := w.heap.size + 3) hs3;rw [Int.sub_eq_add_neg];exact OwnI.done hO' (by omega) hbf
theorem four_new (w : World) (c1 c2 c3 c4 : Array Value) (t1 t2 t3 t4 : TypeId) : RowAt ((((w.alloc (.cells c1 t1)).alloc (.cells c2 t2)).alloc (.cells c3 t3)).alloc (.cells c4 t4)) w.heap.size t1 c1.toList /\ RowAt ((((w.alloc (.cells c1 t1)).alloc (.cells c2 t2)).alloc (.cells c3 t3)).alloc (.cells c4 t4)) (w.heap.size + 1) t2 c2.toList /\
 RowAt ((((w.alloc (.cells c1 t1)).alloc (.cells c2 t2)).alloc (.cells c3 t3)).alloc (.cells c4 t4)) (w.heap.size + 2) t3 c3.toList /\ RowAt ((((w.alloc (.cells c1 t1)).alloc (.cells c2 t2)).alloc (.cells c3 t3)).alloc (.cells c4 t4)) (w.heap.size + 3) t4 c4.toList /\
 Below w.heap.size w ((((w.alloc (.cells c1 t1)).alloc (.cells c2 t2)).alloc (.cells c3 t3)).alloc (.cells c4 t4)) := by
 obtain ⟨h1, h2, h3, h4⟩ := three_new w c1 c2 c3 t1 t2 t3;have e : (((w.alloc (.cells c1 t1)).alloc (.cells c2 t2)).alloc (.cells c3 t3)).heap.size = w.heap.size + 3 := by simp
 refine ⟨h1.alloc _, h2.alloc _, h3.alloc _, ?_, h4.alloc (by omega) _⟩;have := RowAt.new (((w.alloc (.cells c1 t1)).alloc (.cells c2 t2)).alloc (.cells c3 t3)) c4 t4
 rwa [e] at this
def zsign (x : Int) : Int := if x < 0 then -1 else if x = 0 then 0 else 1
set_option maxRecDepth 100000 in
set_option maxHeartbeats 1000000 in
theorem ISign_c (v : Value) (x : Int) (w : World) (hA : IntAt w 17592186044415 v x) :
 Calls Tryz.prog 8 #[v] w fun e w' => e = .returned (.int .i64 (zsign x)) /\ Below w.heap.size w w' := by
 obtain ⟨n, ao, len, cap, ws, rfl, hW, hl, hL, hc, hx⟩ := hA;have Hx := Lib.hid hx; clear hx;have Hl := Lib.hid hl; clear hl;go_enter Tryz.func8, Tryz.ntmps8;go_wp2_with fail
 have hb : Below w.heap.size w (w.alloc (.cells #[.bool n, .slice ao len cap] 33)) := (Below.refl _ _).alloc (Nat.le_refl _) _;refine (BitLen_c _ _ _ ws _ (hW.below hb) Hl.out (by omega)).mono ?_;rintro e w' ⟨⟨k, rfl, hk⟩, rfl⟩;by_cases h0 : k = 0
 · have t1 : ((k : Int) == 0) = true := by rw [h0]; rfl
   have e0 := hk.1 h0;have E0 := Lib.hid e0; clear e0 hk h0;go_wp2;go_ret;refine ⟨?_, hb⟩;rw [Hx.out, E0.out];have : zsign (zi n 0) = 0 := by cases n <;> rfl
   rw [this]; rfl
 · have t1 : ((k : Int) == 0) = false := by rw [beq_eq_false_iff_ne]; omega
   have e0 : nval ws ≠ 0 := fun h => h0 (hk.2 h);have E0 := Lib.hid e0; clear e0 hk h0;cases n
   · go_wp2;go_ret;refine ⟨?_, hb⟩;have : zsign (zi false (nval ws)) = 1 := by
      have := E0.out;unfold zsign zi; simp; omega
     rw [Hx.out, this]; rfl
   · go_wp2;go_ret;refine ⟨?_, hb⟩;have : zsign (zi true (nval ws)) = -1 := by
      have := E0.out;unfold zsign zi; simp; omega
     rw [Hx.out, this]; rfl
theorem results_int_tmp {fn : Func} {p q : Tmp} (h : fn.results = #[.cell p 33, .tmp q]) (tmps : Array Value) (w : World) (g : Nat) (a b : Value) (hp : tmps.getD p undef = .pointer (some ⟨g, 0, none⟩)) (hr : RowAt w g 33 [a, b]) :
 (results fn tmps).run Tryz.prog w = .ok (.tuple #[.agg #[a, b], tmps.getD q undef]) w := by
 have hp' : tmps[p]?.getD undef = .pointer (some ⟨g, 0, none⟩) := by simpa using hp
 simp [results, h, hp', asAddr, run_loadVar_row w g 33 33 #[a, b] (0, 0) _ hr Tryz.underlying33 rfl (by kernel_rfl)]
theorem IntAt.wlen {w : World} {L : Nat} {v : Value} {x : Int} (h : IntAt w L v x) : wlen x.natAbs <= L := by
 obtain ⟨n, ao, len, cap, ws, rfl, hW, hl, hL, hc, hx⟩ := h;rw [hx, zi_abs];exact Nat.le_trans (wlen_le_length hW.ok) (by omega)
theorem exact_mod {x y : Int} (h : y ∣ x) : x.natAbs % y.natAbs = 0 := by
 have := Int.natAbs_dvd_natAbs.2 h;exact Nat.mod_eq_zero_of_dvd this
theorem zi_div {a b : Bool} {m n : Nat} (hn : n ≠ 0) (h : m % n = 0) : zi (a != b) (m / n) = zi a m / zi b n := by
 obtain ⟨k, rfl⟩ := Nat.dvd_of_mod_eq_zero h;rw [Nat.mul_div_cancel_left _ (by omega)];have hy : zi b n ≠ 0 := by cases b <;> simp [zi] <;> omega
 have e : zi a (n * k) = zi b n * zi (a != b) k := by
  cases a <;> cases b <;> simp [zi, Int.natCast_mul, Int.neg_mul, Int.mul_neg]
 rw [e, Int.mul_ediv_cancel_left _ hy]
set_option maxRecDepth 100000 in
set_option maxHeartbeats 1000000 in
theorem IExact_c (v u : Value) (x y : Int) (w : World) (hA : IntAt w 17592186044415 v x) (hB : IntAt w 17592186044415 u y) (hy : y ≠ 0) (hd : y ∣ x) :
 Calls Tryz.prog 45 #[v, u] w fun e w' => (∃ v', e = .returned (.tuple #[v', .int .i64 0]) /\ OwnI w' w.heap.size v' (x / y)) /\ Below w.heap.size w w' := by
 obtain ⟨n, ao, len, cap, ws, rfl, hW, hl, hL1, hc, hx⟩ := hA;obtain ⟨n2, ao2, len2, cap2, ws2, rfl, hW2, hl2, hL2, hc2, hx2⟩ := hB;have h1 := exact_mod hd;have h2 : nval ws2 ≠ 0 := fun h => hy (by rw [hx2, h]; cases n2 <;> rfl);rw [hx, hx2, zi_abs, zi_abs] at h1;have H1 := Lib.hid h1; clear h1;have H2 := Lib.hid h2; clear h2;have Hx := Lib.hid hx; clear hx;have Hl := Lib.hid hl; clear hl;have Hx2 := Lib.hid hx2; clear hx2;have Hl2 := Lib.hid hl2; clear hl2;clear hd hy;go_enter Tryz.func45, Tryz.ntmps45;go_wp2_with fail
 obtain ⟨r1, r2, r3, hb⟩ := three_new w #[.bool n, .slice ao len cap] #[.bool n2, .slice ao2 len2 cap2] #[.bool false, .slice none 0 0] 33 33 33;generalize ((w.alloc (.cells #[.bool n, .slice ao len cap] 33)).alloc (.cells #[.bool n2, .slice ao2 len2 cap2] 33)).alloc (.cells #[.bool false, .slice none 0 0] 33) = w2 at *;refine (Exact_c _ _ _ _ _ _ ws ws2 _ (hW.below hb) (hW2.below hb) Hl.out Hl2.out (by omega) (by omega) H2.out H1.out).mono ?_;rintro e w3 ⟨⟨ao', cap', rfl, hO⟩, hb3⟩;have R1 := r1.below hb3 r1.lt;have R2 := r2.below hb3 r2.lt;have R3 := r3.below hb3 r3.lt;have e1 : w3.cell? ⟨w.heap.size, 0, none⟩ = some (.bool n) := R1.cell 0;have e3 : w3.cell? ⟨w.heap.size + 1, 0, none⟩ = some (.bool n2) := R2.cell 0;have hs3 : w.heap.size + 3 <= w2.heap.size := r3.lt;have hs4 := hb3.size;clear r1 r2 r3;go_wp2_with fail
 refine (of_c (n != n2) _ _ _ _).mono ?_;rintro e w4 ⟨rfl, hb4⟩;have hr4 := R3.below hb4 R3.lt;have hf0 := hr4.free 0;have hf1 := hr4.free 1;have hc0 := hr4.cell 0;have hc1 := hr4.cell 1;have hbf : Below w.heap.size w w4 := (hb.trans (hb3.mono hb.size)).trans (hb4.mono (by omega));clear R1 R2 R3;go_wp2;have hr6 := hr4.set2 (.bool ((n != n2) && decide (0 < wlen (nval ws / nval ws2)))) (.slice ao' (wlen (nval ws / nval ws2)) cap');refine bodyPost_ret (results_int_tmp (p := 4) (q := 5) (by kernel_rfl) _ _ (w.heap.size + 2) _ _ rfl hr6) rfl ?_;have hO' := (hO.mono (B' := w.heap.size + 3) hs3).below hb4;have hI := OwnI.mk (n != n2) hO';rw [zi_div H2.out H1.out] at hI;rw [Hx.out, Hx2.out];obtain ⟨⟨v', hv, hI'⟩, hB'⟩ := OwnI.done (a := .bool ((n != n2) && decide (0 < wlen (nval ws / nval ws2)))) (b := .slice ao' (wlen (nval ws / nval ws2)) cap') hI (by omega : w.heap.size <= w.heap.size + 2) hbf;refine ⟨⟨v', ?_, hI'⟩, hB'⟩;cases hv;rfl
set_option maxRecDepth 100000 in
set_option maxHeartbeats 1000000 in
theorem IOf_c (k : Int) (w : World) (h1 : -9223372036854775808 <= k) (h2 : k <= 9223372036854775807) :
 Calls Tryz.prog 7 #[.int .i64 k] w fun e w' => (∃ v', e = .returned v' /\ OwnI w' w.heap.size v' k) /\ Below w.heap.size w w' := by
 go_enter Tryz.func7, Tryz.ntmps7;by_cases hk : k < 0
 · go_wp2_with fail
   have ev : IntKind.u64.wrap (-IntKind.u64.wrap k) = ((k.natAbs : Nat) : Int) := by simp only [IntKind.wrap_u64]; omega
   rw [ev];obtain ⟨r1, r2, hb⟩ := two_new w #[.bool false, .slice none 0 0] #[.int .u64 ((k.natAbs : Nat) : Int)] 33 52;generalize (w.alloc (.cells #[.bool false, .slice none 0 0] 33)).alloc (.cells #[.int .u64 ((k.natAbs : Nat) : Int)] 52) = w2 at *;have hkW : k.natAbs < W := by unfold W; omega
   have hw2 : WAt w2 (some ⟨w.heap.size + 1, 0, none⟩) [k.natAbs] := RowAt.wat (ws := [k.natAbs]) r2 (Ok.one hkW);have hv1 : nval [k.natAbs] = k.natAbs := by simp [nval]
   have hLe := Least_c _ 1 1 [k.natAbs] _ hw2 rfl (by omega);rw [hv1] at hLe;refine hLe.mono ?_;rintro e w3 ⟨⟨ao', cap', rfl, hO⟩, hb3⟩;have hr3 := r1.below hb3 r1.lt;have hs2 : w.heap.size + 2 <= w2.heap.size := r2.lt;have hs3 := hb3.size;clear r1 r2 hLe;go_wp2_with fail
   refine (of_c true _ _ _ _).mono ?_;rintro e w4 ⟨rfl, hb4⟩;have hr4 := hr3.below hb4 hr3.lt;have hf0 := hr4.free 0;have hf1 := hr4.free 1;have hc0 := hr4.cell 0;have hc1 := hr4.cell 1;have hbf : Below w.heap.size w w4 := (hb.trans (hb3.mono hb.size)).trans (hb4.mono (by omega));have hO' := (hO.mono (B' := w.heap.size + 1) (by omega)).below hb4;have hI := OwnI.mk true hO';have hz : zi true k.natAbs = k := by unfold zi; simp; omega
   rw [hz] at hI;have HI := Lib.hid hI;clear hr3 hz hI hw2 hv1 ev;go_wp2;have hr6 := hr4.set2 (.bool (true && decide (0 < wlen k.natAbs))) (.slice ao' (wlen k.natAbs) cap');refine bodyPost_ret (results_int (p := 2) (by kernel_rfl) _ _ w.heap.size _ _ rfl hr6) rfl ?_;exact OwnI.done HI.out (Nat.le_refl _) hbf
 · obtain ⟨m, rfl⟩ : ∃ m : Nat, k = (m : Int) := ⟨k.toNat, by omega⟩;go_wp2_with fail
   obtain ⟨r1, r2, hb⟩ := two_new w #[.bool false, .slice none 0 0] #[.int .u64 ((m : Nat) : Int)] 33 52;generalize (w.alloc (.cells #[.bool false, .slice none 0 0] 33)).alloc (.cells #[.int .u64 ((m : Nat) : Int)] 52) = w2 at *;have hkW : m < W := by unfold W; omega
   have hw2 : WAt w2 (some ⟨w.heap.size + 1, 0, none⟩) [m] := RowAt.wat (ws := [m]) r2 (Ok.one hkW);have hv1 : nval [m] = m := by simp [nval]
   have hLe := Least_c _ 1 1 [m] _ hw2 rfl (by omega);rw [hv1] at hLe;refine hLe.mono ?_;rintro e w3 ⟨⟨ao', cap', rfl, hO⟩, hb3⟩;have hr3 := r1.below hb3 r1.lt;have hs2 : w.heap.size + 2 <= w2.heap.size := r2.lt;have hs3 := hb3.size;clear r1 r2 hLe;go_wp2_with fail
   refine (of_c false _ _ _ _).mono ?_;rintro e w4 ⟨rfl, hb4⟩;have hr4 := hr3.below hb4 hr3.lt;have hf0 := hr4.free 0;have hf1 := hr4.free 1;have hc0 := hr4.cell 0;have hc1 := hr4.cell 1;have hbf : Below w.heap.size w w4 := (hb.trans (hb3.mono hb.size)).trans (hb4.mono (by omega));have hO' := (hO.mono (B' := w.heap.size + 1) (by omega)).below hb4;have hI := OwnI.mk false hO';have hz : zi false m = (m : Int) := rfl;rw [hz] at hI;have HI := Lib.hid hI;clear hr3 hz hI hw2 hv1;go_wp2;have hr6 := hr4.set2 (.bool (false && decide (0 < wlen m))) (.slice ao' (wlen m) cap');refine bodyPost_ret (results_int (p := 2) (by kernel_rfl) _ _ w.heap.size _ _ rfl hr6) rfl ?_;exact OwnI.done HI.out (Nat.le_refl _) hbf
theorem OwnI.int {w : World} {B L : Nat} {v : Value} {x : Int} (h : OwnI w B v x) (hL : Go.Proofs.YtcpjoiffkniccaaGreat.wlen x.natAbs <= L) : IntAt w L v x := h.at_.mono hL
set_option maxRecDepth 100000 in
set_option maxHeartbeats 1000000 in
theorem IMulAdd_c (v u t : Value) (x y z : Int) (LA LB : Nat) (w : World) (hA : IntAt w LA v x) (hB : IntAt w LB u y) (hC : IntAt w 17592186044415 t z) (hL : LA + LB <= 17592186044415) :
 Calls Tryz.prog 97 #[v, u, t] w fun e w' => (∃ v', e = .returned v' /\ OwnI w' w.heap.size v' (x * y + z)) /\ Below w.heap.size w w' := by
 have hwx := hA.wlen;have hwy := hB.wlen;have hwz : wlen (x * y).natAbs <= 17592186044415 := by
  rw [Int.natAbs_mul]; have := wlen_mul x.natAbs y.natAbs; omega
 have Hwz := Lib.hid hwz; clear hwz hwx hwy;obtain ⟨n, ao, len, cap, ws, rfl, hW, hl, hL1, hc, hx⟩ := hA;obtain ⟨n2, ao2, len2, cap2, ws2, rfl, hW2, hl2, hL2, hc2, hx2⟩ := hB;obtain ⟨n3, ao3, len3, cap3, ws3, rfl, hW3, hl3, hL3, hc3, hx3⟩ := hC;have HA : Hid (∀ w', Below w.heap.size w w' -> IntAt w' LA (.agg #[.bool n, .slice ao len cap]) x) := Lib.hid (fun w' h => ⟨n, ao, len, cap, ws, rfl, hW.below h, hl, hL1, hc, hx⟩);have HB : Hid (∀ w', Below w.heap.size w w' -> IntAt w' LB (.agg #[.bool n2, .slice ao2 len2 cap2]) y) := Lib.hid (fun w' h => ⟨n2, ao2, len2, cap2, ws2, rfl, hW2.below h, hl2, hL2, hc2, hx2⟩);have HC : Hid (∀ w', Below w.heap.size w w' -> IntAt w' 17592186044415 (.agg #[.bool n3, .slice ao3 len3 cap3]) z) := Lib.hid (fun w' h => ⟨n3, ao3, len3, cap3, ws3, rfl, hW3.below h, hl3, hL3, hc3, hx3⟩);clear hW hl hL1 hc hx hW2 hl2 hL2 hc2 hx2 hW3 hl3 hL3 hc3 hx3;go_enter Tryz.func97, Tryz.ntmps97;go_wp2;obtain ⟨r1, r2, r3, r4, hb⟩ := four_new w #[.bool n, .slice ao len cap] #[.bool n2, .slice ao2 len2 cap2] #[.bool n3, .slice ao3 len3 cap3] #[.bool false, .slice none 0 0] 33 33 33 33;generalize (((w.alloc (.cells #[.bool n, .slice ao len cap] 33)).alloc (.cells #[.bool n2, .slice ao2 len2 cap2] 33)).alloc (.cells #[.bool n3, .slice ao3 len3 cap3] 33)).alloc (.cells #[.bool false, .slice none 0 0] 33) = w2 at *;have e1 : w2.cell? ⟨w.heap.size, 0, none⟩ = some (.bool n) := r1.cell 0;have e2 : w2.cell? ⟨w.heap.size, 1, none⟩ = some (.slice ao len cap) := r1.cell 1;have e3 : w2.cell? ⟨w.heap.size + 1, 0, none⟩ = some (.bool n2) := r2.cell 0;have e4 : w2.cell? ⟨w.heap.size + 1, 1, none⟩ = some (.slice ao2 len2 cap2) := r2.cell 1;have e5 : w2.cell? ⟨w.heap.size + 2, 0, none⟩ = some (.bool n3) := r3.cell 0;have e6 : w2.cell? ⟨w.heap.size + 2, 1, none⟩ = some (.slice ao3 len3 cap3) := r3.cell 1;have hb2 := r4.lt;have k0 : w.heap.size < w.heap.size + 3 := by omega
 have k1 : w.heap.size + 1 < w.heap.size + 3 := by omega
 have k2 : w.heap.size + 2 < w.heap.size + 3 := by omega
 have Hr4 := Lib.hid r4;have hs2 : w.heap.size <= w2.heap.size := by omega
 have hbd : Below w.heap.size w w2.drew := hb.drew;clear r1 r2 r3 r4
 go_region_held3 (fun w' => w'.cell? ⟨w.heap.size, 0, none⟩ = some (.bool n) /\ w'.cell? ⟨w.heap.size, 1, none⟩ = some (.slice ao len cap) /\ w'.cell? ⟨w.heap.size + 1, 0, none⟩ = some (.bool n2) /\ w'.cell? ⟨w.heap.size + 1, 1, none⟩ = some (.slice ao2 len2 cap2) /\ w'.cell? ⟨w.heap.size + 2, 0, none⟩ = some (.bool n3) /\ w'.cell? ⟨w.heap.size + 2, 1, none⟩ = some (.slice ao3 len3 cap3))
  (first
   | exact ⟨e1, e2, e3, e4, e5, e6⟩
   | exact ⟨(hb3'.cell k0).trans e1, (hb3'.cell k0).trans e2, (hb3'.cell k1).trans e3, (hb3'.cell k1).trans e4, (hb3'.cell k2).trans e5, (hb3'.cell k2).trans e6⟩
   | exact ⟨(hb5.cell k0).trans e1, (hb5.cell k0).trans e2, (hb5.cell k1).trans e3, (hb5.cell k1).trans e4, (hb5.cell k2).trans e5, (hb5.cell k2).trans e6⟩
   | exact ⟨(((hb5.setCell (Nat.le_refl _) _).setCell (Nat.le_refl _) _).cell k0).trans e1, (((hb5.setCell (Nat.le_refl _) _).setCell (Nat.le_refl _) _).cell k0).trans e2, (((hb5.setCell (Nat.le_refl _) _).setCell (Nat.le_refl _) _).cell k1).trans e3, (((hb5.setCell (Nat.le_refl _) _).setCell (Nat.le_refl _) _).cell k1).trans e4, (((hb5.setCell (Nat.le_refl _) _).setCell (Nat.le_refl _) _).cell k2).trans e5, (((hb5.setCell (Nat.le_refl _) _).setCell (Nat.le_refl _) _).cell k2).trans e6⟩)
  (first
   | (go_at_call 9; refine (IMul_c _ _ x y LA LB _ (by exact HA.out _ hbd) (by exact HB.out _ hbd) (by omega)).mono ?_; rintro e w3 ⟨⟨v3, rfl, hO⟩, hb3⟩; have HO := Lib.hid (hO.int Hwz.out); have hb3' : Below (w.heap.size + 3) w2.drew w3 := hb3.mono (Nat.le_of_lt hb2); have hb3w : Below w.heap.size w w3 := hbd.trans (hb3.mono hs2))
   | (go_at_call 62; refine (IAdd_c _ _ (x * y) z _ (by exact HO.out) (by exact HC.out _ hb3w)).mono ?_; rintro e w4 ⟨⟨v4, rfl, hO4⟩, hb4⟩; have hb5 : Below (w.heap.size + 3) w2.drew w4 := (hb3.trans (hb4.mono hb3.size)).mono (Nat.le_of_lt hb2); have hr4 := (RowAt.below (w := w2.drew) Hr4.out hb3 hb2).below hb4 (Nat.lt_of_lt_of_le hb2 hb3.size); have hf0 := hr4.free 0; have hf1 := hr4.free 1; have hc0 := hr4.cell 0; have hc1 := hr4.cell 1; have HO4 := Lib.hid hO4; obtain ⟨ao', cap', rfl, -⟩ := hO4))
 go_wp2;have hr5 := hr4.set2 (.bool (decide (x * y + z < 0))) (.slice ao' (wlen (x * y + z).natAbs) cap');have hbf : Below w.heap.size w w4 := hb3w.trans (hb4.mono (Nat.le_trans hs2 hb3.size));refine bodyPost_ret (results_int (p := 6) (by kernel_rfl) _ _ (w.heap.size + 3) _ _ rfl hr5) rfl ?_;have hs3 : w2.heap.size <= w3.heap.size := hb3.size;have hI := HO4.out.mono (B' := w.heap.size + 4) (by omega);exact OwnI.done hI (by omega) hbf
def NoW (cs : List Value) : Prop := ∀ c ∈ cs, ∀ n, c ≠ .int .u64 n
theorem NoW.nil : NoW [] := fun c h => by cases h
theorem NoW.bool {b : Bool} {cs : List Value} (h : NoW cs) : NoW (.bool b :: cs) := fun c hc n => by
 rcases List.mem_cons.1 hc with rfl | hc
 · simp
 · exact h c hc n
theorem NoW.slice {ao : Option Addr} {l k : Nat} {cs : List Value} (h : NoW cs) : NoW (.slice ao l k :: cs) := fun c hc n => by
 rcases List.mem_cons.1 hc with rfl | hc
 · simp
 · exact h c hc n
theorem NoW.two (b : Bool) (ao : Option Addr) (l k : Nat) : NoW [.bool b, .slice ao l k] := NoW.bool (NoW.slice NoW.nil)
theorem NoW.append {a b : List Value} (ha : NoW a) (hb : NoW b) : NoW (a ++ b) := fun c hc n => (List.mem_append.1 hc).elim (fun h => ha c h n) (fun h => hb c h n)
theorem WAt.setRow {w : World} {ao : Option Addr} {ws : List Nat} (h : WAt w ao ws) {g : Nat} {t : TypeId} {cs : List Value} (hr : RowAt w g t cs) (hn : NoW cs) (i : Nat) (u : Value) : WAt (w.setCell ⟨g, i, none⟩ u) ao ws := by
 refine ⟨h.1, fun hl => ?_⟩;obtain ⟨b, o, rfl, hb, hc⟩ := h.2 hl;have hne : b ≠ g := by
  rintro rfl;have h0 := hc 0 hl;rw [hr.cell] at h0;exact hn _ (List.mem_of_getElem? h0) _ rfl
 refine ⟨b, o, rfl, by simpa using hb, fun k hk => ?_⟩;rw [World.cell?_setCell_far _ _ _ _ (fun e => hne e.symm)];exact hc k hk
theorem IntAt.setRow {w : World} {L : Nat} {v : Value} {x : Int} (h : IntAt w L v x) {g : Nat} {t : TypeId} {cs : List Value} (hr : RowAt w g t cs) (hn : NoW cs) (i : Nat) (u : Value) : IntAt (w.setCell ⟨g, i, none⟩ u) L v x := by
 obtain ⟨n, ao, len, cap, ws, rfl, hW, hl, hL, hc, hx⟩ := h;exact ⟨n, ao, len, cap, ws, rfl, hW.setRow hr hn i u, hl, hL, hc, hx⟩
theorem OwnW.setRow {w : World} {B : Nat} {ao : Option Addr} {len cap : Nat} {ws : List Nat} (h : OwnW w B ao len cap ws) {g : Nat} {t : TypeId} {cs : List Value} (hr : RowAt w g t cs) (ht : t ≠ 52) (i : Nat) (u : Value) : OwnW (w.setCell ⟨g, i, none⟩ u) B ao len cap ws := by
 obtain ⟨h1, h2, h3, h4⟩ := h;refine ⟨h1, h2, h3, ?_⟩;rcases h4 with h0 | ⟨g', c, cur, hv, hbb, hg, r⟩
 · exact .inl h0
 · have hne : g' ≠ g := by
    rintro rfl;unfold RowAt at hr;rw [hg] at hr;simp only [Option.some.injEq, Obj.cells.injEq] at hr;exact ht hr.2.1.symm
   exact .inr ⟨g', c, cur, hv, hbb, by rw [Below.heap_setCell _ _ _ _ hne]; exact hg, r⟩
theorem OwnI.setRow {w : World} {B : Nat} {v : Value} {x : Int} (h : OwnI w B v x) {g : Nat} {t : TypeId} {cs : List Value} (hr : RowAt w g t cs) (ht : t ≠ 52) (i : Nat) (u : Value) : OwnI (w.setCell ⟨g, i, none⟩ u) B v x := by
 obtain ⟨ao, cap, rfl, hO⟩ := h;exact ⟨ao, cap, rfl, hO.setRow hr ht i u⟩
end Go.Proofs.YtcpjoiffkniccaaGreat
namespace Go.Proofs.YtcpjoiffkniccaaGreat
open Go
theorem countP_lt {α} (p q : α -> Bool) (h : ∀ x, q x = true -> p x = true) (y : α) (hp : p y = true) (hq : q y = false) : ∀ l : List α, y ∈ l -> l.countP q < l.countP p
 | [], hm => by cases hm
 | x :: l, hm => by
  have hle : ∀ l : List α, l.countP q <= l.countP p := fun l => List.countP_mono_left (fun x _ => h x);rw [List.countP_cons, List.countP_cons];rcases List.mem_cons.1 hm with rfl | hm
  · rw [hp, hq]; have := hle l; simp; omega
  · have := countP_lt p q h y hp hq l hm;cases hqx : q x
    · simp; omega
    · rw [h x hqx]; simp; omega
def Grounded (ops : Array Oper) (n : Nat) (L : Nat -> Bool) : Prop := ∀ k < n, L k = true -> ((ops[k]?).map (·.after.all fun e => !Region.binds .any e || L e.on)).getD false = true
theorem Grounded.add {ops : Array Oper} {n i : Nat} {L L' : Nat -> Bool} (h : Grounded ops n L) (hi : ((ops[i]?).map (·.after.all fun e => !Region.binds .any e || L e.on)).getD false = true) (hL : ∀ j, L' j = if j = i then true else L j) : Grounded ops n L' := by
 have mono : ∀ k : Nat, ((ops[k]?).map (·.after.all fun e => !Region.binds .any e || L e.on)).getD false = true -> ((ops[k]?).map (·.after.all fun e => !Region.binds .any e || L' e.on)).getD false = true := by
  intro k hk;cases ho : ops[k]? with
  | none => rw [ho] at hk; simp at hk
  | some o =>
   rw [ho] at hk;simp only [Option.map_some, Option.getD_some] at hk ⊢;rw [Array.all_eq_true] at hk ⊢;intro m hm;have := hk m hm;simp only [Bool.or_eq_true] at this ⊢;refine this.imp id fun h => ?_;rw [hL]; split
   · rfl
   · exact h
 intro k hk hLk;rw [hL] at hLk;by_cases hki : k = i
 · subst hki; exact mono k hi
 · rw [if_neg hki] at hLk; exact mono k (h k hk hLk)
theorem wpAny_inv {P : Program} {ops : Array Oper} {Q : Exit -> Act -> World -> Prop} {n : Nat} (hn : ops.size = n)
 (hb : ((List.range n).all fun i => ((ops[i]?).map (·.after.all fun e => !Region.binds .any e || decide (e.on < i))).getD false) = true)
 (F : (Nat -> Value) -> Act) (J : (Nat -> Bool) -> (Nat -> Value) -> World -> Prop)
 (hs : ∀ i < n, ∀ L x w, J L x w -> Grounded ops n L -> L i = false -> ((ops[i]?).map (·.after.all fun e => !Region.binds .any e || L e.on)).getD false = true -> wpOp P ops Q i (fun a' w' => ∃ x', a' = F x' /\ J (fun j => if j = i then true else L j) x' w') (F x) w)
 (hend : ∀ L x w, (∀ i < n, L i = true) -> J L x w -> Q .normal (F x) w) :
 ∀ (fuel : Nat) (listed : Array Bool) (x : Nat -> Value) (w : World), listed.size = n -> (List.range n).countP (fun i => !listed.getD i false) <= fuel -> Grounded ops n (fun j => listed.getD j false) -> J (fun j => listed.getD j false) x w -> wpAny P .any ops Q fuel listed (F x) w := by
 have hex : ∀ listed : Array Bool, listed.size = n -> Region.ready .any ops listed = [] -> ∀ i < n, listed.getD i false = true := by
  intro listed hsz hr i;induction i using Nat.strongRecOn with
  | _ i ih =>
   intro hi;by_cases h : listed.getD i false = true
   · exact h
   exfalso;have hm : i ∈ Region.ready .any ops listed := by
    simp only [Region.ready, List.mem_filter, List.mem_range, hn, Bool.and_eq_true];refine ⟨hi, ?_, ?_⟩
    · simp only [Array.getD_eq_getD_getElem?] at h ⊢;rw [Array.getElem?_eq_getElem (by omega)] at h ⊢;simpa using h
    · have := List.all_eq_true.1 hb i (List.mem_range.2 hi);cases ho : ops[i]? with
      | none => rw [ho] at this; simp at this
      | some o =>
       rw [ho] at this;simp only [Option.map_some, Option.getD_some] at this ⊢;rw [Array.all_eq_true] at this ⊢;intro k hk;have hlt := this k hk;simp only [Bool.or_eq_true, decide_eq_true_eq] at hlt ⊢;exact hlt.imp id fun hlt => ih _ hlt (by omega)
   rw [hr] at hm; cases hm
 intro fuel;induction fuel with
 | zero =>
  intro listed x w hsz hf hG hJ;have hr : Region.ready .any ops listed = [] := by
   refine List.eq_nil_iff_forall_not_mem.2 fun i hi => ?_;simp only [Region.ready, List.mem_filter, List.mem_range, hn, Bool.and_eq_true] at hi;have : 0 < (List.range n).countP (fun i => !listed.getD i false) := List.countP_pos_iff.2 ⟨i, List.mem_range.2 hi.1, by
    have h1 := hi.2.1;simp only [Array.getD_eq_getD_getElem?] at h1 ⊢;rw [Array.getElem?_eq_getElem (by omega)] at h1 ⊢;simpa using h1⟩
   omega
  exact ⟨hr, hend _ x w (hex listed hsz hr) hJ⟩
 | succ fuel ih =>
  intro listed x w hsz hf hG hJ;refine ⟨fun hr => hend _ x w (hex listed hsz hr) hJ, fun i hi => ?_⟩;simp only [Region.ready, List.mem_filter, List.mem_range, hn, Bool.and_eq_true] at hi;have hfi : listed.getD i false = false := by
   have h1 := hi.2.1;simp only [Array.getD_eq_getD_getElem?] at h1 ⊢;rw [Array.getElem?_eq_getElem (by omega)] at h1 ⊢;simpa using h1
  refine wpOp_mono ?_ (hs i hi.1 _ x w hJ hG hfi hi.2.2);rintro a' w' ⟨x', rfl, hJ'⟩;have e : (fun j => if j = i then true else listed.getD j false) = fun j => (listed.setIfInBounds i true).getD j false := by
   funext j;by_cases hj : j = i
   · subst hj; simp [Array.getD_eq_getD_getElem?, Array.getElem?_setIfInBounds, hsz, hi.1]
   · simp [Array.getD_eq_getD_getElem?, Array.getElem?_setIfInBounds, hj, Ne.symm hj]
  rw [e] at hJ';refine ih _ x' w' (by simp [hsz]) ?_ (hG.add hi.2.2 (fun j => (congrFun e j).symm)) hJ';have := countP_lt (fun i => !listed.getD i false) (fun j => !(listed.setIfInBounds i true).getD j false) (by
   intro j hj;rw [<- congrFun e j] at hj;by_cases hji : j = i
   · simp [hji] at hj
   · simpa [hji] using hj) i (by simp [hfi]) (by rw [<- congrFun e i]; simp) (List.range n) (List.mem_range.2 hi.1)
  omega
theorem any_inv {P : Program} {ops : Array Oper} {Q : Exit -> Act -> World -> Prop} {n : Nat} {a : Act} {w : World} (hn : ops.size = n)
 (hb : ((List.range n).all fun i => ((ops[i]?).map (·.after.all fun e => !Region.binds .any e || decide (e.on < i))).getD false) = true)
 (F : (Nat -> Value) -> Act) (J : (Nat -> Bool) -> (Nat -> Value) -> World -> Prop) (x0 : Nat -> Value) (ha : a = F x0)
 (h0 : J (fun _ => false) x0 w.drew)
 (hs : ∀ i < n, ∀ L x w, J L x w -> Grounded ops n L -> L i = false -> ((ops[i]?).map (·.after.all fun e => !Region.binds .any e || L e.on)).getD false = true -> wpOp P ops Q i (fun a' w' => ∃ x', a' = F x' /\ J (fun j => if j = i then true else L j) x' w') (F x) w)
 (hend : ∀ L x w, (∀ i < n, L i = true) -> J L x w -> Q .normal (F x) w) : wpAny P .any ops Q ops.size (Array.replicate ops.size false) a w.drew := by
 subst ha;refine wpAny_inv hn hb F J hs hend _ _ x0 _ (by simp [hn]) ?_ ?_ ?_
 · exact Nat.le_trans List.countP_le_length (by simp [hn])
 · intro k _ hk;simp only [Array.getD_eq_getD_getElem?, Array.getElem?_replicate] at hk;split at hk <;> simp at hk
 · have e : (fun j => (Array.replicate ops.size false).getD j false) = fun _ => false := by
    funext j; simp [Array.getD_eq_getD_getElem?, Array.getElem?_replicate]; split <;> rfl
   rw [e]; exact h0
theorem wp_region_inv {P : Program} {ops : Array Oper} {Q : Exit -> Act -> World -> Prop} {id n : Nat} {a : Act} {w : World} (hm : P.follows .mixedOrders = true) (hn : ops.size = n)
 (hb : ((List.range n).all fun i => ((ops[i]?).map (·.after.all fun e => !Region.binds .any e || decide (e.on < i))).getD false) = true)
 (F : (Nat -> Value) -> Act) (J : (Nat -> Bool) -> (Nat -> Value) -> World -> Prop) (x0 : Nat -> Value) (ha : a = F x0)
 (h0 : J (fun _ => false) x0 w.drew)
 (hs : ∀ i < n, ∀ L x w, J L x w -> Grounded ops n L -> L i = false -> ((ops[i]?).map (·.after.all fun e => !Region.binds .any e || L e.on)).getD false = true -> wpOp P ops Q i (fun a' w' => ∃ x', a' = F x' /\ J (fun j => if j = i then true else L j) x' w') (F x) w)
 (hend : ∀ L x w, (∀ i < n, L i = true) -> J L x w -> Q .normal (F x) w) : (Code.region id ops true).wp P Q a w := wp_region_any hm (any_inv hn hb F J x0 ha h0 hs hend)
end Go.Proofs.YtcpjoiffkniccaaGreat
namespace Go.Proofs.YtcpjoiffkniccaaGreat
open Go.RowKit
theorem NoW.set {cs : List Value} (h : NoW cs) (i : Nat) {u : Value} (hu : ∀ n, u ≠ .int .u64 n) : NoW (cs.set i u) := fun c hc n => by
 rcases List.mem_or_eq_of_mem_set hc with hc | rfl
 · exact h c hc n
 · exact hu n
structure AV where
 holds : World -> Value -> Prop
 below : ∀ {w w' : World} {v : Value}, holds w v -> Below w.heap.size w w' -> holds w' v
 ban : TypeId -> Bool
 set : ∀ {w : World} {v : Value} {g : Nat} {t : TypeId} {cs : List Value}, holds w v -> RowAt w g t cs -> NoW cs -> t ≠ 52 -> ban t = false -> ∀ (k : Nat) (u : Value), (∀ n, u ≠ .int .u64 n) -> holds (w.setCell ⟨g, k, none⟩ u) v
def AV.free (holds : World -> Value -> Prop) (below : ∀ {w w' : World} {v : Value}, holds w v -> Below w.heap.size w w' -> holds w' v)
 (set : ∀ {w : World} {v : Value} {g : Nat} {t : TypeId} {cs : List Value}, holds w v -> RowAt w g t cs -> NoW cs -> t ≠ 52 -> ∀ (k : Nat) (u : Value), (∀ n, u ≠ .int .u64 n) -> holds (w.setCell ⟨g, k, none⟩ u) v) : AV :=
 ⟨holds, below, fun _ => false, fun h hr hn ht _ k u hu => set h hr hn ht k u hu⟩
def AV.any : AV := AV.free (fun _ _ => True) (fun _ _ => trivial) (fun _ _ _ _ _ _ _ => trivial)
def AV.val (u : Value) : AV := AV.free (fun _ v => v = u) (fun h _ => h) (fun h _ _ _ _ _ _ => h)
def AV.int (B : Nat) (x : Int) : AV := AV.free (fun w v => OwnI w B v x) (fun h hb => OwnI.below h hb) (fun h hr _ ht k u _ => OwnI.setRow h hr ht k u)
def AV.at_ (L : Nat) (x : Int) : AV := AV.free (fun w v => IntAt w L v x) (fun h hb => IntAt.below h hb) (fun h hr hn _ k u _ => IntAt.setRow h hr hn k u)
def AV.ptr (B : Nat) (t : TypeId) (n : Nat) : AV := AV.free (fun w v => ∃ g cs, v = .pointer (some ⟨g, 0, none⟩) /\ B <= g /\ RowAt w g t cs /\ NoW cs /\ cs.length = n) (fun ⟨g, cs, e, hB, hr, hn, hl⟩ hb => ⟨g, cs, e, hB, hr.below hb hr.lt, hn, hl⟩) (fun {_ _ g' _ _} ⟨g, cs, e, hB, hr, hn, hl⟩ hr' _ _ k u hu => by
 by_cases hg : g = g'
 · subst hg; exact ⟨g, cs.set k u, e, hB, hr.set k u, hn.set k hu, by simpa using hl⟩
 · exact ⟨g, cs, e, hB, hr.other hg u, hn, hl⟩)
structure CV where
 holds : World -> List Value -> Prop
 below : ∀ {w w' : World} {v : List Value}, holds w v -> Below w.heap.size w w' -> holds w' v
 ban : TypeId -> Bool
 set : ∀ {w : World} {v : List Value} {g : Nat} {t : TypeId} {cs : List Value}, holds w v -> RowAt w g t cs -> NoW cs -> t ≠ 52 -> ban t = false -> ∀ (k : Nat) (u : Value), (∀ n, u ≠ .int .u64 n) -> holds (w.setCell ⟨g, k, none⟩ u) v
def CV.free (holds : World -> List Value -> Prop) (below : ∀ {w w' : World} {v : List Value}, holds w v -> Below w.heap.size w w' -> holds w' v)
 (set : ∀ {w : World} {v : List Value} {g : Nat} {t : TypeId} {cs : List Value}, holds w v -> RowAt w g t cs -> NoW cs -> t ≠ 52 -> ∀ (k : Nat) (u : Value), (∀ n, u ≠ .int .u64 n) -> holds (w.setCell ⟨g, k, none⟩ u) v) : CV :=
 ⟨holds, below, fun _ => false, fun h hr hn ht _ k u hu => set h hr hn ht k u hu⟩
def CV.int (B : Nat) (x : Int) : CV := CV.free (fun w cs => ∃ b ao l k, cs = [.bool b, .slice ao l k] /\ OwnI w B (.agg #[.bool b, .slice ao l k]) x) (fun ⟨b, ao, l, k, e, h⟩ hb => ⟨b, ao, l, k, e, OwnI.below h hb⟩) (fun ⟨b, ao, l, k, e, h⟩ hr _ ht j u _ => ⟨b, ao, l, k, e, OwnI.setRow h hr ht j u⟩)
def setAll (w : World) (g : Nat) : Nat -> List Value -> World
 | _, [] => w
 | k, u :: us => setAll (w.setCell ⟨g, k, none⟩ u) g (k + 1) us
theorem NoW.tail {u : Value} {us : List Value} (h : NoW (u :: us)) : NoW us := fun c hc => h c (List.mem_cons_of_mem _ hc)
theorem NoW.head {u : Value} {us : List Value} (h : NoW (u :: us)) : ∀ n, u ≠ .int .u64 n := h u (List.mem_cons_self ..)
theorem RowAt.setAll {g : Nat} {t : TypeId} : ∀ (us : List Value) (k : Nat) {w : World} {cs : List Value}, RowAt w g t cs -> k + us.length = cs.length -> RowAt (setAll w g k us) g t (cs.take k ++ us)
 | [], k, w, cs, h, hl => by
  rw [List.append_nil, List.take_of_length_le (by simp at hl; omega)]; exact h
 | u :: us, k, w, cs, h, hl => by
  have h1 := RowAt.setAll us (k + 1) (h.set k u) (by simp at hl ⊢; omega);have e : (cs.set k u).take (k + 1) = cs.take k ++ [u] := by
   simp at hl;rw [List.take_succ_eq_append_getElem (by simp; omega), List.take_set_of_le (Nat.le_refl _)];simp
  rw [e] at h1;simpa [Go.Proofs.YtcpjoiffkniccaaGreat.setAll] using h1
theorem AV.setAllB (a : AV) {v : Value} {g : Nat} {t : TypeId} (ht : t ≠ 52) (hb : a.ban t = false) : ∀ (us : List Value) (k : Nat) {w : World} {cs : List Value}, a.holds w v -> RowAt w g t cs -> NoW cs -> NoW us -> a.holds (setAll w g k us) v
 | [], k, w, cs, h, _, _, _ => h
 | u :: us, k, w, cs, h, hr, hn, hu => AV.setAllB a ht hb us (k + 1) (a.set h hr hn ht hb k u hu.head) (hr.set k u) (hn.set k hu.head) hu.tail
theorem CV.setAllB (a : CV) {v : List Value} {g : Nat} {t : TypeId} (ht : t ≠ 52) (hb : a.ban t = false) : ∀ (us : List Value) (k : Nat) {w : World} {cs : List Value}, a.holds w v -> RowAt w g t cs -> NoW cs -> NoW us -> a.holds (Go.Proofs.YtcpjoiffkniccaaGreat.setAll w g k us) v
 | [], k, w, cs, h, _, _, _ => h
 | u :: us, k, w, cs, h, hr, hn, hu => CV.setAllB a ht hb us (k + 1) (a.set h hr hn ht hb k u hu.head) (hr.set k u) (hn.set k hu.head) hu.tail
theorem RowAt.setAll_other {b g : Nat} {t : TypeId} (hne : b ≠ g) : ∀ (us : List Value) (k : Nat) {w : World} {cs : List Value}, RowAt w b t cs -> RowAt (Go.Proofs.YtcpjoiffkniccaaGreat.setAll w g k us) b t cs
 | [], k, w, cs, h => h
 | u :: us, k, w, cs, h => RowAt.setAll_other hne us (k + 1) (h.other hne u)
theorem below_setAll {B g : Nat} (hg : B <= g) : ∀ (us : List Value) (k : Nat) {w w' : World}, Below B w w' -> Below B w (setAll w' g k us)
 | [], k, w, w', h => h
 | u :: us, k, w, w', h => below_setAll hg us (k + 1) (h.setCell (p := ⟨g, k, none⟩) hg u)
theorem cell_setAll {g : Nat} {a : Addr} (hne : g ≠ a.block) : ∀ (us : List Value) (k : Nat) {w : World}, (setAll w g k us).cell? a = w.cell? a
 | [], k, w => rfl
 | u :: us, k, w => (cell_setAll hne us (k + 1)).trans (World.cell?_setCell_far _ _ _ _ hne)
theorem size_setAll {g : Nat} : ∀ (us : List Value) (k : Nat) {w : World}, (setAll w g k us).heap.size = w.heap.size
 | [], k, w => rfl
 | u :: us, k, w => (size_setAll us (k + 1)).trans (by simp)
def updL (L : Nat -> Bool) (i : Nat) : Nat -> Bool := fun j => if j = i then true else L j
def updX (x : Nat -> Value) (d : Nat) (v : Value) : Nat -> Value := fun j => if j = d then v else x j
theorem patchX {x : Nat -> Value} {d : Nat} {v : Value} (h : x d = v) : x = updX x d v := by
 funext k; unfold updX; split
 · rename_i e; rw [e, h]
 · rfl
structure RD where
 n : Nat
 dst : Nat -> Nat
 av : Nat -> AV
 tg : List (Nat × Nat × AV)
 bs : List (Value × AV)
 rows : List (Nat × TypeId × List Value)
 nw : List (Nat × Nat × TypeId × CV)
 cells : List (Addr × Value)
 al : List (Nat × Nat)
def RD.okB (d : RD) (t : TypeId) : Bool := (List.range d.n).all (fun i => !(d.av i).ban t) && d.tg.all (fun q => !q.2.2.ban t) && d.bs.all (fun p => !p.2.ban t) && d.nw.all (fun q => !q.2.2.2.ban t)
theorem RD.okB.all {d : RD} {t : TypeId} (h : d.okB t = true) : (∀ i, i < d.n -> (d.av i).ban t = false) /\ (∀ q ∈ d.tg, q.2.2.ban t = false) /\ (∀ p ∈ d.bs, p.2.ban t = false) /\ ∀ q ∈ d.nw, q.2.2.2.ban t = false := by
 unfold RD.okB at h;simp only [Bool.and_eq_true, List.all_eq_true, Bool.not_eq_true', List.mem_range] at h;exact ⟨h.1.1.1, h.1.1.2, h.1.2, h.2⟩
structure RD.J (d : RD) (g0 B : Nat) (w0 : World) (L : Nat -> Bool) (x : Nat -> Value) (w : World) : Prop where
 fr : Below g0 w0 w
 size : B <= w.heap.size
 base : ∀ p ∈ d.bs, p.2.holds w p.1
 rows : ∀ p ∈ d.rows, RowAt w p.1 p.2.1 p.2.2 /\ p.1 < B /\ ∀ t ∈ d.tg, p.1 ≠ t.2.1
 cells : ∀ p ∈ d.cells, w.cell? p.1 = some p.2 /\ p.1.block < B /\ ∀ t ∈ d.tg, p.1.block ≠ t.2.1
 slot : ∀ i, i < d.n -> L i = true -> (d.av i).holds w (x (d.dst i))
 tgt : ∀ t ∈ d.tg, g0 <= t.2.1 /\ t.2.1 < B /\ ∃ n ao l k, RowAt w t.2.1 33 [.bool n, .slice ao l k] /\ (L t.1 = true -> t.2.2.holds w (.agg #[.bool n, .slice ao l k]))
 apart : ∀ p ∈ d.al, ∀ q ∈ d.al, p.1 ≠ q.1 -> L p.1 = true -> L q.1 = true -> x p.2 ≠ x q.2
 new : ∀ t ∈ d.nw, L t.1 = true -> ∃ g cs, x t.2.1 = .pointer (some ⟨g, 0, none⟩) /\ B <= g /\ RowAt w g t.2.2.1 cs /\ t.2.2.2.holds w cs
theorem RD.J.grow {d : RD} {g0 B : Nat} {w0 w w' : World} {L : Nat -> Bool} {x : Nat -> Value} (h : d.J g0 B w0 L x w) (i : Nat) (hi : i < d.n) (v : Value)
 (hd : ((List.range d.n).all fun j => d.dst j != d.dst i || j == i) = true) (ht : (d.tg.all fun t => t.1 != i) = true) (hnw : ∀ t ∈ d.nw, t.1 ≠ i /\ (t.2.1 = d.dst i -> L t.1 = false)) (hal : ∀ p ∈ d.al, (p.1 = i ↔ p.2 = d.dst i) /\ (p.1 = i -> ∀ q ∈ d.al, q.1 ≠ i -> L q.1 = true -> v ≠ x q.2)) (hb : Below w.heap.size w w') (hv : (d.av i).holds w' v) (hg : g0 <= w.heap.size) :
 d.J g0 B w0 (updL L i) (updX x (d.dst i) v) w' := by
 refine ⟨h.fr.trans (hb.mono hg), Nat.le_trans h.size hb.size, fun p hp => AV.below _ (h.base p hp) hb, fun p hp => ⟨(h.rows p hp).1.below hb (h.rows p hp).1.lt, (h.rows p hp).2⟩, fun p hp => ⟨(hb.cell (Nat.lt_of_lt_of_le (h.cells p hp).2.1 h.size)).trans (h.cells p hp).1, (h.cells p hp).2⟩, fun j hj hL => ?_, fun t ht' => ?_, fun p hp q hq hpq hLp hLq => ?_, fun t ht' hL => ?_⟩
 · unfold updX;by_cases hji : j = i
   · subst hji; rw [if_pos rfl]; exact hv
   · have := List.all_eq_true.1 hd j (List.mem_range.2 hj);simp only [Bool.or_eq_true, bne_iff_ne, beq_iff_eq] at this;rw [if_neg (this.resolve_right hji)];unfold updL at hL;rw [if_neg hji] at hL;exact AV.below _ (h.slot j hj hL) hb
 · obtain ⟨h1, h2, a, b, l, k, hr, hc⟩ := h.tgt t ht';refine ⟨h1, h2, a, b, l, k, hr.below hb hr.lt, fun hL => ?_⟩;have hne := List.all_eq_true.1 ht t ht';simp only [bne_iff_ne] at hne;unfold updL at hL;rw [if_neg hne] at hL;exact AV.below _ (hc hL) hb
 · unfold updL at hLp hLq;unfold updX;by_cases hpi : p.1 = i
   · have hqi : q.1 ≠ i := fun e => hpq (hpi.trans e.symm);rw [if_neg hqi] at hLq;rw [if_pos ((hal p hp).1.1 hpi), if_neg (fun e => hqi ((hal q hq).1.2 e))];exact (hal p hp).2 hpi q hq hqi hLq
   · rw [if_neg hpi] at hLp;by_cases hqi : q.1 = i
     · rw [if_pos ((hal q hq).1.1 hqi), if_neg (fun e => hpi ((hal p hp).1.2 e))];exact fun e => (hal q hq).2 hqi p hp hpi hLp e.symm
     · rw [if_neg hqi] at hLq;rw [if_neg (fun e => hpi ((hal p hp).1.2 e)), if_neg (fun e => hqi ((hal q hq).1.2 e))];exact h.apart p hp q hq hpq hLp hLq
 · have hne := hnw t ht';unfold updL at hL;rw [if_neg hne.1] at hL;obtain ⟨g, cs, e, hB, hr, hc⟩ := h.new t ht' hL;refine ⟨g, cs, ?_, hB, hr.below hb hr.lt, CV.below _ hc hb⟩;unfold updX;rw [if_neg (fun e2 => by rw [hne.2 e2] at hL; cases hL)];exact e
theorem RD.J.growB {d : RD} {g0 B : Nat} {w0 w w' : World} {L : Nat -> Bool} {x : Nat -> Value} (h : d.J g0 B w0 L x w) (i : Nat) (hi : i < d.n) (v : Value)
 (hd : ((List.range d.n).all fun j => d.dst j != d.dst i || j == i) = true) (ht : (d.tg.all fun t => t.1 != i) = true) (hk : (d.nw.all (fun t => t.1 != i && t.2.1 != d.dst i) && d.al.all (fun p => p.1 != i && p.2 != d.dst i)) = true) (hb : Below w.heap.size w w') (hv : (d.av i).holds w' v) (hg : g0 <= w.heap.size) :
 d.J g0 B w0 (updL L i) (updX x (d.dst i) v) w' := by
 simp only [Bool.and_eq_true, List.all_eq_true, bne_iff_ne] at hk;exact h.grow i hi v hd ht (fun t ht => ⟨(hk.1 t ht).1, fun e => absurd e (hk.1 t ht).2⟩) (fun p hp => ⟨⟨fun e => absurd e (hk.2 p hp).1, fun e => absurd e (hk.2 p hp).2⟩, fun e => absurd e (hk.2 p hp).1⟩) hb hv hg
theorem RD.J.storeNew {d : RD} {g0 B : Nat} {w0 w : World} {L : Nat -> Bool} {x : Nat -> Value} (h : d.J g0 B w0 L x w) (i s : Nat) (t : TypeId) (A : CV) (hi : i < d.n) (hav : d.av i = .any) (hm : (i, s, t, A) ∈ d.nw) (hu1 : ∀ t' ∈ d.nw, t'.1 = i -> t' = (i, s, t, A)) (hap : ∀ t' ∈ d.nw, t'.1 ≠ i -> L t'.1 = true -> x t'.2.1 ≠ x s) (hal : (d.al.all fun t => t.1 != i) = true) (htg : (d.tg.all fun t => t.1 != i) = true) (ht : t ≠ 52)
 {g : Nat} {cs us : List Value} (hx : x s = .pointer (some ⟨g, 0, none⟩)) (hB : B <= g) (hr : RowAt w g t cs) (hn : NoW cs) (hl : us.length = cs.length) (hu : NoW us) (hv : A.holds w us) (hg : g0 <= B) (hban : d.okB t = true := by kernel_rfl) :
 d.J g0 B w0 (updL L i) x (setAll w g 0 us) := by
 have hO := RD.okB.all hban;have T : ∀ (a : AV) (v : Value), a.ban t = false -> a.holds w v -> a.holds (setAll w g 0 us) v := fun a v hb hh => AV.setAllB a ht hb _ 0 hh hr hn hu;have T' : ∀ (a : CV) (v : List Value), a.ban t = false -> a.holds w v -> a.holds (setAll w g 0 us) v := fun a v hb hh => CV.setAllB a ht hb _ 0 hh hr hn hu;refine ⟨below_setAll (by omega) _ _ h.fr, by rw [size_setAll]; exact h.size, fun p hp => T _ _ (hO.2.2.1 p hp) (h.base p hp), fun p hp => ⟨RowAt.setAll_other (by have := (h.rows p hp).2.1; omega) _ _ (h.rows p hp).1, (h.rows p hp).2⟩, fun p hp => ⟨(cell_setAll (by have := (h.cells p hp).2.1; omega) _ _).trans (h.cells p hp).1, (h.cells p hp).2⟩, fun j hj hL => ?_, fun t' ht' => ?_, fun p hp q hq hpq hLp hLq => ?_, fun t' ht' hL => ?_⟩
 · by_cases hji : j = i
   · subst hji; rw [hav]; exact trivial
   · unfold updL at hL;rw [if_neg hji] at hL;exact T _ _ (hO.1 j hj) (h.slot j hj hL)
 · obtain ⟨h1, h2, a, b, l', k', hr', hc⟩ := h.tgt t' ht';refine ⟨h1, h2, a, b, l', k', RowAt.setAll_other (by omega) _ _ hr', fun hL => ?_⟩;have hne := List.all_eq_true.1 htg t' ht';simp only [bne_iff_ne] at hne;unfold updL at hL;rw [if_neg hne] at hL;exact T _ _ (hO.2.1 t' ht') (hc hL)
 · have h1 := List.all_eq_true.1 hal p hp;have h2 := List.all_eq_true.1 hal q hq;simp only [bne_iff_ne] at h1 h2;unfold updL at hLp hLq;rw [if_neg h1] at hLp;rw [if_neg h2] at hLq;exact h.apart p hp q hq hpq hLp hLq
 · by_cases hti : t'.1 = i
   · obtain rfl := hu1 t' ht' hti;have := RowAt.setAll us 0 hr (by omega);exact ⟨g, us, hx, hB, by simpa using this, T' _ _ (hO.2.2.2 _ hm) hv⟩
   · unfold updL at hL;rw [if_neg hti] at hL;obtain ⟨g', cs', e, hB', hr', hc⟩ := h.new t' ht' hL;have hgg : g' ≠ g := by
      rintro rfl;exact hap t' ht' hti hL (e.trans hx.symm)
     exact ⟨g', cs', e, hB', RowAt.setAll_other hgg _ _ hr', T' _ _ (hO.2.2.2 t' ht') hc⟩
theorem list2 {cs : List Value} (h : cs.length = 2) : ∃ a b, cs = [a, b] := by
 match cs, h with
 | [a, b], _ => exact ⟨a, b, rfl⟩
theorem mm0 {α : Type} {a : α} {l : List α} : a ∈ a :: l := List.mem_cons_self ..
theorem mm1 {α : Type} {a b0 : α} {l : List α} : a ∈ b0 :: a :: l := List.mem_cons_of_mem _ mm0
theorem mm2 {α : Type} {a b0 b1 : α} {l : List α} : a ∈ b0 :: b1 :: a :: l := List.mem_cons_of_mem _ mm1
theorem mm3 {α : Type} {a b0 b1 b2 : α} {l : List α} : a ∈ b0 :: b1 :: b2 :: a :: l := List.mem_cons_of_mem _ mm2
theorem mm4 {α : Type} {a b0 b1 b2 b3 : α} {l : List α} : a ∈ b0 :: b1 :: b2 :: b3 :: a :: l := List.mem_cons_of_mem _ mm3
theorem mm5 {α : Type} {a b0 b1 b2 b3 b4 : α} {l : List α} : a ∈ b0 :: b1 :: b2 :: b3 :: b4 :: a :: l := List.mem_cons_of_mem _ mm4
theorem mm6 {α : Type} {a b0 b1 b2 b3 b4 b5 : α} {l : List α} : a ∈ b0 :: b1 :: b2 :: b3 :: b4 :: b5 :: a :: l := List.mem_cons_of_mem _ mm5
theorem mc {α : Type} {a b : α} {l : List α} (h : a ∈ b :: l) : a = b ∨ a ∈ l := List.mem_cons.1 h
def putAll (a : Act) (x : Nat -> Value) (ds : List Nat) : Act := ds.foldl (fun b d => b.put (some d) (x d)) a
theorem pN : (∀ (a : Act) (x : Nat -> Value), putAll a x [] = a) /\ (∀ (a : Act) (x : Nat -> Value) (d : Nat) (ds : List Nat), putAll a x (d :: ds) = putAll (a.put (some d) (x d)) x ds) /\
 (∀ (l : List Value) (df : List Deferred) (d : Nat) (v : Value), Act.put ⟨l.toArray, df⟩ (some d) v = ⟨(l.set d v).toArray, df⟩) /\ (∀ (x : Nat -> Value) (d : Nat) (v : Value) (j : Nat), updX x d v j = if j = d then v else x j) /\
 (∀ (a b : Value) (l : List Value), (a :: l).set 0 b = b :: l) /\ (∀ (a b : Value) (l : List Value) (n : Nat), (a :: l).set (n + 1) b = a :: l.set n b) :=
 ⟨fun _ _ => rfl, fun _ _ _ _ => rfl, fun l df d v => by simp [Act.put], fun _ _ _ _ => rfl, fun _ _ _ => rfl, fun _ _ _ _ => rfl⟩
attribute [go_sem] pN
theorem wps {P : Program} {ops : Array Oper} {Q : Exit -> Act -> World -> Prop} {i : Nat} {o : Oper} {K : Act -> World -> Prop} {a : Act} {w : World} (ho : ops[i]? = some o)
 (h : ∀ K' : Act -> World -> Prop, (∀ a w, K a w -> K' a w) -> if Region.wanted o (yielded ops a.tmps) = true then Oper.wp P o a w K' Q else K' (a.put o.dst undef) w) : wpOp P ops Q i K a w := wpOp_step ho h
theorem RD.J.pt {d : RD} {g0 B : Nat} {w0 w : World} {L : Nat -> Bool} {x : Nat -> Value} (h : d.J g0 B w0 L x w) (i s : Nat) (v : Value) (hi : Nat.blt i d.n = true) (hs : d.dst i = s) (ha : d.av i = .val v) (hL : L i = true) : x = updX x s v := by
 have e := h.slot i (Nat.le_of_ble_eq_true hi) hL;rw [ha, hs] at e;exact patchX e
theorem RD.J.gC {d : RD} {g0 B : Nat} {w0 w w' : World} {L : Nat -> Bool} {x : Nat -> Value} (h : d.J g0 B w0 L x w) (i : Nat) (hi : Nat.blt i d.n = true) {v : Value}
 (hk : (((List.range d.n).all fun j => d.dst j != d.dst i || j == i) && (d.tg.all fun t => t.1 != i) && (d.nw.all (fun t => t.1 != i && t.2.1 != d.dst i) && d.al.all (fun p => p.1 != i && p.2 != d.dst i))) = true) (hb : Below w.heap.size w w') (hv : (d.av i).holds w' v) (hg : g0 <= B) :
 d.J g0 B w0 (updL L i) (updX x (d.dst i) v) w' := by
 rw [Bool.and_eq_true, Bool.and_eq_true] at hk;exact h.growB i (Nat.le_of_ble_eq_true hi) v hk.1.1 hk.1.2 hk.2 hb hv (Nat.le_trans hg h.size)
theorem RD.J.pC {d : RD} {g0 B : Nat} {w0 w : World} {L : Nat -> Bool} {x : Nat -> Value} (h : d.J g0 B w0 L x w) (i : Nat) (hi : Nat.blt i d.n = true) {v : Value}
 (hk : (((List.range d.n).all fun j => d.dst j != d.dst i || j == i) && (d.tg.all fun t => t.1 != i) && (d.nw.all (fun t => t.1 != i && t.2.1 != d.dst i) && d.al.all (fun p => p.1 != i && p.2 != d.dst i))) = true) (hv : (d.av i).holds w v) (hg : g0 <= B) :
 d.J g0 B w0 (updL L i) (updX x (d.dst i) v) w := h.gC i hi hk (Below.refl _ _) hv hg
theorem RD.J.q {d : RD} {g0 B : Nat} {w0 w : World} {L : Nat -> Bool} {x : Nat -> Value} (h : d.J g0 B w0 L x w) {A a : Act} {ds : List Nat} {i : Nat} {K : Act -> World -> Prop} (hK : ∀ a w, (∃ x', a = putAll A x' ds /\ d.J g0 B w0 (updL L i) x' w) -> K a w) {v : Value}
 (hk : (Nat.blt i d.n && (((List.range d.n).all fun j => d.dst j != d.dst i || j == i) && (d.tg.all fun t => t.1 != i) && (d.nw.all (fun t => t.1 != i && t.2.1 != d.dst i) && d.al.all (fun p => p.1 != i && p.2 != d.dst i)))) = true) (hv : (d.av i).holds w v) (ha : a = putAll A (updX x (d.dst i) v) ds := by kernel_rfl) (hg : g0 <= B := by omega) : K a w := by
 rw [Bool.and_eq_true] at hk;exact hK _ _ ⟨_, ha, h.pC i hk.1 hk.2 hv hg⟩
theorem allc {p : Nat -> Prop} {i : Nat} {l : List Nat} (h : p i) (hs : ∀ j ∈ l, p j) : ∀ j ∈ i :: l, p j := fun j hj => by
 rcases List.mem_cons.1 hj with rfl | hj
 · exact h
 · exact hs j hj
theorem alln {p : Nat -> Prop} : ∀ j ∈ ([] : List Nat), p j := fun _ h => by cases h
def preOf (ops : Array Oper) (i : Nat) : List Nat := ((ops[i]?).map fun o => (o.after.toList.filter (Region.binds .any)).map (·.on)).getD []
def noD (ops : Array Oper) (i : Nat) : Bool := ((ops[i]?).map fun o => o.after.all fun e => match e.ground with | .data => false | _ => true).getD false
theorem hp0 {ops : Array Oper} {i : Nat} {L : Nat -> Bool} (_ : ∀ j ∈ preOf ops i, L j = true) (_ : noD ops i = true) : True := trivial
theorem wp_region_J (d : RD) (ds : List Nat) {P : Program} {ops : Array Oper} {Q : Exit -> Act -> World -> Prop} {id : Nat} {a : Act} {w : World} (g0 : Nat) (hm : P.follows .mixedOrders = true) (hn : ops.size = d.n)
 (hb : ((List.range d.n).all fun i => ((ops[i]?).map (·.after.all fun e => !Region.binds .any e || decide (e.on < i))).getD false) = true)
 (hF : a = putAll a (fun k => a.tmps.getD k undef) ds)
 (hbs : ∀ p ∈ d.bs, p.2.holds w.drew p.1) (hrw : ∀ p ∈ d.rows, RowAt w p.1 p.2.1 p.2.2 /\ p.1 < w.heap.size /\ ∀ t ∈ d.tg, p.1 ≠ t.2.1) (hcl : ∀ p ∈ d.cells, w.cell? p.1 = some p.2 /\ p.1.block < w.heap.size /\ ∀ t ∈ d.tg, p.1.block ≠ t.2.1) (ht : ∀ t ∈ d.tg, g0 <= t.2.1 /\ t.2.1 < w.heap.size /\ ∃ n ao l k, RowAt w t.2.1 33 [.bool n, .slice ao l k])
 (hs : ∀ i ∈ List.range d.n, ∀ L x w', d.J g0 w.heap.size w.drew L x w' -> L i = false -> (∀ j ∈ preOf ops i, L j = true) -> (∀ k < d.n, L k = true -> ∀ j ∈ preOf ops k, L j = true) -> wpOp P ops Q i (fun a' w'' => ∃ x', a' = putAll a x' ds /\ d.J g0 w.heap.size w.drew (updL L i) x' w'') (putAll a x ds) w')
 (hend : ∀ L x w', (∀ i < d.n, L i = true) -> d.J g0 w.heap.size w.drew L x w' -> Q .normal (putAll a x ds) w') : (Code.region id ops true).wp P Q a w := by
 have hpre : ∀ (L : Nat -> Bool) (i : Nat), ((ops[i]?).map (·.after.all fun e => !Region.binds .any e || L e.on)).getD false = true -> ∀ j ∈ preOf ops i, L j = true := by
  intro L i hp j hj;unfold preOf at hj;cases ho : ops[i]? with
  | none => rw [ho] at hj; simp at hj
  | some o =>
   rw [ho] at hp hj;simp only [Option.map_some, Option.getD_some, List.mem_map, List.mem_filter] at hj hp;obtain ⟨e, ⟨he, hbd⟩, rfl⟩ := hj;rw [Array.all_eq_true] at hp;obtain ⟨k, hk, rfl⟩ := Array.mem_iff_getElem.1 (Array.mem_def.2 he);have := hp k hk;rw [hbd] at this;simpa using this
 refine wp_region_inv hm hn hb (fun x => putAll a x ds) (d.J g0 w.heap.size w.drew) (fun k => a.tmps.getD k undef) hF ?_ (fun i hi L x w' hJ hG hL hp => hs i (List.mem_range.2 hi) L x w' hJ hL (hpre L i hp) (fun k hk hLk => hpre L k (hG k hk hLk))) hend;refine ⟨Below.refl _ _, Nat.le_refl _, hbs, hrw, hcl, fun i _ h => by simp at h, fun t h => ?_, fun _ _ _ _ _ h => by simp at h, fun _ _ h => by simp at h⟩;obtain ⟨h1, h2, a, b, l, k, hr⟩ := ht t h;exact ⟨h1, h2, a, b, l, k, hr, fun h => by simp at h⟩
theorem allq {α : Type} {Q : α -> Prop} {a : α} {l : List α} (h : Q a) (hs : ∀ p ∈ l, Q p) : ∀ p ∈ a :: l, Q p := fun p hp => by
 rcases List.mem_cons.1 hp with rfl | hp
 · exact h
 · exact hs p hp
theorem allz {α : Type} {Q : α -> Prop} : ∀ p ∈ ([] : List α), Q p := fun _ h => by cases h
section
variable {w w' : World} (hb : Below w.heap.size w w')
include hb
end
section
variable {w : World} {g : Nat} {us : List Value}
variable {t : TypeId} {cs : List Value} (ht : t ≠ 52) (hr : RowAt w g t cs) (hn : NoW cs) (hu : NoW us)
include ht hr hn hu
end
theorem preOf_spec {ops : Array Oper} (L : Nat -> Bool) (i : Nat) (hp : ((ops[i]?).map (·.after.all fun e => !Region.binds .any e || L e.on)).getD false = true) : ∀ j ∈ preOf ops i, L j = true := by
 intro j hj;unfold preOf at hj;cases ho : ops[i]? with
 | none => rw [ho] at hj; simp at hj
 | some o =>
  rw [ho] at hp hj;simp only [Option.map_some, Option.getD_some, List.mem_map, List.mem_filter] at hj hp;obtain ⟨e, ⟨he, hbd⟩, rfl⟩ := hj;rw [Array.all_eq_true] at hp;obtain ⟨k, hk, rfl⟩ := Array.mem_iff_getElem.1 (Array.mem_def.2 he);have := hp k hk;rw [hbd] at this;simpa using this
theorem wp_region_K (d : RD) (ds : List Nat) {P : Program} {ops : Array Oper} {Q : Exit -> Act -> World -> Prop} {id : Nat} {a : Act} {w : World} (g0 : Nat) (hm : P.follows .mixedOrders = true) (hn : ops.size = d.n + 1)
 (hb : ((List.range (d.n + 1)).all fun i => ((ops[i]?).map (·.after.all fun e => !Region.binds .any e || decide (e.on < i))).getD false) = true)
 (hla : ((List.range d.n).all fun j => (List.range (d.n + 1)).any fun k => decide (j < k) && (preOf ops k).contains j) = true)
 (hF : a = putAll a (fun k => a.tmps.getD k undef) ds)
 (hbs : ∀ p ∈ d.bs, p.2.holds w.drew p.1) (hrw : ∀ p ∈ d.rows, RowAt w p.1 p.2.1 p.2.2 /\ p.1 < w.heap.size /\ ∀ t ∈ d.tg, p.1 ≠ t.2.1) (hcl : ∀ p ∈ d.cells, w.cell? p.1 = some p.2 /\ p.1.block < w.heap.size /\ ∀ t ∈ d.tg, p.1.block ≠ t.2.1) (ht : ∀ t ∈ d.tg, g0 <= t.2.1 /\ t.2.1 < w.heap.size /\ ∃ n ao l k, RowAt w t.2.1 33 [.bool n, .slice ao l k])
 (hs : ∀ i ∈ List.range d.n, ∀ L x w', d.J g0 w.heap.size w.drew L x w' -> L i = false -> (∀ j ∈ preOf ops i, L j = true) -> (∀ k < d.n, L k = true -> ∀ j ∈ preOf ops k, L j = true) -> wpOp P ops Q i (fun a' w'' => ∃ x', a' = putAll a x' ds /\ d.J g0 w.heap.size w.drew (updL L i) x' w'') (putAll a x ds) w')
 (hend : ∀ L x w', (∀ i < d.n, L i = true) -> d.J g0 w.heap.size w.drew L x w' -> wpOp P ops Q d.n (fun a' w'' => (∃ x', a' = putAll a x' ds) /\ Q .normal a' w'') (putAll a x ds) w') : (Code.region id ops true).wp P Q a w := by
 have hdown : ∀ (L : Nat -> Bool), (∀ j ∈ preOf ops d.n, L j = true) -> (∀ k < d.n, L k = true -> ∀ j ∈ preOf ops k, L j = true) -> ∀ j < d.n, L j = true := by
  intro L hp hg;have key : ∀ m j, d.n - j <= m -> j < d.n -> L j = true := by
   intro m;induction m with
   | zero => intro j h1 h2; omega
   | succ m ih =>
    intro j h1 h2;have := List.all_eq_true.1 hla j (List.mem_range.2 h2);obtain ⟨k, hk, hjk⟩ := List.any_eq_true.1 this;simp only [Bool.and_eq_true, decide_eq_true_eq, List.contains_iff_mem] at hjk;have hk' := List.mem_range.1 hk;by_cases hkn : k = d.n
    · subst hkn; exact hp j hjk.2
    · exact hg k (by omega) (ih k (by omega) (by omega)) j hjk.2
  exact fun j hj => key (d.n - j) j (Nat.le_refl _) hj
 refine wp_region_inv hm hn hb (fun x => putAll a x ds) (fun L x w' => (L d.n = false /\ d.J g0 w.heap.size w.drew L x w') ∨ (L d.n = true /\ Q .normal (putAll a x ds) w')) (fun k => a.tmps.getD k undef) hF ?_ ?_ ?_
 · refine .inl ⟨rfl, Below.refl _ _, Nat.le_refl _, hbs, hrw, hcl, fun i _ h => by simp at h, fun t h => ?_, fun _ _ _ _ _ h => by simp at h, fun _ _ h => by simp at h⟩;obtain ⟨h1, h2, a, b, l, k, hr⟩ := ht t h;exact ⟨h1, h2, a, b, l, k, hr, fun h => by simp at h⟩
 · intro i hi L x w' hJ hG hL hp;by_cases hin : i = d.n
   · subst hin;rcases hJ with ⟨_, hJ⟩ | ⟨h, _⟩
     · have hall : ∀ j < d.n, L j = true := hdown L (preOf_spec L d.n hp) (fun k hk hLk => preOf_spec L k (hG k (by omega) hLk));refine wpOp_mono ?_ (hend L x w' hall hJ);rintro a' w'' ⟨⟨x', rfl⟩, hQ⟩;exact ⟨x', rfl, .inr ⟨by simp, hQ⟩⟩
     · rw [h] at hL; cases hL
   · have hlt : i < d.n := by omega
     rcases hJ with ⟨h0, hJ⟩ | ⟨h, _⟩
     · refine wpOp_mono ?_ (hs i (List.mem_range.2 hlt) L x w' hJ hL (preOf_spec L i hp) (fun k hk hLk => preOf_spec L k (hG k (by omega) hLk)));rintro a' w'' ⟨x', rfl, hJ'⟩;exact ⟨x', rfl, .inl ⟨by show (if d.n = i then true else L d.n) = false; rw [if_neg (fun e => hin e.symm)]; exact h0, hJ'⟩⟩
     · have := hdown L (preOf_spec L d.n (hG d.n (by omega) h)) (fun k hk hLk => preOf_spec L k (hG k (by omega) hLk)) i hlt;rw [this] at hL; cases hL
 · intro L x w' hL hJ;rcases hJ with ⟨h, _⟩ | ⟨_, hQ⟩
   · rw [hL d.n (by omega)] at h; cases h
   · exact hQ
theorem NoW.i64 {x : Int} {cs : List Value} (h : NoW cs) : NoW (.int .i64 x :: cs) := fun c hc n => by
 rcases List.mem_cons.1 hc with rfl | hc
 · simp
 · exact h c hc n
theorem NoW.ptr {a : Option Addr} {cs : List Value} (h : NoW cs) : NoW (.pointer a :: cs) := fun c hc m => by
 rcases List.mem_cons.1 hc with rfl | hc
 · simp
 · exact h c hc m
abbrev P4 := Bool × Option Addr × Nat × Nat
def av (p : P4) : Value := .agg #[.bool p.1, .slice p.2.1 p.2.2.1 p.2.2.2]
def p0 : P4 := (false, none, 0, 0)
def flat : List P4 -> List Value
 | [] => []
 | p :: ps => .bool p.1 :: .slice p.2.1 p.2.2.1 p.2.2.2 :: flat ps
theorem flat_length : ∀ ps : List P4, (flat ps).length = 2 * ps.length
 | [] => rfl
 | p :: ps => by simp [flat, flat_length ps]; omega
theorem flat_get0 : ∀ (ps : List P4) (i : Nat) (h : i < ps.length), (flat ps)[i * 2]? = some (.bool (ps[i]).1)
 | p :: ps, 0, _ => rfl
 | p :: ps, i + 1, h => by
  have e : (i + 1) * 2 = i * 2 + 1 + 1 := by omega
  rw [e]; simp only [flat, List.getElem?_cons_succ, List.getElem_cons_succ];exact flat_get0 ps i (by simpa using h)
theorem flat_get1 : ∀ (ps : List P4) (i : Nat) (h : i < ps.length), (flat ps)[i * 2 + 1]? = some (.slice (ps[i]).2.1 (ps[i]).2.2.1 (ps[i]).2.2.2)
 | p :: ps, 0, _ => rfl
 | p :: ps, i + 1, h => by
  have e : (i + 1) * 2 + 1 = i * 2 + 1 + 1 + 1 := by omega
  rw [e]; simp only [flat, List.getElem?_cons_succ, List.getElem_cons_succ];exact flat_get1 ps i (by simpa using h)
theorem flat_set : ∀ (ps : List P4) (i : Nat) (p : P4), ((flat ps).set (i * 2) (.bool p.1)).set (i * 2 + 1) (.slice p.2.1 p.2.2.1 p.2.2.2) = flat (ps.set i p)
 | [], i, p => rfl
 | q :: ps, 0, p => rfl
 | q :: ps, i + 1, p => by
  have e : (i + 1) * 2 = i * 2 + 1 + 1 := by omega
  rw [e]; simp only [flat, List.set_cons_succ];rw [flat_set ps i p]
theorem NoW_flat : ∀ ps : List P4, NoW (flat ps)
 | [] => NoW.nil
 | p :: ps => NoW.bool (NoW.slice (NoW_flat ps))
theorem flat_append : ∀ (ps qs : List P4), flat (ps ++ qs) = flat ps ++ flat qs
 | [], qs => rfl
 | p :: ps, qs => by simp [flat, flat_append ps qs]
def NumAt (w : World) (v : Value) (x : Int) : Prop := IntAt w (wlen x.natAbs) v x /\ ∃ s, v = .agg #[.bool (decide (x < 0)), s]
theorem OwnI.num {w : World} {B : Nat} {v : Value} {x : Int} (h : OwnI w B v x) : NumAt w v x := ⟨h.at_, by obtain ⟨ao, cap, rfl, _⟩ := h; exact ⟨_, rfl⟩⟩
theorem NumAt.below {w w' : World} {v : Value} {x : Int} (h : NumAt w v x) (hb : Below w.heap.size w w') : NumAt w' v x := ⟨IntAt.below h.1 hb, h.2⟩
theorem NumAt.setRow {w : World} {v : Value} {x : Int} (h : NumAt w v x) {g : Nat} {t : TypeId} {cs : List Value} (hr : RowAt w g t cs) (hn : NoW cs) (i : Nat) (u : Value) : NumAt (w.setCell ⟨g, i, none⟩ u) v x := ⟨IntAt.setRow h.1 hr hn i u, h.2⟩
theorem NumAt.int {w : World} {L : Nat} {v : Value} {x : Int} (h : NumAt w v x) (hL : wlen x.natAbs <= L) : IntAt w L v x := IntAt.mono h.1 hL
theorem NumAt.parts {w : World} {v : Value} {x : Int} (h : NumAt w v x) : ∃ p : P4, v = av p := by
 obtain ⟨n, ao, len, cap, ws, rfl, _⟩ := h.1;exact ⟨(n, ao, len, cap), rfl⟩
theorem IntAt.parts {w : World} {L : Nat} {v : Value} {x : Int} (h : IntAt w L v x) : ∃ p : P4, v = av p := by
 obtain ⟨n, ao, len, cap, ws, rfl, _⟩ := h;exact ⟨(n, ao, len, cap), rfl⟩
theorem NoW.setB {cs : List Value} (h : NoW cs) (i : Nat) (b : Bool) : NoW (cs.set i (.bool b)) := h.set i (by simp)
theorem NoW.setS {cs : List Value} (h : NoW cs) (i : Nat) (a : Option Addr) (l k : Nat) : NoW (cs.set i (.slice a l k)) := h.set i (by simp)
theorem OwnI.zero (w : World) (B : Nat) : OwnI w B (.agg #[.bool false, .slice none 0 0]) 0 := by
 have h : wlen (0 : Int).natAbs = 0 := wlen_zero;refine ⟨none, 0, by rw [h]; rfl, ?_⟩;rw [h];have : dig (0 : Int).natAbs = [] := dig_zero;rw [this];exact OwnW.nil w B
theorem least_fun {α : Type} (J : Nat -> α -> Prop) : ∃ μ : α -> Nat, ∀ a n, J n a -> J (μ a) a /\ μ a <= n := by
 have h : ∀ a, ∃ k, ∀ n, J n a -> J k a /\ k <= n := by
  intro a;by_cases he : ∃ n, J n a
  · obtain ⟨n, hn⟩ := he;have key : ∀ n, J n a -> ∃ k, ∀ m, J m a -> J k a /\ k <= m := by
     intro n;induction n using Nat.strongRecOn with
     | _ n ih =>
      intro hn;by_cases hl : ∃ m, m < n /\ J m a
      · obtain ⟨m, hm, hj⟩ := hl; exact ih m hm hj
      · exact ⟨n, fun m hm => ⟨hn, Nat.le_of_not_lt fun hlt => hl ⟨m, hlt, hm⟩⟩⟩
    exact key n hn
  · exact ⟨0, fun n hn => absurd ⟨n, hn⟩ he⟩
 exact ⟨fun a => (h a).choose, fun a n hn => (h a).choose_spec n hn⟩
theorem OwnI.parts {w : World} {B : Nat} {v : Value} {x : Int} (h : OwnI w B v x) : ∃ b ao l k, v = .agg #[.bool b, .slice ao l k] := by
 obtain ⟨ao, cap, rfl, _⟩ := h; exact ⟨_, _, _, _, rfl⟩
structure Chg (S : Nat -> Prop) (w w' : World) : Prop where
 os : w'.os = w.os
 tape : w'.tape = w.tape
 output : w'.output = w.output
 size : w.heap.size <= w'.heap.size
 block : ∀ k, k < w.heap.size -> ¬ S k -> w'.heap[k]? = w.heap[k]?
theorem Chg.refl (S : Nat -> Prop) (w : World) : Chg S w w := ⟨rfl, rfl, rfl, Nat.le_refl _, fun _ _ _ => rfl⟩
theorem Chg.trans {S : Nat -> Prop} {a b c : World} (h : Chg S a b) (k : Chg S b c) : Chg S a c :=
 ⟨k.os.trans h.os, k.tape.trans h.tape, k.output.trans h.output, Nat.le_trans h.size k.size, fun i hi hs => (k.block i (Nat.lt_of_lt_of_le hi h.size) hs).trans (h.block i hi hs)⟩
theorem Chg.mono {S T : Nat -> Prop} {w w' : World} (h : Chg S w w') (hT : ∀ k, k < w.heap.size -> S k -> T k) : Chg T w w' :=
 ⟨h.os, h.tape, h.output, h.size, fun k hk ht => h.block k hk (fun hs => ht (hT k hk hs))⟩
theorem Chg.of_below {S : Nat -> Prop} {w w' : World} (h : Below w.heap.size w w') : Chg S w w' := ⟨h.os, h.tape, h.output, h.size, fun k hk _ => h.block k hk⟩
theorem Chg.below {S : Nat -> Prop} {w w' w'' : World} (h : Chg S w w') (hb : Below w'.heap.size w' w'') : Chg S w w'' := h.trans (Chg.of_below hb)
theorem Chg.set {S : Nat -> Prop} {w w' : World} (h : Chg S w w') {p : Addr} (hp : S p.block) (u : Value) : Chg S w (w'.setCell p u) :=
 h.trans ⟨rfl, rfl, rfl, by simp [World.setCell], fun k _ hs => Below.heap_setCell _ _ _ _ (fun e => hs (e ▸ hp))⟩
theorem Chg.setNew {S : Nat -> Prop} {w w' : World} (h : Chg S w w') {p : Addr} (hp : w.heap.size <= p.block) (u : Value) : Chg S w (w'.setCell p u) :=
 ⟨h.os, h.tape, h.output, by simpa [World.setCell] using h.size, fun k hk hs => (Below.heap_setCell _ _ _ _ (by omega)).trans (h.block k hk hs)⟩
theorem Chg.drew {S : Nat -> Prop} {w w' : World} (h : Chg S w w') : Chg S w w'.drew := ⟨h.os, h.tape, h.output, h.size, h.block⟩
theorem Chg.to_below {S : Nat -> Prop} {B : Nat} {w w' : World} (h : Chg S w w') (hS : ∀ k, S k -> B <= k) (hB : B <= w.heap.size) : Below B w w' :=
 ⟨h.os, h.tape, h.output, h.size, fun k hk => h.block k (by omega) (fun hs => by have := hS k hs; omega)⟩
theorem Chg.row {S : Nat -> Prop} {w w' : World} (h : Chg S w w') {b : Nat} {t : TypeId} {cs : List Value} (hr : RowAt w b t cs) (hb : ¬ S b) : RowAt w' b t cs := by
 unfold RowAt at *; rw [h.block b (RowAt.lt hr) hb]; exact hr
theorem Chg.cell {S : Nat -> Prop} {w w' : World} (h : Chg S w w') {p : Addr} (hp : p.block < w.heap.size) (hs : ¬ S p.block) : w'.cell? p = w.cell? p :=
 World.cell?_of_block (w := w) (h.block p.block hp hs)
def Wordless (S : Nat -> Prop) (w : World) : Prop := ∀ g, S g -> ∃ t cs, RowAt w g t cs /\ NoW cs
theorem Chg.wat {S : Nat -> Prop} {w w' : World} (h : Chg S w w') (hS : Wordless S w) {ao : Option Addr} {ws : List Nat} (hw : WAt w ao ws) : WAt w' ao ws := by
 refine ⟨hw.1, fun hl => ?_⟩;obtain ⟨b, o, rfl, hb, hc⟩ := hw.2 hl;have hns : ¬ S b := by
  intro hs;obtain ⟨t, cs, hr, hn⟩ := hS b hs;have h0 := hc 0 hl;rw [hr.cell] at h0;exact hn _ (List.mem_of_getElem? h0) _ rfl
 exact ⟨b, o, rfl, Nat.lt_of_lt_of_le hb h.size, fun i hi => (h.cell (p := ⟨b, o + i, none⟩) hb hns).trans (hc i hi)⟩
theorem Chg.int {S : Nat -> Prop} {w w' : World} (h : Chg S w w') (hS : Wordless S w) {L : Nat} {v : Value} {x : Int} (hx : IntAt w L v x) : IntAt w' L v x := by
 obtain ⟨n, ao, len, cap, ws, rfl, hW, hl, hL, hc, he⟩ := hx;exact ⟨n, ao, len, cap, ws, rfl, h.wat hS hW, hl, hL, hc, he⟩
theorem Chg.num {S : Nat -> Prop} {w w' : World} (h : Chg S w w') (hS : Wordless S w) {v : Value} {x : Int} (hx : NumAt w v x) : NumAt w' v x := ⟨h.int hS hx.1, hx.2⟩
theorem alloc_oldD (w : World) (o : Obj) {q : Nat} (hq : q < w.heap.size) : (w.drew.alloc o).heap[q]? = w.heap[q]? := ((Below.refl w.drew.heap.size w.drew).alloc (Nat.le_refl _) o).block q hq
def Wl (T : Nat -> Prop) (w : World) : Prop := ∀ g, T g -> ∃ t cs, RowAt w g t cs /\ NoW cs /\ t ≠ 52
theorem Wl.none (w : World) : Wl (fun _ => False) w := fun _ h => h.elim
theorem Wl.wordless {T : Nat -> Prop} {w : World} (h : Wl T w) : Wordless T w := fun g hg => by obtain ⟨t, cs, a, b, _⟩ := h g hg; exact ⟨t, cs, a, b⟩
inductive En where
 | row (b : Nat) (t : TypeId) (cs : List Value)
 | cell (a : Addr) (v : Value)
 | fact (wl wr : Bool) (S : Nat -> Prop) (F : World -> Prop) (lt : ∀ {w : World}, F w -> ∀ b, S b -> b < w.heap.size) (keep : ∀ {w w' : World} {T : Nat -> Prop}, F w -> Chg T w w' -> (wl = true -> Wl T w) -> (∀ b, S b -> ¬ T b) -> F w')
def En.wl : En -> Bool
 | .fact wl _ _ _ _ _ => wl
 | _ => false
def En.wr : En -> Bool
 | .row .. => true
 | .cell .. => false
 | .fact _ wr _ _ _ _ => wr
def En.F : En -> World -> Prop
 | .row b t cs, w => RowAt w b t cs
 | .cell a v, w => w.cell? a = some v
 | .fact _ _ _ F _ _, w => F w
def En.S : En -> Nat -> Prop
 | .row b _ _, g => g = b
 | .cell a _, g => g = a.block
 | .fact _ _ S _ _ _, g => S g
theorem cell_lt {w : World} {a : Addr} {v : Value} (h : w.cell? a = some v) : a.block < w.heap.size := by
 rcases Nat.lt_or_ge a.block w.heap.size with h1 | h1
 · exact h1
 · unfold World.cell? at h;rw [Array.getElem?_eq_none h1] at h;cases h
theorem En.lt {e : En} {w : World} (h : e.F w) : ∀ b, e.S b -> b < w.heap.size := by
 cases e with
 | row b t cs => rintro g rfl; exact RowAt.lt h
 | cell a v => rintro g rfl; exact cell_lt h
 | fact wl wr S F lt keep => exact lt h
theorem En.keep {e : En} {w w' : World} {T : Nat -> Prop} (h : e.F w) (hc : Chg T w w') (hw : e.wl = true -> Wl T w) (hs : ∀ b, e.S b -> ¬ T b) : e.F w' := by
 cases e with
 | row b t cs => exact hc.row h (hs b rfl)
 | cell a v => exact (hc.cell (cell_lt h) (hs _ rfl)).trans h
 | fact wl wr S F lt keep => exact keep h hc hw hs
def Ap (e e' : En) : Prop := (e.wr = true -> ∀ b, e.S b -> ¬ e'.S b) /\ (e'.wr = true -> ∀ b, e'.S b -> ¬ e.S b)
theorem Ap.symm {e e' : En} (h : Ap e e') : Ap e' e := ⟨h.2, h.1⟩
structure Fr (S0 : Nat -> Prop) (w0 w : World) (es : List En) : Prop where
 bs : Chg S0 w0 w
 all : ∀ e ∈ es, e.F w
 sep : es.Pairwise Ap
 own : ∀ e ∈ es, e.wr = true -> ∀ b, e.S b -> S0 b ∨ w0.heap.size <= b
section
variable {S0 : Nat -> Prop} {w0 w w' : World} {es : List En}
theorem Fr.perm {es' : List En} (h : Fr S0 w0 w es) (p : es.Perm es') : Fr S0 w0 w es' :=
 ⟨h.bs, fun e he => h.all e (p.mem_iff.2 he), (p.pairwise_iff (fun {_ _} h => h.symm)).1 h.sep, fun e he => h.own e (p.mem_iff.2 he)⟩
theorem Fr.sub {es' : List En} (h : Fr S0 w0 w es) (p : es'.Sublist es) : Fr S0 w0 w es' :=
 ⟨h.bs, fun e he => h.all e (p.subset he), h.sep.sublist p, fun e he => h.own e (p.subset he)⟩
theorem Fr.chg {T : Nat -> Prop} (h : Fr S0 w0 w es) (hc : Chg T w w') (hT : ∀ e ∈ es, e.wl = true -> Wl T w) (h0 : ∀ b, T b -> S0 b ∨ w0.heap.size <= b) (hk : ∀ e ∈ es, ∀ b, e.S b -> ¬ T b) : Fr S0 w0 w' es :=
 ⟨⟨hc.os.trans h.bs.os, hc.tape.trans h.bs.tape, hc.output.trans h.bs.output, Nat.le_trans h.bs.size hc.size, fun k hk' hs => (hc.block k (Nat.lt_of_lt_of_le hk' h.bs.size) (fun ht => (h0 k ht).elim hs (by omega))).trans (h.bs.block k hk' hs)⟩,
  fun e he => En.keep (h.all e he) hc (hT e he) (hk e he), h.sep, h.own⟩
theorem Fr.grow (h : Fr S0 w0 w es) (hb : Below w.heap.size w w') : Fr S0 w0 w' es := h.chg (T := fun _ => False) (.of_below hb) (fun _ _ _ => Wl.none _) (fun _ h => h.elim) (fun _ _ _ _ h => h)
theorem Fr.drew (h : Fr S0 w0 w es) : Fr S0 w0 w.drew es := h.grow ((Below.refl _ _).drew)
theorem Fr.size (h : Fr S0 w0 w es) : w0.heap.size <= w.heap.size := h.bs.size
theorem Fr.cons (h : Fr S0 w0 w es) {e : En} (he : e.F w) (hap : ∀ e' ∈ es, Ap e e') (ho : e.wr = true -> ∀ b, e.S b -> S0 b ∨ w0.heap.size <= b) : Fr S0 w0 w (e :: es) :=
 ⟨h.bs, fun x hx => (List.mem_cons.1 hx).elim (fun q => q ▸ he) (h.all x), List.pairwise_cons.2 ⟨hap, h.sep⟩, fun x hx => (List.mem_cons.1 hx).elim (fun q => q ▸ ho) (h.own x)⟩
theorem Fr.new (h : Fr S0 w0 w es) (hb : Below w.heap.size w w') {e : En} (he : e.F w') (hS : ∀ b, e.S b -> w.heap.size <= b) : Fr S0 w0 w' (e :: es) :=
 (h.grow hb).cons he (fun e' he' => ⟨fun _ b h1 h2 => by have := hS b h1; have := En.lt (h.all e' he') b h2; omega, fun _ b h1 h2 => by have := hS b h2; have := En.lt (h.all e' he') b h1; omega⟩) (fun _ b hb => .inr (Nat.le_trans h.size (hS b hb)))
theorem Fr.pure (h : Fr S0 w0 w es) {e : En} (he : e.F w) (hS : ∀ b, ¬ e.S b) : Fr S0 w0 w (e :: es) :=
 h.cons he (fun e' he' => ⟨fun _ b h1 => (hS b h1).elim, fun _ b _ h2 => hS b h2⟩) (fun _ b hb => (hS b hb).elim)
theorem Fr.upd {T : Nat -> Prop} {e e' : En} (h : Fr S0 w0 w (e :: es)) (hw : e.wr = true) (hc : Chg T w w') (hT : ∀ x ∈ es, x.wl = true -> Wl T w) (h1 : ∀ b, T b -> e.S b) (h2 : e'.F w') (h3 : ∀ b, e'.S b -> e.S b ∨ w.heap.size <= b) : Fr S0 w0 w' (e' :: es) := by
 have hp := List.pairwise_cons.1 h.sep;have hm := (h.sub (List.sublist_cons_self ..)).chg hc hT (fun b hb => h.own e (List.mem_cons_self ..) hw b (h1 b hb)) (fun x hx b hb ht => (hp.1 x hx).1 hw b (h1 b ht) hb);refine hm.cons h2 (fun x hx => ⟨fun _ b hb hx' => ?_, fun _ b hx' hb => ?_⟩) (fun _ b hb => ?_)
 · rcases h3 b hb with h4 | h4
   · exact (hp.1 x hx).1 hw b h4 hx'
   · have := En.lt (h.all x (List.mem_cons_of_mem _ hx)) b hx'; omega
 · rcases h3 b hb with h4 | h4
   · exact (hp.1 x hx).1 hw b h4 hx'
   · have := En.lt (h.all x (List.mem_cons_of_mem _ hx)) b hx'; omega
 · rcases h3 b hb with h4 | h4
   · exact h.own e (List.mem_cons_self ..) hw b h4
   · exact .inr (Nat.le_trans h.size h4)
end
def stA (w : World) (b : Nat) : Nat -> List Value -> World
 | _, [] => w
 | k, u :: us => stA (w.setCell ⟨b, k, none⟩ u) b (k + 1) us
def setL : List Value -> Nat -> List Value -> List Value
 | cs, _, [] => cs
 | cs, k, u :: us => setL (cs.set k u) (k + 1) us
theorem RowAt.stA {b : Nat} {t : TypeId} : ∀ (us : List Value) (k : Nat) {w : World} {cs : List Value}, RowAt w b t cs -> RowAt (stA w b k us) b t (setL cs k us)
 | [], _, _, _, h => h
 | _ :: us, k, _, _, h => RowAt.stA us (k + 1) (h.set k _)
theorem Chg.stA {b : Nat} : ∀ (us : List Value) (k : Nat) {w w' : World}, Chg (· = b) w w' -> Chg (· = b) w (stA w' b k us)
 | [], _, _, _, h => h
 | _ :: us, k, _, _, h => Chg.stA us (k + 1) (h.set (p := ⟨b, k, none⟩) rfl _)
inductive Up (e e' : En) : Nat -> List En -> List En -> Prop where
 | z {l : List En} : Up e e' 0 (e :: l) (e' :: l)
 | s {x : En} {k : Nat} {l l' : List En} (h : Up e e' k l l') : Up e e' (k + 1) (x :: l) (x :: l')
section
variable {e e' : En}
theorem Up.set {k : Nat} {l l' : List En} (h : Up e e' k l l') : l' = l.set k e' /\ l[k]? = some e := by
 induction h with
 | z => exact ⟨rfl, rfl⟩
 | s _ ih => exact ⟨by rw [ih.1]; rfl, by simpa using ih.2⟩
theorem Up.other {k : Nat} {l l' : List En} (h : Up e e' k l l') {r : Nat} (hr : r ≠ k) : l'[r]? = l[r]? := by
 rw [h.set.1, List.getElem?_set_ne (fun e => hr e.symm)]
theorem Up.perm {k : Nat} {l l' : List En} (h : Up e e' k l l') : ∃ m, l.Perm (e :: m) /\ l'.Perm (e' :: m) := by
 induction h with
 | @z l => exact ⟨l, .refl _, .refl _⟩
 | @s x k l l' h ih =>
  obtain ⟨m, h1, h2⟩ := ih;exact ⟨x :: m, (h1.cons x).trans (.swap ..), (h2.cons x).trans (.swap ..)⟩
theorem Up.right {k : Nat} {l l' : List En} (h : Up e e' k l l') (g : List En) : ∃ m, (g ++ l).Perm (e :: m) /\ (g ++ l').Perm (e' :: m) := by
 obtain ⟨m, h1, h2⟩ := h.perm;exact ⟨g ++ m, (h1.append_left g).trans List.perm_middle, (h2.append_left g).trans List.perm_middle⟩
theorem Up.left {k : Nat} {l l' : List En} (h : Up e e' k l l') (g : List En) : ∃ m, (l ++ g).Perm (e :: m) /\ (l' ++ g).Perm (e' :: m) := by
 obtain ⟨m, h1, h2⟩ := h.perm;exact ⟨m ++ g, h1.append_right g, h2.append_right g⟩
end
theorem Fr.st {S0 : Nat -> Prop} {w0 w : World} {es es' m : List En} {b : Nat} {t : TypeId} {cs : List Value} (h : Fr S0 w0 w es) (us : List Value) (k : Nat) (hu : (NoW cs /\ t ≠ 52) ∨ ∀ e ∈ es, e.wl = false)
 (h1 : es.Perm (.row b t cs :: m)) (h2 : es'.Perm (.row b t (setL cs k us) :: m)) : Fr S0 w0 (stA w b k us) es' := by
 have h0 := h.perm h1;have hr : RowAt w b t cs := h0.all _ (List.mem_cons_self ..);refine Fr.perm (h0.upd rfl (e' := .row b t (setL cs k us)) (T := (· = b)) ((Chg.refl _ w).stA us k) (fun x hx hw => ?_) (fun _ h => h) (hr.stA us k) (fun _ h => .inl h)) h2.symm;rcases hu with ⟨hn, ht⟩ | hu
 · rintro g rfl; exact ⟨t, cs, hr, hn, ht⟩
 · rw [hu x (h1.mem_iff.2 (List.mem_cons_of_mem _ hx))] at hw; cases hw
def hideF : Nat -> List En -> List Nat -> List En
 | _, [], _ => []
 | i, e :: l, X => if X.contains i then hideF (i + 1) l X else e :: hideF (i + 1) l X
theorem hideF_nil : ∀ (l : List En) (i : Nat), hideF i l [] = l
 | [], _ => rfl
 | e :: l, i => by simp [hideF, hideF_nil l (i + 1)]
theorem hideF_sub (X : List Nat) : ∀ (E0 E : List En) (i : Nat), (∀ r, i + r ∉ X -> E[r]? = E0[r]?) -> (hideF i E0 X).Sublist E
 | [], E, i, _ => List.nil_sublist _
 | e :: l, E, i, h => by
  have ht : ∀ r, i + 1 + r ∉ X -> E.tail[r]? = l[r]? := fun r hr => by
   have := h (r + 1) (by rw [show i + (r + 1) = i + 1 + r by omega]; exact hr);rw [List.getElem?_tail];simpa using this
  have ih := hideF_sub X l E.tail (i + 1) ht;unfold hideF;split
  · exact ih.trans (List.tail_sublist _)
  · rename_i hc;have h0 := h 0 (by simpa using hc);cases E with
    | nil => simp at h0
    | cons x E =>
     simp at h0;subst h0;exact ih.cons_cons _
def isDet : Op -> Bool
 | .move _ | .assign _ | .pick .. | .load .. | .nilCheck _ | .binOp .. | .unOp .. | .convert .. | .slice .. | .fieldAddr .. | .field .. | .indexAddr .. | .index .. | .extract .. | .build .. => true
 | .call c => match c.callee with | .builtin .len | .builtin .cap | .builtin .min | .builtin .max => true | _ => false
 | _ => false
def isNew : Op -> Bool
 | .alloc _ | .box .. | .buildSlice .. | .makeSlice .. => true
 | _ => false
def isLd : Op -> Bool
 | .load .. | .convert .. => true
 | _ => false
def rowB (W j : Nat) : Nat := (W >>> (64 * j)) % 18446744073709551616
def dirB (W : Nat) (l : List Nat) : Nat := l.foldr (fun k s => s ||| (1 <<< k ||| rowB W k)) 0
def edgesOf (o : Oper) : List Nat := (o.after.toList.filter (Region.binds .any)).map (·.on)
def encB : List Oper -> Nat -> Nat -> Nat
 | [], _, W => W
 | o :: l, j, W => encB l (j + 1) (W ||| (dirB W (edgesOf o) <<< (64 * j)))
def pre (ops : Array Oper) (i j : Nat) : Bool := (rowB (encB ops.toList 0 0) j).testBit i
def opD (ops : Array Oper) (i : Nat) : Bool := ((ops[i]?).map fun o => isDet o.op).getD true
def upF : Nat -> Nat -> List Nat
 | 0, _ => []
 | k + 1, j => j :: upF k (j + 1)
def opL (ops : Array Oper) (i : Nat) : Bool := ((ops[i]?).map fun o => isLd o.op).getD false
def apt (ops : Array Oper) (i j : Nat) : Bool := match ops[i]?, ops[j]? with | some x, some y => x.apart ops y | _, _ => true
def okReg (ops : Array Oper) (n : Nat) : Bool := Region.noSelect ops && ((List.range n).all fun i => ((ops[i]?).map (·.after.all fun e => !Region.binds .any e || decide (e.on < i))).getD false) && (List.range n).all fun j =>
 rowB (encB ops.toList 0 0) j == dirB (encB ops.toList 0 0) (preOf ops j) &&
 (List.range j).all fun i => pre ops i j || (apt ops i j && (opD ops j || opD ops i || ((ops[j]?).map fun o => isNew o.op).getD false))
def okSt (ops : Array Oper) (hd : List (List Nat)) (j : Nat) (K : List Nat) : Bool := (List.range ops.size).all fun i => i == j || pre ops i j || !opL ops i || K.all fun r => (hd.getD i []).contains r
structure RC where
 P : Program
 ops : Array Oper
 Q : Exit -> Act -> World -> Prop
 S0 : Nat -> Prop
 w0 : World
 E0 : List En
 hd : List (List Nat)
def RC.V (C : RC) (j : Nat) (o : Oper) (w : World) : Prop := isLd o.op = true -> Fr C.S0 C.w0 w (hideF 0 C.E0 (C.hd.getD j []))
def Gives (P : Program) (ops : Array Oper) (o : Oper) (v : Value) (a : Act) (w : World) : Prop :=
 (Region.wanted o (yielded ops a.tmps) = true /\ ((execOp a.eval o).run P w = .ok (.value v) w ∨ ((execOp a.eval o).run P w = .ok .skip w /\ v = undef))) ∨
 (Region.wanted o (yielded ops a.tmps) = false /\ v = undef)
def NewOk (C : RC) (o : Oper) (a : Act) (mk : Nat -> Value) (t : TypeId) (cs : List Value) : Prop :=
 Region.wanted o (yielded C.ops a.tmps) = true /\ ∀ w, (execOp a.eval o).run C.P w = .ok (.value (mk w.heap.size)) (w.alloc (.cells cs.toArray t (0, 0)))
def wpR (P : Program) (K : Value -> World -> Prop) : Result Next -> Prop
 | .ok (.value v) w' => K v w'
 | .ok .skip w' => K undef w'
 | .ok (.enter f args) w' => Calls P f args w' fun e w'' => ∃ v, e = .returned v /\ K v w''
 | .ok (.row row args) w' => Rows P row args w' K
 | _ => False
theorem wpR.mono {P : Program} {K K' : Value -> World -> Prop} (hK : ∀ v w, K v w -> K' v w) {r : Result Next} (h : wpR P K r) : wpR P K' r := by
 cases r with
 | halt x w' => exact h
 | ok n w' =>
  cases n with
  | value v => exact hK _ _ h
  | skip => exact hK _ _ h
  | enter f args => exact Calls.mono h fun e w'' ⟨v, hv, hk⟩ => ⟨v, hv, hK _ _ hk⟩
  | row row args => exact Rows.mono h fun v w'' hk => hK _ _ hk
  | _ => exact h.elim
def ChainOk (C : RC) (o : Oper) (a : Act) (G E : List En) {α : Type} (mk : α -> Value) (G' E' : α -> List En) : Prop :=
 ∀ X w, (∀ e ∈ X, e.wl = false) -> Fr C.S0 C.w0 w (X ++ (G ++ E)) -> if Region.wanted o (yielded C.ops a.tmps) = true then wpR C.P (fun v w' => ∃ p, v = mk p /\ Fr C.S0 C.w0 w' (X ++ (G' p ++ E' p))) ((execOp a.eval o).run C.P w) else ∃ p, undef = mk p /\ Fr C.S0 C.w0 w (X ++ (G' p ++ E' p))
def RW (C : RC) : List Nat -> List En -> List En -> Act -> Prop
 | [], G, E, a => ∀ w, Fr C.S0 C.w0 w (G ++ E) -> C.Q .normal a w
 | j :: l, G, E, a => ∃ o, C.ops[j]? = some o /\
  ((isDet o.op = true /\ ∃ v, (∀ w, C.V j o w -> Gives C.P C.ops o v a w) /\ RW C l G E (a.put o.dst v)) ∨
   (isDet o.op = false /\ isNew o.op = true /\ ∃ mk t cs, NewOk C o a mk t cs /\ ∀ g, RW C l (.row g t cs :: G) E (a.put o.dst (mk g))) ∨
   (isDet o.op = false /\ isNew o.op = false /\ ∃ (α : Type) (mk : α -> Value) (G' E' : α -> List En) (K : List Nat), Nonempty α /\ ChainOk C o a G E mk G' E' /\ okSt C.ops C.hd j K = true /\
    (∀ p r, r ∉ K -> (E' p)[r]? = E[r]?) /\ ∀ p, RW C l (G' p) (E' p) (a.put o.dst (mk p))))
theorem RW.perm {C : RC} : ∀ (l : List Nat) {G G' E : List En} {a : Act}, G.Perm G' -> RW C l G E a -> RW C l G' E a
 | [], G, G', E, a, hp, h => fun w hw => h w (hw.perm (hp.symm.append_right E))
 | j :: l, G, G', E, a, hp, h => by
  obtain ⟨o, ho, h⟩ := h;refine ⟨o, ho, ?_⟩;rcases h with ⟨hk, v, hg, hr⟩ | ⟨hk, hk2, mk, t, cs, hn, hr⟩ | ⟨hk, hk2, α, mk, G1, E1, K, hne, hc, hK, hE, hr⟩
  · exact .inl ⟨hk, v, hg, RW.perm l hp hr⟩
  · exact .inr (.inl ⟨hk, hk2, mk, t, cs, hn, fun g => RW.perm l (hp.cons _) (hr g)⟩)
  · exact .inr (.inr ⟨hk, hk2, α, mk, G1, E1, K, hne, fun X w hX hw => hc X w hX (hw.perm ((hp.symm.append_right E).append_left X)), hK, hE, hr⟩)
section
variable {C : RC} {a : Act} {o x : Oper}
theorem gives_put (hs : ∀ cs b, o.op ≠ .select cs b) {d : Option Tmp} (h : ∀ e, d = some e -> e ∉ o.looksAt C.ops) (u v : Value) (w : World) : Gives C.P C.ops o v (a.put d u) w ↔ Gives C.P C.ops o v a w := by
 unfold Gives;rw [execOp_put o hs a d u h, wanted_put o a d u h]
theorem Gives.uniq {v v' : Value} {w : World} (h : Gives C.P C.ops o v a w) (h' : Gives C.P C.ops o v' a w) : v = v' := by
 unfold Gives at *;rcases h with ⟨h1, h2⟩ | ⟨h1, h2⟩ <;> rcases h' with ⟨h3, h4⟩ | ⟨h3, h4⟩
 · rcases h2 with h2 | ⟨h2, e⟩ <;> rcases h4 with h4 | ⟨h4, e'⟩
   · rw [h2] at h4; cases h4; rfl
   · rw [h2] at h4; cases h4
   · rw [h2] at h4; cases h4
   · rw [e, e']
 · rw [h1] at h3; cases h3
 · rw [h1] at h3; cases h3
 · rw [h2, h4]
theorem newOk_put (hs : ∀ cs b, o.op ≠ .select cs b) {d : Option Tmp} (h : ∀ e, d = some e -> e ∉ o.looksAt C.ops) (u : Value) {mk : Nat -> Value} {t : TypeId} {cs : List Value} (hn : NewOk C o a mk t cs) : NewOk C o (a.put d u) mk t cs := by
 unfold NewOk at *;rw [execOp_put o hs a d u h, wanted_put o a d u h];exact hn
theorem newOk_put' (hs : ∀ cs b, o.op ≠ .select cs b) {d : Option Tmp} (h : ∀ e, d = some e -> e ∉ o.looksAt C.ops) (u : Value) {mk : Nat -> Value} {t : TypeId} {cs : List Value} (hn : NewOk C o (a.put d u) mk t cs) : NewOk C o a mk t cs := by
 unfold NewOk at *;rw [execOp_put o hs a d u h, wanted_put o a d u h] at hn;exact hn
theorem chainOk_put (hs : ∀ cs b, o.op ≠ .select cs b) {d : Option Tmp} (h : ∀ e, d = some e -> e ∉ o.looksAt C.ops) (u : Value) {G E : List En} {α : Type} {mk : α -> Value} {G' E' : α -> List En} : ChainOk C o (a.put d u) G E mk G' E' ↔ ChainOk C o a G E mk G' E' := by
 unfold ChainOk;rw [execOp_put o hs a d u h, wanted_put o a d u h]
end
theorem wpR.wp {P : Program} {ops : Array Oper} {Q : Exit -> Act -> World -> Prop} {i : Nat} {o : Oper} {a : Act} {w : World} {K : Value -> World -> Prop} {K' : Act -> World -> Prop} (hi : ops[i]? = some o)
 (h : if Region.wanted o (yielded ops a.tmps) = true then wpR P K ((execOp a.eval o).run P w) else K undef w) (hK : ∀ v w', K v w' -> K' (a.put o.dst v) w') : wpOp P ops Q i K' a w := by
 unfold wpOp;simp only [hi];split
 · rename_i hw;rw [if_pos hw] at h;refine .inl ?_;unfold Oper.wp;generalize (execOp a.eval o).run P w = r at *;cases r with
   | halt x w' => exact h.elim
   | ok n w' =>
    cases n with
    | value v => exact hK _ _ h
    | skip => exact hK _ _ h
    | enter f args =>
     refine Calls.mono h fun e w'' he => ?_;obtain ⟨v, rfl, hv⟩ := he;exact hK _ _ hv
    | row row args => exact Rows.mono h fun v w'' he => hK _ _ he
    | _ => exact h.elim
 · rename_i hw;rw [if_neg hw] at h;exact hK _ _ h
theorem apart3 {C : RC} {x y : Oper} (h : x.apart C.ops y = true) : (∀ d, x.dst = some d -> d ∉ y.looksAt C.ops) /\ (∀ d, x.dst = some d -> y.dst ≠ some d) /\ (∀ d, y.dst = some d -> d ∉ x.looksAt C.ops) := Oper.apart_spec h
theorem RW.det {C : RC} (hs : Region.noSelect C.ops = true) {j : Nat} {o : Oper} (ho : C.ops[j]? = some o) (hk : isDet o.op = true) {w1 : World} (hw1 : C.V j o w1) (l2 : List Nat) :
 ∀ (l1 : List Nat) {G E : List En} {a : Act}, RW C (l1 ++ j :: l2) G E a -> (∀ i ∈ l1, ∀ x, C.ops[i]? = some x -> x.apart C.ops o = true) -> ∃ v, (∀ w, C.V j o w -> Gives C.P C.ops o v a w) /\ RW C (l1 ++ l2) G E (a.put o.dst v)
 | [], G, E, a, h, _ => by
  obtain ⟨o', ho', h⟩ := h;rw [ho] at ho'; cases ho';rcases h with ⟨_, v, hg, hr⟩ | ⟨h, _⟩ | ⟨h, _⟩
  · exact ⟨v, hg, hr⟩
  · rw [hk] at h; cases h
  · rw [hk] at h; cases h
 | i :: l1, G, E, a, h, hap => by
  obtain ⟨x, hx, h⟩ := h;obtain ⟨h1, h2, h3⟩ := apart3 (hap i (List.mem_cons_self ..) x hx);have hso := Region.noSelect_spec hs j o (ho := ho);have hsx := Region.noSelect_spec hs i x (ho := hx);have hap' := fun k hk => hap k (List.mem_cons_of_mem _ hk);have sw : ∀ (u v : Value), (a.put x.dst u).put o.dst v = (a.put o.dst v).put x.dst u := fun u v => Act.put_comm a u v h2;rcases h with ⟨hxk, u, hg, hr⟩ | ⟨hxk, hxk2, mk, t, cs, hn, hr⟩ | ⟨hxk, hxk2, α, mk, G1, E1, K, hne, hc, hK, hE, hr⟩
  · obtain ⟨v, hv, hr'⟩ := RW.det hs ho hk hw1 l2 l1 hr hap';exact ⟨v, fun w hw => (gives_put hso h1 u v w).1 (hv w hw), x, hx, .inl ⟨hxk, u, fun w hw => (gives_put hsx h3 v u w).2 (hg w hw), by rw [<- sw]; exact hr'⟩⟩
  · have ih := fun g => RW.det hs ho hk hw1 l2 l1 (hr g) hap';obtain ⟨v, hv, _⟩ := ih 0;have hv0 := fun w hw => (gives_put hso h1 (mk 0) v w).1 (hv w hw);refine ⟨v, hv0, x, hx, .inr (.inl ⟨hxk, hxk2, mk, t, cs, newOk_put hsx h3 v hn, fun g => ?_⟩)⟩;obtain ⟨v', hv', hr'⟩ := ih g;obtain rfl := Gives.uniq (hv0 w1 hw1) ((gives_put hso h1 (mk g) v' w1).1 (hv' w1 hw1));rw [<- sw]; exact hr'
  · have ih := fun p => RW.det hs ho hk hw1 l2 l1 (hr p) hap';obtain ⟨p0⟩ := hne;obtain ⟨v, hv, _⟩ := ih p0;have hv0 := fun w hw => (gives_put hso h1 (mk p0) v w).1 (hv w hw);refine ⟨v, hv0, x, hx, .inr (.inr ⟨hxk, hxk2, α, mk, G1, E1, K, ⟨p0⟩, (chainOk_put hsx h3 v).2 hc, hK, hE, fun p => ?_⟩)⟩;obtain ⟨v', hv', hr'⟩ := ih p;obtain rfl := Gives.uniq (hv0 w1 hw1) ((gives_put hso h1 (mk p) v' w1).1 (hv' w1 hw1));rw [<- sw]; exact hr'
theorem RW.new {C : RC} (hs : Region.noSelect C.ops = true) {j : Nat} {o : Oper} (ho : C.ops[j]? = some o) (hk : isDet o.op = false) (hk2 : isNew o.op = true) (l2 : List Nat) :
 ∀ (l1 : List Nat) {G E : List En} {a : Act}, RW C (l1 ++ j :: l2) G E a -> (∀ i ∈ l1, ∀ x, C.ops[i]? = some x -> x.apart C.ops o = true) -> ∃ mk t cs, NewOk C o a mk t cs /\ ∀ g, RW C (l1 ++ l2) (.row g t cs :: G) E (a.put o.dst (mk g))
 | [], G, E, a, h, _ => by
  obtain ⟨o', ho', h⟩ := h;rw [ho] at ho'; cases ho';rcases h with ⟨h, _⟩ | ⟨_, _, h⟩ | ⟨_, h, _⟩
  · rw [hk] at h; cases h
  · exact h
  · rw [hk2] at h; cases h
 | i :: l1, G, E, a, h, hap => by
  obtain ⟨x, hx, h⟩ := h;obtain ⟨h1, h2, h3⟩ := apart3 (hap i (List.mem_cons_self ..) x hx);have hso := Region.noSelect_spec hs j o (ho := ho);have hsx := Region.noSelect_spec hs i x (ho := hx);have hap' := fun k hk => hap k (List.mem_cons_of_mem _ hk);have sw : ∀ (u v : Value), (a.put x.dst u).put o.dst v = (a.put o.dst v).put x.dst u := fun u v => Act.put_comm a u v h2;have un : ∀ {mk mk' : Nat -> Value} {t t' : TypeId} {cs cs' : List Value}, NewOk C o a mk t cs -> NewOk C o a mk' t' cs' -> t = t' /\ cs = cs' /\ ∀ g, (∃ w : World, w.heap.size = g) -> mk g = mk' g := by
   intro mk mk' t t' cs cs' h h';have key : ∀ w : World, t = t' /\ cs = cs' /\ mk w.heap.size = mk' w.heap.size := by
    intro w;have e := (h.2 w).symm.trans (h'.2 w);simp only [Result.ok.injEq, Next.value.injEq] at e;have e2 : (w.heap.push (.cells cs.toArray t (0, 0))).back? = (w.heap.push (.cells cs'.toArray t' (0, 0))).back? := congrArg (fun u : World => u.heap.back?) e.2;simp only [Array.back?_push, Option.some.injEq, Obj.cells.injEq] at e2;exact ⟨e2.2.1, by simpa using e2.1, e.1⟩
   exact ⟨(key C.w0).1, (key C.w0).2.1, fun g ⟨w, hw⟩ => hw ▸ (key w).2.2⟩
  have hex : ∀ g, ∃ w : World, w.heap.size = g := fun g => ⟨{ C.w0 with heap := Array.replicate g default }, by simp⟩;rcases h with ⟨hxk, u, hg, hr⟩ | ⟨hxk, hxk2, mk, t, cs, hn, hr⟩ | ⟨hxk, hxk2, α, mk, G1, E1, K, hne, hc, hK, hE, hr⟩
  · obtain ⟨mk, t, cs, hn, hr'⟩ := RW.new hs ho hk hk2 l2 l1 hr hap';have hn' := newOk_put' hso h1 u hn;exact ⟨mk, t, cs, hn', fun g => ⟨x, hx, .inl ⟨hxk, u, fun w hw => (gives_put hsx h3 _ u w).2 (hg w hw), by rw [<- sw]; exact hr' g⟩⟩⟩
  · have ih := fun g => RW.new hs ho hk hk2 l2 l1 (hr g) hap';obtain ⟨mk0, t0, cs0, hn0, _⟩ := ih 0;have hn0' := newOk_put' hso h1 _ hn0;refine ⟨mk0, t0, cs0, hn0', fun g => ⟨x, hx, .inr (.inl ⟨hxk, hxk2, mk, t, cs, newOk_put hsx h3 _ hn, fun g' => ?_⟩)⟩⟩;obtain ⟨mk1, t1, cs1, hn1, hr1⟩ := ih g';obtain ⟨rfl, rfl, hm⟩ := un hn0' (newOk_put' hso h1 _ hn1);rw [<- sw, hm g (hex g)];exact RW.perm _ (.swap ..) (hr1 g)
  · have ih := fun p => RW.new hs ho hk hk2 l2 l1 (hr p) hap';obtain ⟨p0⟩ := hne;obtain ⟨mk0, t0, cs0, hn0, _⟩ := ih p0;have hn0' := newOk_put' hso h1 _ hn0;refine ⟨mk0, t0, cs0, hn0', fun g => ⟨x, hx, .inr (.inr ⟨hxk, hxk2, α, mk, fun p => .row g t0 cs0 :: G1 p, E1, K, ⟨p0⟩, ?_, hK, hE, fun p => ?_⟩)⟩⟩
    · intro X w hX hw;have hp : ∀ G2 E2 : List En, (X ++ ((.row g t0 cs0 :: G2) ++ E2)).Perm ((.row g t0 cs0 :: X) ++ (G2 ++ E2)) := fun G2 E2 => List.perm_middle;have := (chainOk_put hsx h3 (mk0 g)).2 hc (.row g t0 cs0 :: X) w (fun e he => (List.mem_cons.1 he).elim (fun q => q ▸ rfl) (hX e)) (hw.perm (hp G E));split
      · rename_i hwt;rw [if_pos hwt] at this;exact this.mono fun v w' ⟨p, e, hf⟩ => ⟨p, e, hf.perm (hp _ _).symm⟩
      · rename_i hwt;rw [if_neg hwt] at this;obtain ⟨p, e, hf⟩ := this;exact ⟨p, e, hf.perm (hp _ _).symm⟩
    · obtain ⟨mk1, t1, cs1, hn1, hr1⟩ := ih p;obtain ⟨rfl, rfl, hm⟩ := un hn0' (newOk_put' hso h1 _ hn1);rw [<- sw, hm g (hex g)];exact hr1 g
theorem RW.chain {C : RC} (hs : Region.noSelect C.ops = true) {j : Nat} {o : Oper} (ho : C.ops[j]? = some o) (hk : isDet o.op = false) (hk2 : isNew o.op = false) (l2 : List Nat) :
 ∀ (l1 : List Nat) {G E : List En} {a : Act}, RW C (l1 ++ j :: l2) G E a -> (∀ i ∈ l1, ∀ x, C.ops[i]? = some x -> x.apart C.ops o = true /\ isDet x.op = true) ->
  ∃ (α : Type) (mk : α -> Value) (G' E' : α -> List En) (K : List Nat), Nonempty α /\ ChainOk C o a G E mk G' E' /\ okSt C.ops C.hd j K = true /\ (∀ p r, r ∉ K -> (E' p)[r]? = E[r]?) /\ ∀ p, RW C (l1 ++ l2) (G' p) (E' p) (a.put o.dst (mk p))
 | [], G, E, a, h, _ => by
  obtain ⟨o', ho', h⟩ := h;rw [ho] at ho'; cases ho';rcases h with ⟨h, _⟩ | ⟨_, h, _⟩ | ⟨_, _, h⟩
  · rw [hk] at h; cases h
  · rw [hk2] at h; cases h
  · exact h
 | i :: l1, G, E, a, h, hap => by
  obtain ⟨x, hx, h⟩ := h;obtain ⟨hap0, hxd⟩ := hap i (List.mem_cons_self ..) x hx;obtain ⟨h1, h2, h3⟩ := apart3 hap0;have hso := Region.noSelect_spec hs j o (ho := ho);have hsx := Region.noSelect_spec hs i x (ho := hx);rcases h with ⟨hxk, u, hg, hr⟩ | ⟨h, _⟩ | ⟨h, _⟩
  · obtain ⟨α, mk, G1, E1, K, hne, hc, hK, hE, hr'⟩ := RW.chain hs ho hk hk2 l2 l1 hr (fun k hk => hap k (List.mem_cons_of_mem _ hk));exact ⟨α, mk, G1, E1, K, hne, (chainOk_put hso h1 u).1 hc, hK, hE, fun p => ⟨x, hx, .inl ⟨hxk, u, fun w hw => (gives_put hsx h3 _ u w).2 (hg w hw), by rw [<- Act.put_comm a u _ h2]; exact hr' p⟩⟩⟩
  · rw [hxd] at h; cases h
  · rw [hxd] at h; cases h
theorem mem_upF : ∀ (k j i : Nat), i ∈ upF k j ↔ j <= i /\ i < j + k
 | 0, j, i => by simp [upF]
 | k + 1, j, i => by
  unfold upF;rw [List.mem_cons, mem_upF k (j + 1) i];omega
theorem upF_sorted : ∀ (k j : Nat), (upF k j).Pairwise (· < ·)
 | 0, _ => .nil
 | k + 1, j => List.pairwise_cons.2 ⟨fun i hi => by have := (mem_upF k (j + 1) i).1 hi; omega, upF_sorted k (j + 1)⟩
theorem dirB_bit (W i : Nat) : ∀ l : List Nat, (dirB W l).testBit i = true -> ∃ k ∈ l, k = i ∨ (rowB W k).testBit i = true
 | [], h => by simp [dirB] at h
 | k :: l, h => by
  unfold dirB at h;simp only [List.foldr_cons, Nat.testBit_or, Bool.or_eq_true] at h;rcases h with h | h | h
  · obtain ⟨q, hq, h⟩ := dirB_bit W i l h;exact ⟨q, List.mem_cons_of_mem _ hq, h⟩
  · refine ⟨k, List.mem_cons_self .., .inl ?_⟩;rw [Nat.one_shiftLeft, Nat.testBit_two_pow] at h;simpa using h
  · exact ⟨k, List.mem_cons_self .., .inr h⟩
theorem pre_done {ops : Array Oper} {n : Nat} (hc : ∀ j < n, rowB (encB ops.toList 0 0) j = dirB (encB ops.toList 0 0) (preOf ops j)) (hlt : ∀ j < n, ∀ k ∈ preOf ops j, k < j) {L : Nat -> Bool} (hg : ∀ k < n, L k = true -> ∀ j ∈ preOf ops k, L j = true) :
 ∀ (j : Nat), j < n -> (∀ k ∈ preOf ops j, L k = true) -> ∀ i, pre ops i j = true -> L i = true := by
 intro j;induction j using Nat.strongRecOn with
 | _ j ih =>
  intro hj hp i hij;unfold pre at hij;rw [hc j hj] at hij;obtain ⟨k, hk, rfl | hik⟩ := dirB_bit _ i _ hij
  · exact hp _ hk
  · exact ih k (hlt j hj k hk) (Nat.lt_trans (hlt j hj k hk) hj) (hg k (Nat.lt_trans (hlt j hj k hk) hj) (hp k hk)) i hik
theorem pre_lt {ops : Array Oper} {n : Nat} (hc : ∀ j < n, rowB (encB ops.toList 0 0) j = dirB (encB ops.toList 0 0) (preOf ops j)) (hlt : ∀ j < n, ∀ k ∈ preOf ops j, k < j) {i j : Nat} (hj : j < n) (h : pre ops i j = true) : i < j := by
 have := pre_done hc hlt (L := fun i => decide (i < j)) (fun k hk hLk q hq => by
  simp only [decide_eq_true_eq] at hLk ⊢;exact Nat.lt_trans (hlt k hk q hq) hLk) j hj (fun k hk => by simpa using hlt j hj k hk) i h
 simpa using this
def decA (df : List Deferred) (x : Nat -> Value) : Act := ⟨match x 0 with | .tuple t => t | _ => #[], df⟩
theorem decA_mk (a : Act) : decA a.defers (fun _ => .tuple a.tmps) = a := rfl
theorem put_defers' (a : Act) (d : Option Tmp) (v : Value) : (a.put d v).defers = a.defers := by cases d <;> rfl
theorem decA_put (df : List Deferred) (x : Nat -> Value) (d : Option Tmp) (v : Value) : ∃ x', (decA df x).put d v = decA df x' :=
 ⟨fun _ => .tuple ((decA df x).put d v).tmps, by
  have h := decA_mk ((decA df x).put d v);rw [put_defers'] at h;exact h.symm⟩
structure RSt (C : RC) (n : Nat) (L : Nat -> Bool) (a : Act) (w : World) (l : List Nat) (G E : List En) (Kt : List Nat) : Prop where
 sub : l.Sublist (upF n 0)
 mem : ∀ i, i < n -> (i ∈ l ↔ L i = false)
 rw_ : RW C l G E a
 fr : Fr C.S0 C.w0 w (G ++ E)
 keep : ∀ r, r ∉ Kt -> E[r]? = C.E0[r]?
 hid : ∀ i ∈ l, opL C.ops i = true -> ∀ r ∈ Kt, r ∈ C.hd.getD i []
theorem okReg_spec {ops : Array Oper} {n : Nat} (hok : okReg ops n = true) : Region.noSelect ops = true /\ ((List.range n).all fun i => ((ops[i]?).map (·.after.all fun e => !Region.binds .any e || decide (e.on < i))).getD false) = true /\
 (∀ j < n, rowB (encB ops.toList 0 0) j = dirB (encB ops.toList 0 0) (preOf ops j)) /\ (∀ j < n, ∀ i < j, pre ops i j = true ∨ (apt ops i j = true /\ (opD ops j = true ∨ opD ops i = true ∨ ((ops[j]?).map fun o => isNew o.op).getD false = true))) /\ ∀ j < n, ∀ k ∈ preOf ops j, k < j := by
 unfold okReg at hok;simp only [Bool.and_eq_true] at hok;obtain ⟨⟨hs, hb⟩, hok⟩ := hok;have hok0 : ∀ j < n, _ := fun j hj => List.all_eq_true.1 hok j (List.mem_range.2 hj);simp only [Bool.and_eq_true, beq_iff_eq] at hok0;refine ⟨hs, hb, fun j hj => (hok0 j hj).1, fun j hj i hi => ?_, fun j hj k hk => ?_⟩
 · have := List.all_eq_true.1 (hok0 j hj).2 i (List.mem_range.2 hi);simp only [Bool.or_eq_true, Bool.and_eq_true, or_assoc] at this;exact this
 · have := List.all_eq_true.1 hb j (List.mem_range.2 hj);unfold preOf at hk;cases ho : ops[j]? with
   | none => rw [ho] at hk; simp at hk
   | some o =>
    rw [ho] at this hk;simp only [Option.map_some, Option.getD_some, List.mem_map, List.mem_filter] at hk this;obtain ⟨e, ⟨he, hbd⟩, rfl⟩ := hk;rw [Array.all_eq_true] at this;obtain ⟨q, hq, rfl⟩ := Array.mem_iff_getElem.1 (Array.mem_def.2 he);have := this q hq;rw [hbd] at this;simpa using this
theorem rgA1 (C : RC) {n : Nat} {a : Act} {w : World} (hn : C.ops.size = n) (hok : okReg C.ops n = true) (H : Fr C.S0 C.w0 w C.E0) (h : RW C (upF n 0) [] C.E0 a) : wpAny C.P .any C.ops C.Q C.ops.size (Array.replicate C.ops.size false) a w.drew := by
 obtain ⟨hs, hb, hc, hok1, hlt⟩ := okReg_spec hok;refine any_inv hn hb (decA a.defers) (fun L x w' => ∃ l G E Kt, RSt C n L (decA a.defers x) w' l G E Kt) (fun _ => .tuple a.tmps) (decA_mk a).symm ?_ ?_ ?_
 · exact ⟨upF n 0, [], C.E0, [], .refl _, fun i hi => by simp [mem_upF, hi], h, H.drew, fun _ _ => rfl, fun _ _ _ _ hr => by cases hr⟩
 · rintro j hj L x w' ⟨l, G, E, Kt, S⟩ hG hL hp;have hp := preOf_spec L j hp;have hG' : ∀ k < n, L k = true -> ∀ i ∈ preOf C.ops k, L i = true := fun k hk hLk => preOf_spec L k (hG k hk hLk);have hpd := pre_done hc hlt hG' j hj hp;have hjl := (S.mem j hj).2 hL;obtain ⟨l1, l2, rfl⟩ := List.append_of_mem hjl;have hsort := (upF_sorted n 0).sublist S.sub;have hin : ∀ i ∈ l1 ++ j :: l2, i < n := fun i hi => by have := (mem_upF n 0 i).1 (S.sub.subset hi); omega
   have h1 : ∀ i ∈ l1, i < j := fun i hi => (List.pairwise_append.1 hsort).2.2 i hi j (List.mem_cons_self ..);have h2 : ∀ i ∈ l2, j < i := fun i hi => (List.pairwise_cons.1 (List.pairwise_append.1 hsort).2.1).1 i hi;have hnp : ∀ i ∈ l1 ++ j :: l2, pre C.ops i j = false := fun i hi => by
    cases hq : pre C.ops i j with
    | false => rfl
    | true =>
     have e1 := hpd i hq;rw [(S.mem i (hin i hi)).1 hi] at e1; cases e1
   obtain ⟨o, ho⟩ : ∃ o, C.ops[j]? = some o := ⟨_, Array.getElem?_eq_getElem (by omega)⟩;have hap : ∀ i ∈ l1, ∀ x, C.ops[i]? = some x -> x.apart C.ops o = true /\ (isDet o.op = true ∨ isDet x.op = true ∨ isNew o.op = true) := by
    intro i hi x hx;rcases hok1 j hj i (h1 i hi) with h | h
    · rw [hnp i (List.mem_append_left _ hi)] at h; cases h
    · simpa [apt, opD, ho, hx] using h
   have hsub : (l1 ++ l2).Sublist (l1 ++ j :: l2) := List.Sublist.append_left (List.sublist_cons_self ..) l1;have hmem : ∀ i, i < n -> (i ∈ l1 ++ l2 ↔ (if i = j then true else L i) = false) := by
    intro i hi;by_cases hij : i = j
    · subst hij;simp only [if_true, List.mem_append];constructor
      · rintro (h | h)
        · exact absurd (h1 _ h) (Nat.lt_irrefl _)
        · exact absurd (h2 _ h) (Nat.lt_irrefl _)
      · intro h; cases h
    · rw [if_neg hij, <- S.mem i hi];simp [hij]
   cases hk : isDet o.op with
   | true =>
    have hw1 : C.V j o w' := by
     intro hl;refine S.fr.sub ((hideF_sub _ C.E0 E 0 fun r hr => S.keep r fun hk' => hr ?_).trans (List.sublist_append_right ..));rw [Nat.zero_add];exact S.hid j hjl (by simp [opL, ho, hl]) r hk'
    obtain ⟨v, hv, hr⟩ := RW.det hs ho hk hw1 l2 l1 S.rw_ (fun i hi x hx => (hap i hi x hx).1);refine wpR.wp (K := fun u w2 => u = v /\ w2 = w') ho ?_ ?_
    · rcases hv w' hw1 with ⟨e1, e2⟩ | ⟨e1, e2⟩
      · rw [if_pos e1];rcases e2 with e2 | ⟨e2, e3⟩
        · rw [e2]; exact ⟨rfl, rfl⟩
        · rw [e2, e3]; exact ⟨rfl, rfl⟩
      · rw [if_neg (by rw [e1]; decide), e2]; exact ⟨rfl, rfl⟩
    · rintro u w2 ⟨rfl, rfl⟩;obtain ⟨x', hx'⟩ := decA_put a.defers x o.dst u;exact ⟨x', hx', l1 ++ l2, G, E, Kt, hsub.trans S.sub, hmem, by rw [<- hx']; exact hr, S.fr, S.keep, fun i hi => S.hid i (hsub.subset hi)⟩
   | false =>
    cases hk2 : isNew o.op with
    | true =>
     obtain ⟨mk, t, cs, hnw, hr⟩ := RW.new hs ho hk hk2 l2 l1 S.rw_ (fun i hi x hx => (hap i hi x hx).1);refine wpR.wp (K := fun u w2 => u = mk w'.heap.size /\ w2 = w'.alloc (.cells cs.toArray t (0, 0))) ho ?_ ?_
     · rw [if_pos hnw.1, hnw.2 w']; exact ⟨rfl, rfl⟩
     · rintro u w2 ⟨rfl, rfl⟩;obtain ⟨x', hx'⟩ := decA_put a.defers x o.dst (mk w'.heap.size);refine ⟨x', hx', l1 ++ l2, _, E, Kt, hsub.trans S.sub, hmem, by rw [<- hx']; exact hr _, ?_, S.keep, fun i hi => S.hid i (hsub.subset hi)⟩;exact S.fr.new (e := .row w'.heap.size t cs) ((Below.refl _ _).alloc (Nat.le_refl _) _) (by have := RowAt.new w' cs.toArray t; simpa [En.F] using this) (by rintro b rfl; exact Nat.le_refl _)
    | false =>
     obtain ⟨α, mk, G1, E1, K, hne, hc, hK, hE, hr⟩ := RW.chain hs ho hk hk2 l2 l1 S.rw_ (fun i hi x hx => by
      obtain ⟨q1, q2⟩ := hap i hi x hx;rw [hk, hk2] at q2;exact ⟨q1, by simpa using q2⟩)
     refine wpR.wp (K := fun u w2 => ∃ p, u = mk p /\ Fr C.S0 C.w0 w2 (G1 p ++ E1 p)) ho (hc [] w' (fun _ h => (List.not_mem_nil h).elim) S.fr) ?_;rintro u w2 ⟨p, rfl, hf⟩;obtain ⟨x', hx'⟩ := decA_put a.defers x o.dst (mk p);refine ⟨x', hx', l1 ++ l2, G1 p, E1 p, K ++ Kt, hsub.trans S.sub, hmem, by rw [<- hx']; exact hr p, hf, fun r hr' => ?_, fun i hi hid r hr' => ?_⟩
     · rw [hE p r (fun h => hr' (List.mem_append_left _ h))];exact S.keep r (fun h => hr' (List.mem_append_right _ h))
     · rcases List.mem_append.1 hr' with hr' | hr'
       · unfold okSt at hK;have := List.all_eq_true.1 hK i (List.mem_range.2 (by rw [hn]; exact hin i (hsub.subset hi)));simp only [Bool.or_eq_true, beq_iff_eq, Bool.not_eq_true', List.all_eq_true, List.contains_iff_mem] at this;have hij : i ≠ j := fun e => by
          subst e;rcases List.mem_append.1 hi with h | h
          · exact absurd (h1 _ h) (Nat.lt_irrefl _)
          · exact absurd (h2 _ h) (Nat.lt_irrefl _)
         rcases this with ((h | h) | h) | h
         · exact absurd h hij
         · rw [hnp i (hsub.subset hi)] at h; cases h
         · rw [hid] at h; cases h
         · exact h r hr'
       · exact S.hid i (hsub.subset hi) hid r hr'
 · rintro L x w' hL ⟨l, G, E, Kt, S⟩;have : l = [] := by
    cases l with
    | nil => rfl
    | cons i l =>
     have hi := (mem_upF n 0 i).1 (S.sub.subset (List.mem_cons_self ..));have := (S.mem i (by omega)).1 (List.mem_cons_self ..);rw [hL i (by omega)] at this; cases this
   subst this;exact S.rw_ w' S.fr
theorem rgA (C : RC) {id n : Nat} {a : Act} {w : World} (hm : C.P.follows .mixedOrders = true) (hn : C.ops.size = n) (hok : okReg C.ops n = true) (H : Fr C.S0 C.w0 w C.E0) (h : RW C (upF n 0) [] C.E0 a) : (Code.region id C.ops true).wp C.P C.Q a w := wp_region_any hm (rgA1 C hn hok H h)
theorem rgB (C : RC) {n : Nat} (hn : C.ops.size = n) (hok : okReg C.ops n = true) : ∀ (l : List Nat) {G E : List En} {Kt : List Nat} {a : Act} {w : World}, l.Pairwise (· < ·) -> (∀ i ∈ l, i < n) -> RW C l G E a -> Fr C.S0 C.w0 w (G ++ E) -> (∀ r, r ∉ Kt -> E[r]? = C.E0[r]?) -> (∀ i ∈ l, opL C.ops i = true -> ∀ r ∈ Kt, r ∈ C.hd.getD i []) -> wpOps C.P C.ops C.Q l a w
 | [], G, E, Kt, a, w, _, _, h, hf, _, _ => h w hf
 | j :: l, G, E, Kt, a, w, hsrt, hin, h, hf, hkp, hid => by
  obtain ⟨hs, hb, hc, hok1, hlt⟩ := okReg_spec hok;rw [wpOps_cons];obtain ⟨o, ho, h⟩ := h;have hjn := hin j (List.mem_cons_self ..);have hs2 := List.pairwise_cons.1 hsrt;have hin' := fun i hi => hin i (List.mem_cons_of_mem _ hi);have hid' := fun i hi => hid i (List.mem_cons_of_mem _ hi);rcases h with ⟨hk, v, hv, hr⟩ | ⟨hk, hk2, mk, t, cs, hnw, hr⟩ | ⟨hk, hk2, α, mk, G1, E1, K, hne, hcn, hK, hE, hr⟩
  · have hw1 : C.V j o w := by
     intro hl;refine hf.sub ((hideF_sub _ C.E0 E 0 fun r hr => hkp r fun hk' => hr ?_).trans (List.sublist_append_right ..));rw [Nat.zero_add];exact hid j (List.mem_cons_self ..) (by simp [opL, ho, hl]) r hk'
    refine wpR.wp (K := fun u w2 => u = v /\ w2 = w) ho ?_ ?_
    · rcases hv w hw1 with ⟨e1, e2⟩ | ⟨e1, e2⟩
      · rw [if_pos e1];rcases e2 with e2 | ⟨e2, e3⟩
        · rw [e2]; exact ⟨rfl, rfl⟩
        · rw [e2, e3]; exact ⟨rfl, rfl⟩
      · rw [if_neg (by rw [e1]; decide), e2]; exact ⟨rfl, rfl⟩
    · rintro u w2 ⟨rfl, rfl⟩;exact rgB C hn hok l hs2.2 hin' hr hf hkp hid'
  · refine wpR.wp (K := fun u w2 => u = mk w.heap.size /\ w2 = w.alloc (.cells cs.toArray t (0, 0))) ho ?_ ?_
    · rw [if_pos hnw.1, hnw.2 w]; exact ⟨rfl, rfl⟩
    · rintro u w2 ⟨rfl, rfl⟩;exact rgB C hn hok l hs2.2 hin' (hr _) (hf.new (e := .row w.heap.size t cs) ((Below.refl _ _).alloc (Nat.le_refl _) _) (by have := RowAt.new w cs.toArray t; simpa [En.F] using this) (by rintro b rfl; exact Nat.le_refl _)) hkp hid'
  · refine wpR.wp (K := fun u w2 => ∃ p, u = mk p /\ Fr C.S0 C.w0 w2 (G1 p ++ E1 p)) ho (hcn [] w (fun _ h => (List.not_mem_nil h).elim) hf) ?_;rintro u w2 ⟨p, rfl, hf'⟩;refine rgB C hn hok l (Kt := K ++ Kt) hs2.2 hin' (hr p) hf' (fun r hr' => ?_) (fun i hi hdi r hr' => ?_)
    · rw [hE p r (fun h => hr' (List.mem_append_left _ h))];exact hkp r (fun h => hr' (List.mem_append_right _ h))
    · rcases List.mem_append.1 hr' with hr' | hr'
      · unfold okSt at hK;have := List.all_eq_true.1 hK i (List.mem_range.2 (by rw [hn]; exact hin' i hi));simp only [Bool.or_eq_true, beq_iff_eq, Bool.not_eq_true', List.all_eq_true, List.contains_iff_mem] at this;have hij := hs2.1 i hi;rcases this with ((h | h) | h) | h
        · omega
        · have := pre_lt hc hlt hjn h; omega
        · rw [hdi] at h; cases h
        · exact h r hr'
      · exact hid' i hi hdi r hr'
theorem rgB1 (C : RC) {n : Nat} {a : Act} {w : World} (hn : C.ops.size = n) (hok : okReg C.ops n = true) (H : Fr C.S0 C.w0 w C.E0) (h : RW C (upF n 0) [] C.E0 a) : wpOps C.P C.ops C.Q (List.range C.ops.size) a w := by
 have e : ∀ k j, upF k j = List.range' j k := by
  intro k;induction k with
  | zero => intro j; rfl
  | succ k ih => intro j; rw [upF, ih, List.range'_succ]
 rw [hn, List.range_eq_range', <- e];exact rgB C hn hok _ (upF_sorted n 0) (fun i hi => by have := (mem_upF n 0 i).1 hi; omega) h H (Kt := []) (fun _ _ => rfl) (fun _ _ _ _ hr => by cases hr)
theorem rgC (C : RC) {id n : Nat} {d : Bool} {a : Act} {w : World} (hm : C.P.follows .mixedOrders = true) (hn : C.ops.size = n) (hok : okReg C.ops n = true) (H : Fr C.S0 C.w0 w C.E0) (h : RW C (upF n 0) [] C.E0 a) : (Code.region id C.ops d).wp C.P C.Q a w := by
 cases d with
 | true => exact rgA C hm hn hok H h
 | false => exact wp_region (rgB1 C hn hok H h)
def gi (xs : List Int) (i : Nat) : Int := xs.getD i 0
def gp (ps : List P4) (i : Nat) : P4 := ps.getD i p0
def rn (ps : List P4) (tl : List Value) : List Value := flat ps ++ tl
def NsAt (w : World) (ps : List P4) (xs : List Int) : Prop := ps.length = xs.length /\ ∀ i, i < ps.length -> NumAt w (av (gp ps i)) (gi xs i)
def LsAt (w : World) (L : Nat) (ao : Option Addr) (xs : List Int) : Prop :=
 0 < xs.length -> ∃ b o, ao = some ⟨b, o, none⟩ /\ b < w.heap.size /\ ∀ i (h : i < xs.length), ∃ p : P4, w.cell? ⟨b, o + i * 2, none⟩ = some (.bool p.1) /\ w.cell? ⟨b, o + i * 2 + 1, none⟩ = some (.slice p.2.1 p.2.2.1 p.2.2.2) /\ IntAt w L (av p) xs[i]
def LsN (w : World) (ao : Option Addr) (xs : List Int) : Prop :=
 0 < xs.length -> ∃ b o, ao = some ⟨b, o, none⟩ /\ b < w.heap.size /\ ∀ i (h : i < xs.length), ∃ p : P4, w.cell? ⟨b, o + i * 2, none⟩ = some (.bool p.1) /\ w.cell? ⟨b, o + i * 2 + 1, none⟩ = some (.slice p.2.1 p.2.2.1 p.2.2.2) /\ NumAt w (av p) xs[i]
def LstF (ao : Option Addr) (k cap : Nat) (ps : List P4) (w : World) : Prop := ps.length = k /\ k <= cap /\ ((ao = none /\ cap = 0) ∨ ∃ b tl, ao = some ⟨b, 0, none⟩ /\ NoW tl /\ RowAt w b 33 (rn ps tl) /\ (rn ps tl).length = cap * 2)
def LgF (te : TypeId) (sz : Nat) (ao : Option Addr) (k cap : Nat) (cs : List Value) (w : World) : Prop := cs.length = k * sz /\ k <= cap /\ ((ao = none /\ cap = 0) ∨ ∃ b tl, ao = some ⟨b, 0, none⟩ /\ NoW tl /\ RowAt w b te (cs ++ tl) /\ (cs ++ tl).length = cap * sz)
def En.wat (ao : Option Addr) (ws : List Nat) : En := .fact false false (fun g => 0 < ws.length /\ ∃ o, ao = some ⟨g, o, none⟩) (fun w => WAt w ao ws) (fun h b ⟨hl, o, e⟩ => by
 obtain ⟨b', o', e', hb, _⟩ := h.2 hl;rw [e] at e'; cases e'; exact hb)
 (fun {w w' T} h hc _ hs => ⟨h.1, fun hl => by
  obtain ⟨b, o, e, hb, hcl⟩ := h.2 hl;exact ⟨b, o, e, Nat.lt_of_lt_of_le hb hc.size, fun i hi => (hc.cell (p := ⟨b, o + i, none⟩) hb (hs b ⟨hl, o, e⟩)).trans (hcl i hi)⟩⟩)
abbrev En.ns (ps : List P4) (xs : List Int) : En := .fact true false (fun _ => False) (fun w => NsAt w ps xs) (fun _ _ h => h.elim) (fun h hc hT _ => ⟨h.1, fun i a => hc.num (hT rfl).wordless (h.2 i a)⟩)
abbrev En.ls (L : Nat) (ao : Option Addr) (xs : List Int) : En := .fact true false (fun g => 0 < xs.length /\ ∃ o, ao = some ⟨g, o, none⟩) (fun w => LsAt w L ao xs) (fun h b ⟨hl, o, e⟩ => by
 obtain ⟨b', o', e', hb, _⟩ := h hl;rw [e] at e'; cases e'; exact hb)
 (fun {w w' T} h hc hT hs hl => by
  obtain ⟨b, o, e, hb, hcl⟩ := h hl;refine ⟨b, o, e, Nat.lt_of_lt_of_le hb hc.size, fun i hi => ?_⟩;obtain ⟨p, h0, h1, hn⟩ := hcl i hi;exact ⟨p, (hc.cell (p := ⟨b, o + i * 2, none⟩) hb (hs b ⟨hl, o, e⟩)).trans h0, (hc.cell (p := ⟨b, o + i * 2 + 1, none⟩) hb (hs b ⟨hl, o, e⟩)).trans h1, hc.int (hT rfl).wordless hn⟩)
abbrev En.lst (ao : Option Addr) (k cap : Nat) (ps : List P4) : En := .fact false true (fun g => ∃ o, ao = some ⟨g, o, none⟩) (LstF ao k cap ps)
 (fun ⟨_, _, h⟩ b ⟨o, e⟩ => by
  rcases h with ⟨h, _⟩ | ⟨b', tl, h, _, hr, _⟩
  · rw [e] at h; cases h
  · rw [e] at h; cases h; exact hr.lt)
 (fun ⟨h1, h2, h⟩ hc _ hs => ⟨h1, h2, h.imp id fun ⟨b, tl, e, hn, hr, hl⟩ => ⟨b, tl, e, hn, hc.row hr (hs b ⟨0, e⟩), hl⟩⟩)
abbrev En.ia (L k : Nat) (ps : List P4) (xs : List Int) : En := .fact true false (fun _ => False) (fun w => ∀ i, i < k -> IntAt w L (av (gp ps i)) (gi xs i)) (fun _ _ h => h.elim) (fun h hc hT _ i hi => hc.int (hT rfl).wordless (h i hi))
abbrev En.lsn (ao : Option Addr) (xs : List Int) : En := .fact true false (fun g => 0 < xs.length /\ ∃ o, ao = some ⟨g, o, none⟩) (fun w => LsN w ao xs) (fun h b ⟨hl, o, e⟩ => by
 obtain ⟨b', o', e', hb, _⟩ := h hl;rw [e] at e'; cases e'; exact hb)
 (fun {w w' T} h hc hT hs hl => by
  obtain ⟨b, o, e, hb, hcl⟩ := h hl;refine ⟨b, o, e, Nat.lt_of_lt_of_le hb hc.size, fun i hi => ?_⟩;obtain ⟨p, h0, h1, hn⟩ := hcl i hi;exact ⟨p, (hc.cell (p := ⟨b, o + i * 2, none⟩) hb (hs b ⟨hl, o, e⟩)).trans h0, (hc.cell (p := ⟨b, o + i * 2 + 1, none⟩) hb (hs b ⟨hl, o, e⟩)).trans h1, hc.num (hT rfl).wordless hn⟩)
abbrev En.pr (A : Prop) : En := .fact false false (fun _ => False) (fun _ => A) (fun _ _ h => h.elim) (fun h _ _ _ => h)
abbrev En.lg (te : TypeId) (sz : Nat) (ao : Option Addr) (k cap : Nat) (cs : List Value) : En := .fact false true (fun g => ∃ o, ao = some ⟨g, o, none⟩) (LgF te sz ao k cap cs)
 (fun ⟨_, _, h⟩ b ⟨o, e⟩ => by
  rcases h with ⟨h, _⟩ | ⟨b', tl, h, _, hr, _⟩
  · rw [e] at h; cases h
  · rw [e] at h; cases h; exact hr.lt)
 (fun ⟨h1, h2, h⟩ hc _ hs => ⟨h1, h2, h.imp id fun ⟨b, tl, e, hn, hr, hl⟩ => ⟨b, tl, e, hn, hc.row hr (hs b ⟨0, e⟩), hl⟩⟩)
abbrev En.lrs (L : Nat) (hs : List (Option Addr × Nat)) (R : List (List Int)) : En := .fact true false (fun g => ∃ t, t < R.length /\ 0 < (R.getD t []).length /\ ∃ o, (hs.getD t (none, 0)).1 = some ⟨g, o, none⟩) (fun w => ∀ t, t < R.length -> LsAt w L (hs.getD t (none, 0)).1 (R.getD t []))
 (fun h b ⟨t, ht, hl, o, e⟩ => by
  obtain ⟨b', o', e', hb, _⟩ := h t ht hl;rw [e] at e'; cases e'; exact hb)
 (fun {w w' T} h hc hT hs t ht hl => by
  obtain ⟨b, o, e, hb, hcl⟩ := h t ht hl;refine ⟨b, o, e, Nat.lt_of_lt_of_le hb hc.size, fun i hi => ?_⟩;obtain ⟨p, h0, h1, hn⟩ := hcl i hi;exact ⟨p, (hc.cell (p := ⟨b, o + i * 2, none⟩) hb (hs b ⟨t, ht, hl, o, e⟩)).trans h0, (hc.cell (p := ⟨b, o + i * 2 + 1, none⟩) hb (hs b ⟨t, ht, hl, o, e⟩)).trans h1, hc.int (hT rfl).wordless hn⟩)
def RwF (x : Nat) (gs : List Nat) (E : List (List Int)) (w : World) : Prop := ∀ t, t < E.length -> t ≠ x -> ∃ (ps : List P4) (tl : List Value), NoW tl /\ RowAt w (gs.getD t 0) 33 (rn ps tl) /\ NsAt w ps (E.getD t [])
abbrev En.rwx (x : Nat) (gs : List Nat) (E : List (List Int)) : En := .fact true true (fun g => ∃ t, t < E.length /\ t ≠ x /\ g = gs.getD t 0) (RwF x gs E)
 (fun h b ⟨t, ht, hx, e⟩ => by
  obtain ⟨ps, tl, _, hr, _⟩ := h t ht hx;rw [e]; exact hr.lt)
 (fun h hc hT hs t ht hx => by
  obtain ⟨ps, tl, hn, hr, h1, h2⟩ := h t ht hx;exact ⟨ps, tl, hn, hc.row hr (hs _ ⟨t, ht, hx, rfl⟩), h1, fun i a => hc.num (hT rfl).wordless (h2 i a)⟩)
def RlF (ao : Option Addr) (cs : List Value) (w : World) : Prop := 0 < cs.length -> ∃ b, ao = some ⟨b, 0, none⟩ /\ b < w.heap.size /\ ∀ (i : Nat) v, cs[i]? = some v -> w.cell? ⟨b, i, none⟩ = some v
abbrev En.rl (ao : Option Addr) (cs : List Value) : En := .fact false false (fun g => 0 < cs.length /\ ∃ o, ao = some ⟨g, o, none⟩) (RlF ao cs)
 (fun h b ⟨hl, o, e⟩ => by
  obtain ⟨b', e', hb, _⟩ := h hl;rw [e] at e'; cases e'; exact hb)
 (fun {w w' T} h hc _ hs hl => by
  obtain ⟨b, e, hb, hcl⟩ := h hl;exact ⟨b, e, Nat.lt_of_lt_of_le hb hc.size, fun i v hv => (hc.cell (p := ⟨b, i, none⟩) hb (hs b ⟨hl, 0, e⟩)).trans (hcl i v hv)⟩)
def evl : List (Nat × Value) -> Operand -> Value
 | _, .const v => v
 | _, .global g => .pointer (some ⟨g, 0, none⟩)
 | _, .func f => .func (.func f) #[] #[]
 | [], .tmp _ => undef
 | (s, v) :: l, .tmp t => if t = s then v else evl l (.tmp t)
theorem evlN : (∀ ls v, evl ls (.const v) = v) /\ (∀ ls g, evl ls (.global g) = .pointer (some ⟨g, 0, none⟩)) /\ (∀ ls f, evl ls (.func f) = .func (.func f) #[] #[]) /\ (∀ s v l t, evl ((s, v) :: l) (.tmp t) = if t = s then v else evl l (.tmp t)) :=
 ⟨fun ls _ => by cases ls <;> rfl, fun ls _ => by cases ls <;> rfl, fun ls _ => by cases ls <;> rfl, fun _ _ _ _ => rfl⟩
attribute [go_sem] evlN
def cl (p : P4) : List Value := [.bool p.1, .slice p.2.1 p.2.2.1 p.2.2.2]
def inLs (ls : List (Nat × Value)) : Operand -> Bool
 | .tmp t => ls.any fun p => p.1 == t
 | _ => true
def chkO (ls : List (Nat × Value)) (op : Op) : Bool := op.operands.toList.all (inLs ls) && match op with | .select .. => false | _ => true
structure Slm (ds : List Deferred) (n : Nat) (ls : List (Nat × Value)) (a : Act) : Prop where
 df : a.defers = ds
 sz : a.tmps.size = n
 vs : ∀ p ∈ ls, a.tmps[p.1]? = some (evl ls (.tmp p.1))
abbrev Sl := Slm []
theorem Slm.tmp {ds : List Deferred} {n : Nat} {ls : List (Nat × Value)} {a : Act} (h : Slm ds n ls a) {t : Nat} (ht : inLs ls (.tmp t) = true) : a.tmps[t]? = some (evl ls (.tmp t)) := by
 unfold inLs at ht;obtain ⟨p, hp, hpt⟩ := List.any_eq_true.1 ht;simp only [beq_iff_eq] at hpt;subst hpt;exact h.vs p hp
theorem Slm.ev {ds : List Deferred} {n : Nat} {ls : List (Nat × Value)} {a : Act} (h : Slm ds n ls a) {x : Operand} (hx : inLs ls x = true) : a.eval x = evl ls x := by
 cases x with
 | const v => rw [evlN.1]; rfl
 | global g => rw [evlN.2.1]; rfl
 | func f => rw [evlN.2.2.1]; rfl
 | tmp t => simp [Act.eval, h.tmp hx]
theorem Slm.exec {ds : List Deferred} {n : Nat} {ls : List (Nat × Value)} {a : Act} (h : Slm ds n ls a) {o : Oper} (hc : chkO ls o.op = true) : execOp a.eval o = execOp (evl ls) o := by
 unfold chkO at hc;rw [Bool.and_eq_true] at hc;refine execOp_congr o (fun cs b e => ?_) fun x hx => h.ev (List.all_eq_true.1 hc.1 x (Array.mem_toList_iff.2 hx));have := hc.2;rw [e] at this;cases this
theorem Slm.put {ds : List Deferred} {n : Nat} {ls : List (Nat × Value)} {a : Act} (h : Slm ds n ls a) {s : Nat} (hs : s < n) (v : Value) : Slm ds n ((s, v) :: ls) (a.put (some s) v) := by
 refine ⟨h.df, by simp [Act.put, h.sz], fun p hp => ?_⟩;have hsz : s < a.tmps.size := by rw [h.sz]; exact hs
 by_cases he : p.1 = s
 · rw [he];simp [Act.put, evl, hsz]
 · rw [evlN.2.2.2, if_neg he];rcases List.mem_cons.1 hp with rfl | hp
   · exact absurd rfl he
   · simp only [Act.put, Array.getElem?_setIfInBounds_ne (fun e => he e.symm)];exact h.vs p hp
theorem Slm.put0 {ds : List Deferred} {n : Nat} {ls : List (Nat × Value)} {a : Act} (h : Slm ds n ls a) (v : Value) : Slm ds n ls (a.put none v) := h
theorem Slm.sub {ds : List Deferred} {n : Nat} {ls ls' : List (Nat × Value)} {a : Act} (h : Slm ds n ls a) (hk : ∀ p ∈ ls', inLs ls (.tmp p.1) = true /\ evl ls (.tmp p.1) = evl ls' (.tmp p.1)) : Slm ds n ls' a :=
 ⟨h.df, h.sz, fun p hp => by rw [h.tmp (hk p hp).1, (hk p hp).2]⟩
theorem OwnI.chg {T : Nat -> Prop} {w w' : World} {B : Nat} {v : Value} {x : Int} (hx : OwnI w B v x) (h : Chg T w w') (hS : Wl T w) : OwnI w' B v x := by
 obtain ⟨ao, cap, rfl, h1, h2, h3, h4⟩ := hx;refine ⟨ao, cap, rfl, h1, h2, h3, ?_⟩;rcases h4 with h0 | ⟨g, c, cur, hv, hbb, hg, r⟩
 · exact .inl h0
 · refine .inr ⟨g, c, cur, hv, hbb, ?_, r⟩;rw [h.block g (Array.getElem?_eq_some_iff.1 hg).1 (fun hs => by
    obtain ⟨t, cs, hr, _, ht⟩ := hS g hs;unfold RowAt at hr;rw [hg] at hr;simp only [Option.some.injEq, Obj.cells.injEq] at hr;exact ht hr.2.1.symm)]
   exact hg
def En.own (B : Nat) (v : Value) (x : Int) : En := .fact true false (fun _ => False) (fun w => OwnI w B v x) (fun _ _ h => h.elim) (fun h hc hT _ => OwnI.chg h hc (hT rfl))
def En.at (L : Nat) (v : Value) (x : Int) : En := .fact true false (fun _ => False) (fun w => IntAt w L v x) (fun _ _ h => h.elim) (fun h hc hT _ => hc.int (hT rfl).wordless h)
def En.num (v : Value) (x : Int) : En := .fact true false (fun _ => False) (fun w => NumAt w v x) (fun _ _ h => h.elim) (fun h hc hT _ => hc.num (hT rfl).wordless h)
def En.ow (B : Nat) (ao : Option Addr) (m cap : Nat) : En := .fact true false (fun _ => False) (fun w => OwnW w B ao (wlen m) cap (dig m)) (fun _ _ h => h.elim) (fun {w w' T} h hc hT _ => by
 have := OwnI.chg (OwnI.mk false h) hc (hT rfl);obtain ⟨ao', cap', e, ho⟩ := this;rw [zi_abs] at e ho;cases e;exact ho)
def Cel (w : World) : List En -> Prop
 | [] => True
 | .row b _ cs :: l => (∀ i, w.cell? ⟨b, i, none⟩ = cs[i]?) /\ Cel w l
 | .cell a v :: l => w.cell? a = some v /\ Cel w l
 | .fact .. :: l => Cel w l
theorem celN (w : World) : (∀ b t cs l, Cel w (.row b t cs :: l) = ((∀ i, w.cell? ⟨b, i, none⟩ = cs[i]?) /\ Cel w l)) /\ (∀ a v l, Cel w (.cell a v :: l) = (w.cell? a = some v /\ Cel w l)) /\ (∀ B v x l, Cel w (.own B v x :: l) = Cel w l) /\ (∀ B v x l, Cel w (.at B v x :: l) = Cel w l) /\ (∀ v x l, Cel w (.num v x :: l) = Cel w l) /\ (∀ B a m k l, Cel w (.ow B a m k :: l) = Cel w l) /\ Cel w [] = True /\ (∀ l, Cel w ([] ++ l) = Cel w l) /\ (∀ e l l', Cel w ((e :: l) ++ l') = Cel w (e :: (l ++ l'))) /\ (∀ a ws l, Cel w (.wat a ws :: l) = Cel w l) /\ (∀ ps xs l, Cel w (.ns ps xs :: l) = Cel w l) /\ (∀ L a xs l, Cel w (.ls L a xs :: l) = Cel w l) /\ (∀ a k c ps l, Cel w (.lst a k c ps :: l) = Cel w l) /\ (∀ L k ps xs l, Cel w (.ia L k ps xs :: l) = Cel w l) /\ (∀ a xs l, Cel w (.lsn a xs :: l) = Cel w l) /\ (∀ A l, Cel w (.pr A :: l) = Cel w l) /\ (∀ t s a k c cs l, Cel w (.lg t s a k c cs :: l) = Cel w l) /\ (∀ L h R l, Cel w (.lrs L h R :: l) = Cel w l) /\ (∀ x g E l, Cel w (.rwx x g E :: l) = Cel w l) /\ ∀ a cs l, Cel w (.rl a cs :: l) = Cel w l :=
 ⟨fun _ _ _ _ => rfl, fun _ _ _ => rfl, fun _ _ _ _ => rfl, fun _ _ _ _ => rfl, fun _ _ _ => rfl, fun _ _ _ _ _ => rfl, rfl, fun _ => rfl, fun _ _ _ => rfl, fun _ _ _ => rfl, fun _ _ _ => rfl, fun _ _ _ _ => rfl, fun _ _ _ _ _ => rfl, fun _ _ _ _ _ => rfl, fun _ _ _ => rfl, fun _ _ => rfl, fun _ _ _ _ _ _ _ => rfl, fun _ _ _ _ => rfl, fun _ _ _ _ => rfl, fun _ _ _ => rfl⟩
theorem Cel.of (w : World) : ∀ es : List En, (∀ e ∈ es, e.F w) -> Cel w es
 | [], _ => trivial
 | .row b t cs :: l, h => ⟨RowAt.cell (h _ (List.mem_cons_self ..)), Cel.of w l fun e he => h e (List.mem_cons_of_mem _ he)⟩
 | .cell a v :: l, h => ⟨h _ (List.mem_cons_self ..), Cel.of w l fun e he => h e (List.mem_cons_of_mem _ he)⟩
 | .fact .. :: l, h => Cel.of w l fun e he => h e (List.mem_cons_of_mem _ he)
section
variable {S0 : Nat -> Prop} {w0 w : World} {es : List En}
theorem Fr.c (h : Fr S0 w0 w es) : Cel w es := Cel.of w es h.all
variable {e0 e1 e2 e3 e4 e5 e6 e7 e8 e9 e10 e11 e12 e13 e14 e15 e16 : En}
theorem Fr.m0 (h : Fr S0 w0 w (e0 :: es)) : e0.F w := h.all _ (List.mem_cons_self ..)
theorem Fr.tl (h : Fr S0 w0 w (e0 :: es)) : Fr S0 w0 w es := h.sub (List.sublist_cons_self ..)
theorem Fr.m1 (h : Fr S0 w0 w (e0 :: e1 :: es)) : e1.F w := h.tl.m0
theorem Fr.m2 (h : Fr S0 w0 w (e0 :: e1 :: e2 :: es)) : e2.F w := h.tl.m1
theorem Fr.m3 (h : Fr S0 w0 w (e0 :: e1 :: e2 :: e3 :: es)) : e3.F w := h.tl.m2
theorem Fr.m4 (h : Fr S0 w0 w (e0 :: e1 :: e2 :: e3 :: e4 :: es)) : e4.F w := h.tl.m3
theorem Fr.m5 (h : Fr S0 w0 w (e0 :: e1 :: e2 :: e3 :: e4 :: e5 :: es)) : e5.F w := h.tl.m4
theorem Fr.m6 (h : Fr S0 w0 w (e0 :: e1 :: e2 :: e3 :: e4 :: e5 :: e6 :: es)) : e6.F w := h.tl.m5
theorem Fr.m7 (h : Fr S0 w0 w (e0 :: e1 :: e2 :: e3 :: e4 :: e5 :: e6 :: e7 :: es)) : e7.F w := h.tl.m6
theorem Fr.m8 (h : Fr S0 w0 w (e0 :: e1 :: e2 :: e3 :: e4 :: e5 :: e6 :: e7 :: e8 :: es)) : e8.F w := h.tl.m7
theorem Fr.m9 (h : Fr S0 w0 w (e0 :: e1 :: e2 :: e3 :: e4 :: e5 :: e6 :: e7 :: e8 :: e9 :: es)) : e9.F w := h.tl.m8
theorem Fr.m10 (h : Fr S0 w0 w (e0 :: e1 :: e2 :: e3 :: e4 :: e5 :: e6 :: e7 :: e8 :: e9 :: e10 :: es)) : e10.F w := h.tl.m9
theorem Fr.m11 (h : Fr S0 w0 w (e0 :: e1 :: e2 :: e3 :: e4 :: e5 :: e6 :: e7 :: e8 :: e9 :: e10 :: e11 :: es)) : e11.F w := h.tl.m10
theorem Fr.m12 (h : Fr S0 w0 w (e0 :: e1 :: e2 :: e3 :: e4 :: e5 :: e6 :: e7 :: e8 :: e9 :: e10 :: e11 :: e12 :: es)) : e12.F w := h.tl.m11
end
def RWm (ds : List Deferred) (C : RC) (n : Nat) (l : List Nat) (G E : List En) (ls : List (Nat × Value)) : Prop := ∀ a, Slm ds n ls a -> RW C l G E a
def CWm (ds : List Deferred) (P : Program) (n : Nat) (S0 : Nat -> Prop) (w0 : World) (c : Code) (Q : Exit -> Act -> World -> Prop) (ls : List (Nat × Value)) (es : List En) : Prop := ∀ a w, Slm ds n ls a -> Fr S0 w0 w es -> c.wp P Q a w
def QWm (ds : List Deferred) (n : Nat) (S0 : Nat -> Prop) (w0 : World) (Q : Exit -> Act -> World -> Prop) (e : Exit) (ls : List (Nat × Value)) (es : List En) : Prop := ∀ a w, Slm ds n ls a -> Fr S0 w0 w es -> Q e a w
abbrev RWs := RWm []
abbrev CW := CWm []
abbrev QW := QWm []
inductive Rm (e : En) : List En -> List En -> Prop where
 | z {l : List En} : Rm e (e :: l) l
 | s {x : En} {l l' : List En} (h : Rm e l l') : Rm e (x :: l) (x :: l')
inductive Pk : List En -> List En -> Prop where
 | n {l : List En} : Pk l []
 | c {e : En} {l l1 r : List En} (h : Rm e l l1) (k : Pk l1 r) : Pk l (e :: r)
theorem Rm.perm {e : En} {l l' : List En} (h : Rm e l l') : l.Perm (e :: l') := by
 induction h with
 | z => exact .refl _
 | @s x l l' h ih => exact (ih.cons x).trans (.swap ..)
theorem Pk.perm {l r : List En} (h : Pk l r) : ∃ m, l.Perm (r ++ m) := by
 induction h with
 | n => exact ⟨_, .refl _⟩
 | c h _ ih =>
  obtain ⟨m, hm⟩ := ih;exact ⟨m, h.perm.trans (hm.cons _)⟩
theorem Fr.pick {S0 : Nat -> Prop} {w0 w : World} {es es' : List En} (h : Fr S0 w0 w es) (k : Pk es es') : Fr S0 w0 w es' := by
 obtain ⟨m, hm⟩ := k.perm;exact (h.perm hm).sub (List.sublist_append_left ..)
section
variable {P : Program} {ops : Array Oper} {Q : Exit -> Act -> World -> Prop} {ds : List Deferred} {S0 : Nat -> Prop} {w0 : World} {E0 : List En} {hd : List (List Nat)} {n j s : Nat} {l : List Nat} {G E : List En} {ls : List (Nat × Value)} {op : Op} {ty : TypeId} {pos : String} {af : Array Edge} {v : Value}
theorem ifw {o : Oper} {y : Nat -> Option Bool} {A B : Prop} (hg : o.guard = none) (h : A) : if Region.wanted o y = true then A else B := by
 rw [if_pos (by simp [Region.wanted, hg])]; exact h
theorem dW (k : RWm ds ⟨P, ops, Q, S0, w0, E0, []⟩ n l G E ((s, v) :: ls))
 (ho : ops[j]? = some ⟨some s, op, ty, pos, af, none⟩ := by rfl) (hk : (isDet op && chkO ls op && Nat.blt s n) = true := by kernel_rfl)
 (hr : ∀ w, (isLd op = true -> Fr S0 w0 w E0) -> (execOp (evl ls) ⟨some s, op, ty, pos, af, none⟩).run P w = .ok (.value v) w := by intro w H; (first | (have c := (H rfl).c; try simp only [celN, cl, List.cons_append, List.nil_append] at c) | skip); clear H; go_simp <;> with_reducible rfl) : RWm ds ⟨P, ops, Q, S0, w0, E0, []⟩ n (j :: l) G E ls := fun a ha => by
 simp only [Bool.and_eq_true] at hk;refine ⟨_, ho, .inl ⟨hk.1.1, v, fun w hw => .inl ⟨rfl, .inl ?_⟩, k _ (ha.put (Nat.le_of_ble_eq_true hk.2) v)⟩⟩;rw [ha.exec hk.1.2];exact hr w fun hl => by simpa [hideF_nil] using hw hl
theorem dH (k : RWm ds ⟨P, ops, Q, S0, w0, E0, hd⟩ n l G E ((s, v) :: ls))
 (ho : ops[j]? = some ⟨some s, op, ty, pos, af, none⟩ := by rfl) (hk : (isDet op && chkO ls op && Nat.blt s n) = true := by kernel_rfl)
 (hr : ∀ w, (isLd op = true -> Fr S0 w0 w (hideF 0 E0 (hd.getD j []))) -> (execOp (evl ls) ⟨some s, op, ty, pos, af, none⟩).run P w = .ok (.value v) w := by intro w H; (first | (have c := (H rfl).c; try simp only [hideF, List.getD_cons_zero, List.getD_cons_succ, List.getD_nil, List.contains_cons, List.contains_nil, Nat.reduceBEq, Nat.reduceAdd, Bool.or_false, Bool.false_or, Bool.or_true, Bool.true_or, Bool.false_eq_true, ↓reduceIte, celN, cl, List.cons_append, List.nil_append] at c) | skip); clear H; go_simp <;> with_reducible rfl) : RWm ds ⟨P, ops, Q, S0, w0, E0, hd⟩ n (j :: l) G E ls := fun a ha => by
 simp only [Bool.and_eq_true] at hk;refine ⟨_, ho, .inl ⟨hk.1.1, v, fun w hw => .inl ⟨rfl, .inl ?_⟩, k _ (ha.put (Nat.le_of_ble_eq_true hk.2) v)⟩⟩;rw [ha.exec hk.1.2];exact hr w hw
theorem aW {t : TypeId} {cs : List Value} (k : ∀ g, RWm ds ⟨P, ops, Q, S0, w0, E0, hd⟩ n l (.row g t cs :: G) E ((s, .pointer (some ⟨g, 0, none⟩)) :: ls))
 (ho : ops[j]? = some ⟨some s, op, ty, pos, af, none⟩ := by rfl) (hk : (!isDet op && isNew op && chkO ls op && Nat.blt s n) = true := by kernel_rfl)
 (hr : ∀ w, (execOp (evl ls) ⟨some s, op, ty, pos, af, none⟩).run P w = .ok (.value (.pointer (some ⟨w.heap.size, 0, none⟩))) (w.alloc (.cells cs.toArray t (0, 0))) := by intro w; (try simp only [av]); go_simp <;> with_reducible rfl) : RWm ds ⟨P, ops, Q, S0, w0, E0, hd⟩ n (j :: l) G E ls := fun a ha => by
 simp only [Bool.and_eq_true, Bool.not_eq_true'] at hk;refine ⟨_, ho, .inr (.inl ⟨hk.1.1.1, hk.1.1.2, fun g => .pointer (some ⟨g, 0, none⟩), t, cs, ⟨rfl, fun w => ?_⟩, fun g => k g _ (ha.put (Nat.le_of_ble_eq_true hk.2) _)⟩)⟩;rw [ha.exec hk.1.2];exact hr w
def Nw (w w' : World) (es : List En) : Prop := Below w.heap.size w w' /\ (∀ e ∈ es, e.F w' /\ ∀ b, e.S b -> w.heap.size <= b) /\ es.Pairwise Ap
theorem Nw.fr {w w' : World} {es E : List En} (h : Nw w w' es) (hf : Fr S0 w0 w E) : Fr S0 w0 w' (es ++ E) := by
 obtain ⟨hb, he, hp⟩ := h;induction es with
 | nil => exact hf.grow hb
 | cons e es ih =>
  have hp' := List.pairwise_cons.1 hp;have h1 := ih (fun x hx => he x (List.mem_cons_of_mem _ hx)) hp'.2;obtain ⟨h2, h3⟩ := he e (List.mem_cons_self ..);refine h1.cons h2 (fun e' he' => ?_) (fun _ b hb => .inr (Nat.le_trans hf.size (h3 b hb)));rcases List.mem_append.1 he' with he' | he'
  · exact hp'.1 e' he'
  · exact ⟨fun _ b h4 h5 => by have := h3 b h4; have := En.lt (hf.all e' he') b h5; omega, fun _ b h4 h5 => by have := h3 b h5; have := En.lt (hf.all e' he') b h4; omega⟩
theorem cG {α : Type} {mk : α -> Value} {ens : α -> List En} {f : FuncId} {args : Array Value} (c : ∀ w, Fr S0 w0 w (G ++ E) -> Calls P f args w fun e w' => ∃ p, e = .returned (mk p) /\ Nw w w' (ens p))
 (k : ∀ p, RWm ds ⟨P, ops, Q, S0, w0, E0, hd⟩ n l (ens p ++ G) E ((s, mk p) :: ls))
 (ho : ops[j]? = some ⟨some s, op, ty, pos, af, none⟩ := by rfl) (hk : (!isDet op && !isNew op && chkO ls op && Nat.blt s n) = true := by kernel_rfl)
 (hr : ∀ w, (execOp (evl ls) ⟨some s, op, ty, pos, af, none⟩).run P w = .ok (.enter f args) w := by intro w; (try simp only [av]); go_simp <;> with_reducible rfl) (hne : Nonempty α := by infer_instance)
 (hst : okSt ops hd j [] = true := by kernel_rfl) : RWm ds ⟨P, ops, Q, S0, w0, E0, hd⟩ n (j :: l) G E ls := fun a ha => by
 simp only [Bool.and_eq_true, Bool.not_eq_true'] at hk;refine ⟨_, ho, .inr (.inr ⟨hk.1.1.1, hk.1.1.2, α, mk, fun p => ens p ++ G, fun _ => E, [], hne, fun X w hX hw => ?_, hst, fun _ _ _ => rfl, fun p => k p _ (ha.put (Nat.le_of_ble_eq_true hk.2) _)⟩)⟩;refine ifw rfl ?_;show wpR P _ ((execOp a.eval _).run P w);rw [ha.exec hk.1.2, hr w];refine (c w (hw.sub (List.sublist_append_right ..))).mono ?_;rintro e w' ⟨p, rfl, hn⟩;refine ⟨_, rfl, p, rfl, (hn.fr hw).perm ?_⟩;rw [List.append_assoc];exact (List.perm_append_comm_assoc (ens p) X (G ++ E))
theorem cN {f : FuncId} {args : Array Value} {x : Int} (c : ∀ w, Fr S0 w0 w (G ++ E) -> Calls P f args w fun e w' => (∃ v, e = .returned v /\ OwnI w' w.heap.size v x) /\ Below w.heap.size w w')
 (k : ∀ p : P4, RWm ds ⟨P, ops, Q, S0, w0, E0, hd⟩ n l (.own w0.heap.size (av p) x :: G) E ((s, .agg #[.bool p.1, .slice p.2.1 p.2.2.1 p.2.2.2]) :: ls))
 (ho : ops[j]? = some ⟨some s, op, ty, pos, af, none⟩ := by rfl) (hk : (!isDet op && !isNew op && chkO ls op && Nat.blt s n) = true := by kernel_rfl)
 (hr : ∀ w, (execOp (evl ls) ⟨some s, op, ty, pos, af, none⟩).run P w = .ok (.enter f args) w := by intro w; (try simp only [av]); go_simp <;> with_reducible rfl)
 (hst : okSt ops hd j [] = true := by kernel_rfl) : RWm ds ⟨P, ops, Q, S0, w0, E0, hd⟩ n (j :: l) G E ls := by
 refine cG (mk := av) (ens := fun p => [.own w0.heap.size (av p) x]) (fun w hw => (c w hw).mono ?_) k ho hk hr ⟨p0⟩ hst;rintro e w' ⟨⟨v, rfl, hv⟩, hb⟩;obtain ⟨b, ao, l', k', rfl⟩ := OwnI.parts hv;exact ⟨(b, ao, l', k'), rfl, hb, fun e he => by
  rcases List.mem_singleton.1 he with rfl;exact ⟨OwnI.mono hv hw.size, fun _ h => h.elim⟩, List.pairwise_singleton ..⟩
theorem cV {f : FuncId} {args : Array Value} (c : ∀ w, Fr S0 w0 w (G ++ E) -> Calls P f args w fun e w' => e = .returned v /\ Below w.heap.size w w')
 (k : RWm ds ⟨P, ops, Q, S0, w0, E0, hd⟩ n l G E ((s, v) :: ls))
 (ho : ops[j]? = some ⟨some s, op, ty, pos, af, none⟩ := by rfl) (hk : (!isDet op && !isNew op && chkO ls op && Nat.blt s n) = true := by kernel_rfl)
 (hr : ∀ w, (execOp (evl ls) ⟨some s, op, ty, pos, af, none⟩).run P w = .ok (.enter f args) w := by intro w; (try simp only [av]); go_simp <;> with_reducible rfl)
 (hst : okSt ops hd j [] = true := by kernel_rfl) : RWm ds ⟨P, ops, Q, S0, w0, E0, hd⟩ n (j :: l) G E ls := by
 refine cG (α := Unit) (mk := fun _ => v) (ens := fun _ => []) (fun w hw => (c w hw).mono ?_) (fun _ => k) ho hk hr ⟨()⟩ hst;rintro e w' ⟨rfl, hb⟩;exact ⟨(), rfl, hb, fun e he => (List.not_mem_nil he).elim, .nil⟩
theorem Up.left' {e e' : En} {i : Nat} {g g' : List En} (h : Up e e' i g g') (X l : List En) : ∃ m, (X ++ (g ++ l)).Perm (e :: m) /\ (X ++ (g' ++ l)).Perm (e' :: m) := by
 obtain ⟨m, h1, h2⟩ := h.left l;exact ⟨X ++ m, (h1.append_left X).trans List.perm_middle, (h2.append_left X).trans List.perm_middle⟩
theorem Up.right' {e e' : En} {i : Nat} {l l' : List En} (h : Up e e' i l l') (X g : List En) : ∃ m, (X ++ (g ++ l)).Perm (e :: m) /\ (X ++ (g ++ l')).Perm (e' :: m) := by
 obtain ⟨m, h1, h2⟩ := h.right g;exact ⟨X ++ m, (h1.append_left X).trans List.perm_middle, (h2.append_left X).trans List.perm_middle⟩
theorem sW {b k i : Nat} {t : TypeId} {cs us cs' : List Value} {ad x : Operand} {sty : TypeId} {E' : List En}
 (k' : RWm ds ⟨P, ops, Q, S0, w0, E0, hd⟩ n l G E' ls)
 (ho : ops[j]? = some ⟨none, .store sty ad x, ty, pos, af, none⟩ := by rfl) (hk : chkO ls (.store sty ad x) = true := by kernel_rfl)
 (ha : evl ls ad = .pointer (some ⟨b, k, none⟩) := by (simp only [evlN, Nat.reduceEqDiff, ↓reduceIte]) <;> rfl)
 (hv : (evl ls x).cells = us.toArray := by (simp only [evlN, Nat.reduceEqDiff, ↓reduceIte, av, Value.cells]) <;> rfl)
 (hE : Up (.row b t cs) (.row b t cs') i E E' := by repeat first | exact .z | apply Up.s)
 (hU : setL cs k us = cs' := by first | ((simp only [cl, List.cons_append, List.nil_append, setL, List.set_cons_zero, List.set_cons_succ, Nat.reduceAdd]) <;> rfl) | rfl)
 (hu : NoW cs /\ t ≠ 52 := by exact ⟨by first | exact NoW_flat _ | repeat (first | exact NoW.nil | exact NoW_flat _ | apply NoW.bool | apply NoW.slice | apply NoW.i64 | apply NoW.ptr | apply NoW.append | unfold cl), by decide⟩)
 (hr : ∀ w, RowAt w b t cs -> (execOp (evl ls) ⟨none, .store sty ad x, ty, pos, af, none⟩).run P w = .ok .skip (stA w b k us) := by intro w h; have c := h.cell; have f := h.free; (try simp only [cl, List.cons_append, List.nil_append] at c); go_simp <;> rfl)
 (hst : okSt ops hd j [i] = true := by kernel_rfl) : RWm ds ⟨P, ops, Q, S0, w0, E0, hd⟩ n (j :: l) G E ls := fun a hA => by
 refine ⟨_, ho, .inr (.inr ⟨rfl, rfl, Unit, fun _ => undef, fun _ => G, fun _ => E', [i], ⟨()⟩, fun X w hX hw => ?_, hst, fun _ r hr => hE.other (by simpa using hr), fun _ => k' _ (hA.put0 _)⟩)⟩;subst hU;obtain ⟨m, h1, h2⟩ := hE.right' X G;have hrow : RowAt w b t cs := (hw.perm h1).all _ (List.mem_cons_self ..);refine ifw rfl ?_;show wpR P _ ((execOp a.eval _).run P w);rw [hA.exec (o := ⟨none, .store sty ad x, ty, pos, af, none⟩) hk, hr w hrow];exact ⟨(), rfl, hw.st us k (.inl hu) h1 h2⟩
theorem sG {b k i : Nat} {t : TypeId} {cs us cs' : List Value} {ad x : Operand} {sty : TypeId} {G' : List En}
 (k' : RWm ds ⟨P, ops, Q, S0, w0, E0, hd⟩ n l G' E ls)
 (ho : ops[j]? = some ⟨none, .store sty ad x, ty, pos, af, none⟩ := by rfl) (hk : chkO ls (.store sty ad x) = true := by kernel_rfl)
 (ha : evl ls ad = .pointer (some ⟨b, k, none⟩) := by (simp only [evlN, Nat.reduceEqDiff, ↓reduceIte]) <;> rfl)
 (hv : (evl ls x).cells = us.toArray := by (simp only [evlN, Nat.reduceEqDiff, ↓reduceIte, av, Value.cells]) <;> rfl)
 (hE : Up (.row b t cs) (.row b t cs') i G G' := by repeat first | exact .z | apply Up.s)
 (hU : setL cs k us = cs' := by first | ((simp only [cl, List.cons_append, List.nil_append, setL, List.set_cons_zero, List.set_cons_succ, Nat.reduceAdd]) <;> rfl) | rfl)
 (hu : NoW cs /\ t ≠ 52 := by exact ⟨by first | exact NoW_flat _ | repeat (first | exact NoW.nil | exact NoW_flat _ | apply NoW.bool | apply NoW.slice | apply NoW.i64 | apply NoW.ptr | apply NoW.append | unfold cl), by decide⟩)
 (hr : ∀ w, RowAt w b t cs -> (execOp (evl ls) ⟨none, .store sty ad x, ty, pos, af, none⟩).run P w = .ok .skip (stA w b k us) := by intro w h; have c := h.cell; have f := h.free; (try simp only [cl, List.cons_append, List.nil_append] at c); go_simp <;> rfl)
 (hst : okSt ops hd j [] = true := by kernel_rfl) : RWm ds ⟨P, ops, Q, S0, w0, E0, hd⟩ n (j :: l) G E ls := fun a hA => by
 refine ⟨_, ho, .inr (.inr ⟨rfl, rfl, Unit, fun _ => undef, fun _ => G', fun _ => E, [], ⟨()⟩, fun X w hX hw => ?_, hst, fun _ _ _ => rfl, fun _ => k' _ (hA.put0 _)⟩)⟩;subst hU;obtain ⟨m, h1, h2⟩ := hE.left' X E;have hrow : RowAt w b t cs := (hw.perm h1).all _ (List.mem_cons_self ..);refine ifw rfl ?_;show wpR P _ ((execOp a.eval _).run P w);rw [hA.exec (o := ⟨none, .store sty ad x, ty, pos, af, none⟩) hk, hr w hrow];exact ⟨(), rfl, hw.st us k (.inl hu) h1 h2⟩
theorem eW {D : List En} (k : QWm ds n S0 w0 Q .normal ls D) (hD : G ++ E = D := by (try simp only [List.cons_append, List.nil_append, setL, List.set_cons_zero, List.set_cons_succ]); rfl) : RWm ds ⟨P, ops, Q, S0, w0, E0, hd⟩ n [] G E ls := fun a ha w hw => k a w ha (hD ▸ hw)
variable {es : List En} {Qx : Exit -> Act -> World -> Prop}
theorem rW {id m : Nat} {d : Bool} (hd : List (List Nat)) (k : RWm ds ⟨P, ops, Q, S0, w0, es, hd⟩ n (upF m 0) [] es ls) (hm : P.follows .mixedOrders = true := by kernel_rfl) (hn : ops.size = m := by rfl) (hok : okReg ops m = true := by kernel_rfl) : CWm ds P n S0 w0 (.region id ops d) Q ls es :=
 fun a w ha hw => rgC ⟨P, ops, Q, S0, w0, es, hd⟩ hm hn hok hw (k a ha)
theorem seqW {x y : Code} (k : CWm ds P n S0 w0 x (Exit.then (y.wp P Q) Q) ls es) : CWm ds P n S0 w0 (.seq x y) Q ls es := fun a w ha hw => wp_seq (k a w ha hw)
theorem skipW (k : QWm ds n S0 w0 Q .normal ls es) : CWm ds P n S0 w0 .skip Q ls es := fun a w ha hw => wp_skip (k a w ha hw)
theorem retW (k : QWm ds n S0 w0 Q .ret ls es) : CWm ds P n S0 w0 .ret Q ls es := fun a w ha hw => wp_ret (k a w ha hw)
theorem exitW {id : Nat} (k : QWm ds n S0 w0 Q (.exit id) ls es) : CWm ds P n S0 w0 (.exit id) Q ls es := fun a w ha hw => wp_exit (k a w ha hw)
theorem blockW {id : Nat} {c : Code} (k : CWm ds P n S0 w0 c (Exit.inBlock id Q) ls es) : CWm ds P n S0 w0 (.block id c) Q ls es := fun a w ha hw => wp_block (k a w ha hw)
theorem nextW {y : Code} (k : CWm ds P n S0 w0 y Q ls es) : QWm ds n S0 w0 (Exit.then (y.wp P Q) Qx) .normal ls es := k
theorem thenE {K : Act -> World -> Prop} {id : Nat} (k : QWm ds n S0 w0 Q (.exit id) ls es) : QWm ds n S0 w0 (Exit.then K Q) (.exit id) ls es := k
theorem thenR {K : Act -> World -> Prop} (k : QWm ds n S0 w0 Q .ret ls es) : QWm ds n S0 w0 (Exit.then K Q) .ret ls es := k
theorem inbN {id : Nat} (k : QWm ds n S0 w0 Q .normal ls es) : QWm ds n S0 w0 (Exit.inBlock id Q) .normal ls es := k
theorem inbR {id : Nat} (k : QWm ds n S0 w0 Q .ret ls es) : QWm ds n S0 w0 (Exit.inBlock id Q) .ret ls es := k
theorem inbE {id : Nat} (k : QWm ds n S0 w0 Q .normal ls es) : QWm ds n S0 w0 (Exit.inBlock id Q) (.exit id) ls es := fun a w ha hw => by
 show if id = id then _ else _;rw [if_pos rfl]; exact k a w ha hw
theorem goW {Z R : Prop} (k : R) (h : R -> Z := by
 intro k;repeat (first | refine seqW ?_ | refine skipW ?_ | refine nextW ?_ | refine blockW ?_ | refine exitW ?_ | refine retW ?_ | refine thenE ?_ | refine thenR ?_ | refine inbN ?_ | refine inbR ?_ | refine inbE ?_ | refine inbX (by decide) ?_)
 exact k) : Z := h k
theorem condW {b : Bool} {c : Operand} {x y : Code} (h1 : b = true -> CWm ds P n S0 w0 x Q ls es) (h2 : b = false -> CWm ds P n S0 w0 y Q ls es) (hc : inLs ls c = true := by kernel_rfl) (hb : evl ls c = .bool b := by (simp only [evlN, Nat.reduceEqDiff, ↓reduceIte]) <;> rfl) : CWm ds P n S0 w0 (.cond c x y) Q ls es :=
 fun a w ha hw => wp_cond_split (t := b) ((ha.ev hc).trans hb) (fun h => h1 h a w ha hw) (fun h => h2 h a w ha hw)
theorem ctW {c : Operand} {x y : Code} (k : CWm ds P n S0 w0 x Q ls es) (hc : inLs ls c = true := by kernel_rfl) (hb : evl ls c = .bool true := by (simp only [evlN, Nat.reduceEqDiff, ↓reduceIte]) <;> first | rfl | simp [*]) : CWm ds P n S0 w0 (.cond c x y) Q ls es :=
 condW (b := true) (fun _ => k) (fun h => by cases h) hc hb
theorem cfW {c : Operand} {x y : Code} (k : CWm ds P n S0 w0 y Q ls es) (hc : inLs ls c = true := by kernel_rfl) (hb : evl ls c = .bool false := by (simp only [evlN, Nat.reduceEqDiff, ↓reduceIte]) <;> first | rfl | simp [*]) : CWm ds P n S0 w0 (.cond c x y) Q ls es :=
 condW (b := false) (fun h => by cases h) (fun _ => k) hc hb
theorem loopW {X : Type} {c : Code} (I : X -> Prop) (m : X -> Nat) (lx : X -> List (Nat × Value)) (ex : X -> List En) (x0 : X) (h0 : I x0) 
 (round : ∀ x, I x -> CWm ds P n S0 w0 c (Exit.then (fun a w => ∃ y, (I y /\ m y < m x) /\ Slm ds n (lx y) a /\ Fr S0 w0 w (ex y)) Q) (lx x) (ex x)) (hs : ∀ a, Slm ds n ls a -> Slm ds n (lx x0) a := by intro a h; refine h.sub ?_; simp [inLs, evlN]) (he : ∀ w, Fr S0 w0 w es -> Fr S0 w0 w (ex x0) := by intro w h; first | exact h | exact h.pick (by repeat (first | exact Pk.n | refine Pk.c (by repeat (first | exact Rm.z | apply Rm.s)) ?_))) : CWm ds P n S0 w0 (.loop c) Q ls es := fun a w ha hw => by
 obtain ⟨μ, hμ⟩ := least_fun (α := Act × World) (fun k p => ∃ x, I x /\ m x = k /\ Slm ds n (lx x) p.1 /\ Fr S0 w0 p.2 (ex x));refine wp_loop (fun a w => ∃ x, I x /\ Slm ds n (lx x) a /\ Fr S0 w0 w (ex x)) (fun a w => μ (a, w)) ⟨x0, h0, hs a ha, he w hw⟩ ?_;rintro a w ⟨x, hx, h1, h2⟩;obtain ⟨⟨x', hx', hm, h1', h2'⟩, hle⟩ := hμ (a, w) (m x) ⟨x, hx, rfl, h1, h2⟩;refine Code.wp_mono ?_ (round x' hx' a w h1' h2');intro e a2 w2 hq;cases e with
 | normal =>
  obtain ⟨y, ⟨hy, hlt⟩, h3, h4⟩ := hq;refine ⟨⟨y, hy, h3, h4⟩, Nat.lt_of_le_of_lt (hμ (a2, w2) (m y) ⟨y, hy, rfl, h3, h4⟩).2 ?_⟩;show m y < μ (a, w);rw [<- hm]; exact hlt
 | _ => exact hq
theorem backW {X : Type} {I : X -> Prop} {k : Nat} {m : X -> Nat} {lx : X -> List (Nat × Value)} {ex : X -> List En} (y : X) (h : I y /\ m y < k) (hs : ∀ a, Slm ds n ls a -> Slm ds n (lx y) a := by intro a h; refine h.sub ?_; simp [inLs, evlN]) (he : ∀ w, Fr S0 w0 w es -> Fr S0 w0 w (ex y) := by intro w h; first | exact h | exact h.pick (by repeat (first | exact Pk.n | refine Pk.c (by repeat (first | exact Rm.z | apply Rm.s)) ?_))) : QWm ds n S0 w0 (Exit.then (fun a w => ∃ y, (I y /\ m y < k) /\ Slm ds n (lx y) a /\ Fr S0 w0 w (ex y)) Q) .normal ls es :=
 fun a w ha hw => ⟨y, h, hs a ha, he w hw⟩
theorem joinW {X : Type} {x y : Code} (I : X -> Prop) (lx : X -> List (Nat × Value)) (ex : X -> List En) (h1 : CWm ds P n S0 w0 x (Exit.then (fun a w => ∃ z, I z /\ Slm ds n (lx z) a /\ Fr S0 w0 w (ex z)) Q) ls es) (h2 : ∀ z, I z -> CWm ds P n S0 w0 y Q (lx z) (ex z)) : CWm ds P n S0 w0 x (Exit.then (y.wp P Q) Q) ls es := fun a w ha hw => by
 refine Code.wp_mono ?_ (h1 a w ha hw);intro e a2 w2 hq;cases e with
 | normal =>
  obtain ⟨z, hz, h3, h4⟩ := hq;exact h2 z hz a2 w2 h3 h4
 | _ => exact hq
theorem joinE {X : Type} {I : X -> Prop} {lx : X -> List (Nat × Value)} {ex : X -> List En} (z : X) (h : I z) (hs : ∀ a, Slm ds n ls a -> Slm ds n (lx z) a := by intro a h; refine h.sub ?_; simp [inLs, evlN]) (he : ∀ w, Fr S0 w0 w es -> Fr S0 w0 w (ex z) := by intro w h; first | exact h | exact h.pick (by repeat (first | exact Pk.n | refine Pk.c (by repeat (first | exact Rm.z | apply Rm.s)) ?_))) : QWm ds n S0 w0 (Exit.then (fun a w => ∃ z, I z /\ Slm ds n (lx z) a /\ Fr S0 w0 w (ex z)) Q) .normal ls es :=
 fun a w ha hw => ⟨z, h, hs a ha, he w hw⟩
def argL : Nat -> List Value -> List (Nat × Value)
 | _, [] => []
 | k, v :: l => (k, v) :: argL (k + 1) l
theorem argL_get : ∀ (vs : List Value) (k : Nat) (p : Nat × Value), p ∈ argL k vs -> k <= p.1 /\ vs[p.1 - k]? = some p.2 /\ evl (argL k vs) (.tmp p.1) = p.2
 | [], _, _, h => by cases h
 | v :: vs, k, p, h => by
  unfold argL at h ⊢;rcases List.mem_cons.1 h with rfl | h
  · exact ⟨Nat.le_refl _, by simp, by rw [evlN.2.2.2, if_pos rfl]⟩
  · obtain ⟨h1, h2, h3⟩ := argL_get vs (k + 1) p h;have hne : p.1 ≠ k := by omega
    refine ⟨by omega, ?_, by rw [evlN.2.2.2, if_neg hne]; exact h3⟩;rw [show p.1 - k = (p.1 - (k + 1)) + 1 by omega];simpa using h2
theorem funW {f : FuncId} {fn : Func} {c : Code} {vs : List Value} {w : World} {R : Ending -> World -> Prop} (hf : P.funcs[f]? = some fn) (H : Fr S0 w w es) (k : CW P fn.ntmps S0 w c (bodyPost P fn R) ls es) (hb : fn.body = some c := by rfl) (hl : argL 0 vs = ls := by (try simp only [argL, Nat.reduceAdd, av]); rfl) (hn : Nat.ble vs.length fn.ntmps = true := by kernel_rfl) : Calls P f vs.toArray w R := by
 have hn := Nat.le_of_ble_eq_true hn;subst hl;refine calls_of_wp hf hb (k _ w ⟨rfl, by simp; omega, fun p hp => ?_⟩ H);obtain ⟨_, h1, h2⟩ := argL_get vs 0 p hp;rw [h2];have hlt := (List.getElem?_eq_some_iff.1 h1).1;rw [Nat.sub_zero] at h1 hlt;simp only [Array.getElem?_append, List.size_toArray, hlt, if_true, List.getElem?_toArray];exact h1
end
theorem Fr.below {w0 w : World} {es : List En} (h : Fr (fun _ => False) w0 w es) : Below w0.heap.size w0 w := h.bs.to_below (fun _ h => h.elim) (Nat.le_refl _)
theorem Fr.nil (S0 : Nat -> Prop) (w : World) : Fr S0 w w [] := ⟨Chg.refl _ _, fun _ h => (List.not_mem_nil h).elim, List.Pairwise.nil, fun _ h => (List.not_mem_nil h).elim⟩
theorem Fr.i {S0 : Nat -> Prop} {w0 w : World} {es : List En} (h : Fr S0 w0 w es) {L : Nat} {v : Value} {x : Int} (hx : IntAt w L v x) : Fr S0 w0 w (.at L v x :: es) := h.pure hx (fun _ h => h)
def rvOk (P : Program) (ls : List (Nat × Value)) (w : World) (r : ResultVar) (v : Value) : Prop := match r with
 | .tmp t => inLs ls (.tmp t) = true /\ evl ls (.tmp t) = v
 | .cell t ty => inLs ls (.tmp t) = true /\ ∃ ad, evl ls (.tmp t) = .pointer (some ad) /\ (loadVar ty ad).run P w = .ok v w
section
variable {P : Program} {S0 : Nat -> Prop} {w0 : World} {n : Nat} {ls : List (Nat × Value)} {es : List En} {fn : Func} {R : Ending -> World -> Prop}
theorem rvOk.run {a : Act} {w : World} {r : ResultVar} {v : Value} (h : Sl n ls a) (hr : rvOk P ls w r v) : (∃ t, r = .tmp t /\ a.tmps[t]? = some v) ∨ ∃ t ty ad, r = .cell t ty /\ a.tmps[t]? = some (.pointer (some ad)) /\ (loadVar ty ad).run P w = .ok v w := by
 cases r with
 | tmp t => exact .inl ⟨t, rfl, (h.tmp hr.1).trans (by rw [hr.2])⟩
 | cell t ty =>
  obtain ⟨h1, ad, h2, h3⟩ := hr;exact .inr ⟨t, ty, ad, rfl, (h.tmp h1).trans (by rw [h2]), h3⟩
theorem fin1 {r : ResultVar} (k : ∀ w, Fr S0 w0 w es -> ∃ v, rvOk P ls w r v /\ R (.returned v) w) (h : fn.results = #[r] := by rfl) : QW n S0 w0 (bodyPost P fn R) .ret ls es := fun a w ha hw => by
 obtain ⟨v, h1, hR⟩ := k w hw;refine bodyPost_ret (v := v) ?_ ha.df hR;rcases h1.run ha with ⟨t, rfl, e⟩ | ⟨t, ty, ad, rfl, e, e'⟩ <;> simp [results, h, asAddr, *]
theorem fin2 {r r' : ResultVar} (k : ∀ w, Fr S0 w0 w es -> ∃ v v', rvOk P ls w r v /\ rvOk P ls w r' v' /\ R (.returned (.tuple #[v, v'])) w) (h : fn.results = #[r, r'] := by rfl) : QW n S0 w0 (bodyPost P fn R) .ret ls es := fun a w ha hw => by
 obtain ⟨v, v', h1, h2, hR⟩ := k w hw;refine bodyPost_ret (v := .tuple #[v, v']) ?_ ha.df hR;rcases h1.run ha with ⟨t, rfl, e⟩ | ⟨t, ty, ad, rfl, e, e'⟩ <;> rcases h2.run ha with ⟨t2, rfl, f⟩ | ⟨t2, ty2, ad2, rfl, f, f'⟩ <;> simp [results, h, asAddr, *]
theorem fin3 {r r' r2 : ResultVar} (k : ∀ w, Fr S0 w0 w es -> ∃ v v' v2, rvOk P ls w r v /\ rvOk P ls w r' v' /\ rvOk P ls w r2 v2 /\ R (.returned (.tuple #[v, v', v2])) w) (h : fn.results = #[r, r', r2] := by rfl) : QW n S0 w0 (bodyPost P fn R) .ret ls es := fun a w ha hw => by
 obtain ⟨v, v', v2, h1, h2, h3, hR⟩ := k w hw;refine bodyPost_ret (v := .tuple #[v, v', v2]) ?_ ha.df hR;rcases h1.run ha with ⟨t, rfl, e⟩ | ⟨t, ty, ad, rfl, e, e'⟩ <;> rcases h2.run ha with ⟨t2, rfl, f⟩ | ⟨t2, ty2, ad2, rfl, f, f'⟩ <;> rcases h3.run ha with ⟨t3, rfl, g⟩ | ⟨t3, ty3, ad3, rfl, g, g'⟩ <;> simp [results, h, asAddr, *]
end
theorem rvI {ls : List (Nat × Value)} {w : World} {t b : Nat} {x y : Value} (h : RowAt w b 33 [x, y]) (h1 : inLs ls (.tmp t) = true := by kernel_rfl) (h2 : evl ls (.tmp t) = .pointer (some ⟨b, 0, none⟩) := by (simp only [evlN, Nat.reduceEqDiff, ↓reduceIte]) <;> rfl) : rvOk Tryz.prog ls w (.cell t 33) (.agg #[x, y]) :=
 ⟨h1, _, h2, run_loadVar_row w b 33 33 #[x, y] (0, 0) _ h Tryz.underlying33 rfl (by kernel_rfl)⟩
theorem rvT {P : Program} {ls : List (Nat × Value)} {w : World} {t : Nat} {v : Value} (h1 : inLs ls (.tmp t) = true := by kernel_rfl) (h2 : evl ls (.tmp t) = v := by (simp only [evlN, Nat.reduceEqDiff, ↓reduceIte]) <;> rfl) : rvOk P ls w (.tmp t) v := ⟨h1, h2⟩
section
variable {P : Program} {ops : Array Oper} {Q : Exit -> Act -> World -> Prop} {ds : List Deferred} {S0 : Nat -> Prop} {w0 : World} {E0 : List En} {hd : List (List Nat)} {n j s : Nat} {l : List Nat} {G E : List En} {ls : List (Nat × Value)} {op : Op} {ty : TypeId} {pos : String} {af : Array Edge} {v : Value} {f : FuncId} {args : Array Value}
theorem cN1 {x : Int} {z : Value} (c : ∀ w, Fr S0 w0 w (G ++ E) -> Calls P f args w fun e w' => (∃ v, e = .returned (.tuple #[v, z]) /\ OwnI w' w.heap.size v x) /\ Below w.heap.size w w')
 (k : ∀ p : P4, RWm ds ⟨P, ops, Q, S0, w0, E0, hd⟩ n l (.own w0.heap.size (av p) x :: G) E ((s, .tuple #[.agg #[.bool p.1, .slice p.2.1 p.2.2.1 p.2.2.2], z]) :: ls))
 (ho : ops[j]? = some ⟨some s, op, ty, pos, af, none⟩ := by rfl) (hk : (!isDet op && !isNew op && chkO ls op && Nat.blt s n) = true := by kernel_rfl)
 (hr : ∀ w, (execOp (evl ls) ⟨some s, op, ty, pos, af, none⟩).run P w = .ok (.enter f args) w := by intro w; (try simp only [av]); go_simp <;> with_reducible rfl)
 (hst : okSt ops hd j [] = true := by kernel_rfl) : RWm ds ⟨P, ops, Q, S0, w0, E0, hd⟩ n (j :: l) G E ls := by
 refine cG (mk := fun p => .tuple #[av p, z]) (ens := fun p => [.own w0.heap.size (av p) x]) (fun w hw => (c w hw).mono ?_) k ho hk hr ⟨p0⟩ hst;rintro e w' ⟨⟨v, rfl, hv⟩, hb⟩;obtain ⟨b, ao, l', k', rfl⟩ := OwnI.parts hv;exact ⟨(b, ao, l', k'), rfl, hb, fun e he => by
  rcases List.mem_singleton.1 he with rfl;exact ⟨OwnI.mono hv hw.size, fun _ h => h.elim⟩, List.pairwise_singleton ..⟩
theorem cN2 {x y : Int} {z : Value} (c : ∀ w, Fr S0 w0 w (G ++ E) -> Calls P f args w fun e w' => (∃ v v', e = .returned (.tuple #[v, v', z]) /\ OwnI w' w.heap.size v x /\ OwnI w' w.heap.size v' y) /\ Below w.heap.size w w')
 (k : ∀ p q : P4, RWm ds ⟨P, ops, Q, S0, w0, E0, hd⟩ n l (.own w0.heap.size (av p) x :: .own w0.heap.size (av q) y :: G) E ((s, .tuple #[.agg #[.bool p.1, .slice p.2.1 p.2.2.1 p.2.2.2], .agg #[.bool q.1, .slice q.2.1 q.2.2.1 q.2.2.2], z]) :: ls))
 (ho : ops[j]? = some ⟨some s, op, ty, pos, af, none⟩ := by rfl) (hk : (!isDet op && !isNew op && chkO ls op && Nat.blt s n) = true := by kernel_rfl)
 (hr : ∀ w, (execOp (evl ls) ⟨some s, op, ty, pos, af, none⟩).run P w = .ok (.enter f args) w := by intro w; (try simp only [av]); go_simp <;> with_reducible rfl)
 (hst : okSt ops hd j [] = true := by kernel_rfl) : RWm ds ⟨P, ops, Q, S0, w0, E0, hd⟩ n (j :: l) G E ls := by
 refine cG (α := P4 × P4) (mk := fun p => .tuple #[av p.1, av p.2, z]) (ens := fun p => [.own w0.heap.size (av p.1) x, .own w0.heap.size (av p.2) y]) (fun w hw => (c w hw).mono ?_) (fun p => k p.1 p.2) ho hk hr ⟨(p0, p0)⟩ hst;rintro e w' ⟨⟨v, v', rfl, hv, hv'⟩, hb⟩;obtain ⟨b, ao, l', k', rfl⟩ := OwnI.parts hv;obtain ⟨b2, ao2, l2, k2, rfl⟩ := OwnI.parts hv';exact ⟨((b, ao, l', k'), (b2, ao2, l2, k2)), rfl, hb, fun e he => by
  rcases List.mem_cons.1 he with rfl | he
  · exact ⟨OwnI.mono hv hw.size, fun _ h => h.elim⟩
  · rcases List.mem_singleton.1 he with rfl;exact ⟨OwnI.mono hv' hw.size, fun _ h => h.elim⟩, List.pairwise_cons.2 ⟨fun e he => by
    rcases List.mem_singleton.1 he with rfl;exact ⟨(fun h => nomatch h), (fun h => nomatch h)⟩, List.pairwise_singleton ..⟩⟩
end
theorem RW.more {C : RC} : ∀ (l : List Nat) {G G2 E : List En} {a : Act}, (∀ X w, (∀ e ∈ X, e.wl = false) -> Fr C.S0 C.w0 w (X ++ (G ++ E)) -> Fr C.S0 C.w0 w (X ++ (G2 ++ E))) -> RW C l G2 E a -> RW C l G E a
 | [], G, G2, E, a, H, h => fun w hw => h w (H [] w (fun _ h => (List.not_mem_nil h).elim) hw)
 | j :: l, G, G2, E, a, H, h => by
  obtain ⟨o, ho, h⟩ := h;refine ⟨o, ho, ?_⟩;rcases h with ⟨hk, v, hg, hr⟩ | ⟨hk, hk2, mk, t, cs, hn, hr⟩ | ⟨hk, hk2, α, mk, G1, E1, K, hne, hc, hK, hE, hr⟩
  · exact .inl ⟨hk, v, hg, RW.more l H hr⟩
  · exact .inr (.inl ⟨hk, hk2, mk, t, cs, hn, fun g => RW.more l (G2 := .row g t cs :: G2) (fun X w hX hw => (H (.row g t cs :: X) w (fun e he => (List.mem_cons.1 he).elim (fun q => q ▸ rfl) (hX e)) (hw.perm List.perm_middle)).perm (List.perm_middle (l₁ := X) (l₂ := G2 ++ E)).symm) (hr g)⟩)
  · exact .inr (.inr ⟨hk, hk2, α, mk, G1, E1, K, hne, fun X w hX hw => hc X w hX (H X w hX hw), hK, hE, hr⟩)
section
variable {P : Program} {ops : Array Oper} {Q : Exit -> Act -> World -> Prop} {ds : List Deferred} {S0 : Nat -> Prop} {w0 : World} {E0 : List En} {hd : List (List Nat)} {n j s sg g : Nat} {l : List Nat} {G E : List En} {ls : List (Nat × Value)} {op : Op} {ty : TypeId} {pos : String} {af : Array Edge} {v : Value} {f : FuncId} {args : Array Value} {want : Bool}
theorem moreW {e : En} (he : ∀ w, Fr S0 w0 w (G ++ E) -> e.F w) (k : RWm ds ⟨P, ops, Q, S0, w0, E0, hd⟩ n l (e :: G) E ls) (hS : ∀ b, ¬ e.S b := by intro b h; exact h) : RWm ds ⟨P, ops, Q, S0, w0, E0, hd⟩ n l G E ls := fun a ha =>
 RW.more l (fun X w hX hw => (hw.pure (he w (hw.sub (List.sublist_append_right ..))) hS).perm (List.perm_middle (l₁ := X) (l₂ := G ++ E)).symm) (k a ha)
theorem cNo {x : Int} (c : ∀ w, Fr S0 w0 w (G ++ E) -> Calls P f args w fun e w' => (∃ v, e = .returned v /\ OwnI w' w0.heap.size v x) /\ Below w.heap.size w w')
 (k : ∀ p : P4, RWm ds ⟨P, ops, Q, S0, w0, E0, hd⟩ n l (.own w0.heap.size (av p) x :: G) E ((s, .agg #[.bool p.1, .slice p.2.1 p.2.2.1 p.2.2.2]) :: ls))
 (ho : ops[j]? = some ⟨some s, op, ty, pos, af, none⟩ := by rfl) (hk : (!isDet op && !isNew op && chkO ls op && Nat.blt s n) = true := by kernel_rfl)
 (hr : ∀ w, (execOp (evl ls) ⟨some s, op, ty, pos, af, none⟩).run P w = .ok (.enter f args) w := by intro w; (try simp only [av]); go_simp <;> with_reducible rfl)
 (hst : okSt ops hd j [] = true := by kernel_rfl) : RWm ds ⟨P, ops, Q, S0, w0, E0, hd⟩ n (j :: l) G E ls := by
 refine cG (mk := av) (ens := fun p => [.own w0.heap.size (av p) x]) (fun w hw => (c w hw).mono ?_) k ho hk hr ⟨p0⟩ hst;rintro e w' ⟨⟨v, rfl, hv⟩, hb⟩;obtain ⟨b, ao, l', k', rfl⟩ := OwnI.parts hv;exact ⟨(b, ao, l', k'), rfl, hb, fun e he => by
  rcases List.mem_singleton.1 he with rfl;exact ⟨hv, fun _ h => h.elim⟩, List.pairwise_singleton ..⟩
theorem wanted_of {a : Act} (ha : Slm ds n ls a) (hg : (ops[g]?).bind (·.dst) = some sg) (hi : inLs ls (.tmp sg) = true) {b : Bool} (hb : evl ls (.tmp sg) = .bool b) (d : Option Tmp) : Region.wanted ⟨d, op, ty, pos, af, some (g, want)⟩ (yielded ops a.tmps) = (b == want) := by
 unfold Region.wanted yielded;simp [hg, ha.tmp hi, hb]
theorem dG (k : RWm ds ⟨P, ops, Q, S0, w0, E0, []⟩ n l G E ((s, v) :: ls))
 (ho : ops[j]? = some ⟨some s, op, ty, pos, af, some (g, want)⟩ := by rfl) (hk : (isDet op && chkO ls op && Nat.blt s n) = true := by kernel_rfl)
 (hg : (ops[g]?).bind (·.dst) = some sg := by rfl) (hi : inLs ls (.tmp sg) = true := by kernel_rfl) (hb : evl ls (.tmp sg) = .bool want := by (simp only [evlN, Nat.reduceEqDiff, ↓reduceIte]) <;> first | rfl | simp [*])
 (hr : ∀ w, (isLd op = true -> Fr S0 w0 w E0) -> (execOp (evl ls) ⟨some s, op, ty, pos, af, some (g, want)⟩).run P w = .ok (.value v) w := by intro w H; (first | (have c := (H rfl).c; try simp only [celN, cl, List.cons_append, List.nil_append] at c) | skip); clear H; go_simp <;> with_reducible rfl) : RWm ds ⟨P, ops, Q, S0, w0, E0, []⟩ n (j :: l) G E ls := fun a ha => by
 simp only [Bool.and_eq_true] at hk;refine ⟨_, ho, .inl ⟨hk.1.1, v, fun w hw => .inl ⟨by rw [wanted_of ha hg hi hb]; simp, .inl ?_⟩, k _ (ha.put (Nat.le_of_ble_eq_true hk.2) v)⟩⟩;rw [ha.exec hk.1.2];exact hr w fun hl => by simpa [hideF_nil] using hw hl
theorem uG (k : RWm ds ⟨P, ops, Q, S0, w0, E0, hd⟩ n l G E ((s, undef) :: ls))
 (ho : ops[j]? = some ⟨some s, op, ty, pos, af, some (g, want)⟩ := by rfl) (hk : (isDet op && Nat.blt s n) = true := by kernel_rfl)
 (hg : (ops[g]?).bind (·.dst) = some sg := by rfl) (hi : inLs ls (.tmp sg) = true := by kernel_rfl) (hb : evl ls (.tmp sg) = .bool (!want) := by (simp only [evlN, Nat.reduceEqDiff, ↓reduceIte]) <;> first | rfl | simp [*]) : RWm ds ⟨P, ops, Q, S0, w0, E0, hd⟩ n (j :: l) G E ls := fun a ha => by
 simp only [Bool.and_eq_true] at hk;exact ⟨_, ho, .inl ⟨hk.1, undef, fun w hw => .inr ⟨by rw [wanted_of ha hg hi hb]; simp, rfl⟩, k _ (ha.put (Nat.le_of_ble_eq_true hk.2) undef)⟩⟩
end
theorem zi_tdiv {a b : Bool} {m n : Nat} : zi (a != b) (m / n) = (zi a m).tdiv (zi b n) := by
 cases a <;> cases b <;> simp [zi, Int.ofNat_tdiv]
theorem zi_tmod {a b : Bool} {m n : Nat} : zi a (m % n) = (zi a m).tmod (zi b n) := by
 have h : ((m % n : Nat) : Int) = (m : Int).tmod (n : Int) := rfl;cases a <;> cases b <;> simp only [zi, h, Int.neg_tmod, Int.tmod_neg, if_true, Bool.false_eq_true, if_false]
theorem ofI_c {B m cap : Nat} {ao : Option Addr} (n : Bool) {w : World} (h : OwnW w B ao (wlen m) cap (dig m)) : Calls Tryz.prog 19 #[.bool n, .slice ao (wlen m) cap] w fun e w' => (∃ v, e = .returned v /\ OwnI w' B v (zi n m)) /\ Below w.heap.size w w' :=
 (of_c n _ _ _ w).mono fun e w' ⟨he, hb⟩ => ⟨⟨_, he, OwnI.mk n (h.below hb)⟩, hb⟩
set_option maxRecDepth 100000 in
set_option maxHeartbeats 1000000 in
theorem ITrunc_c (v u : Value) (x y : Int) (w : World) (hA : IntAt w 17592186044415 v x) (hB : IntAt w 17592186044415 u y) (hy : y ≠ 0) :
 Calls Tryz.prog 102 #[v, u] w fun e w' => (∃ v' u', e = .returned (.tuple #[v', u', .int .i64 0]) /\ OwnI w' w.heap.size v' (x.tdiv y) /\ OwnI w' w.heap.size u' (x.tmod y)) /\ Below w.heap.size w w' := by
 obtain ⟨n, ao, len, cap, ws, rfl, hW, hl, hL1, hc, hx⟩ := hA;obtain ⟨n2, ao2, len2, cap2, ws2, rfl, hW2, hl2, hL2, hc2, hx2⟩ := hB;have h2 : nval ws2 ≠ 0 := fun h => hy (by rw [hx2, h]; cases n2 <;> rfl);rw [hx, hx2, <- zi_tdiv, <- zi_tmod (b := n2)];refine funW (S0 := fun _ => False) Tryz.func102 (Fr.nil _ w) ?_;refine goW ?_;refine rW [] ?_;refine aW fun g2 => ?_;refine aW fun g3 => ?_;refine aW fun g4 => ?_;refine aW fun g5 => ?_;refine dW ?_;refine eW ?_;refine goW ?_;refine rW [] ?_;refine dW ?_;refine dW ?_;refine dW ?_;refine dW ?_;refine cG (α := (Option Addr × Nat) × Option Addr × Nat) (mk := fun p => .tuple #[.slice p.1.1 (wlen (nval ws / nval ws2)) p.1.2, .slice p.2.1 (wlen (nval ws % nval ws2)) p.2.2, .int .i64 0]) (ens := fun p => [.ow w.heap.size p.1.1 (nval ws / nval ws2) p.1.2, .ow w.heap.size p.2.1 (nval ws % nval ws2) p.2.2])
  (fun w' H => (DivMod_c ao ao2 len len2 cap cap2 ws ws2 w' (hW.below H.below) (hW2.below H.below) hl hl2 (by omega) (by omega) h2).mono ?_) ?_
 · rintro e w3 ⟨⟨aq, cq, ar, cr, rfl, h1, h3⟩, hb⟩;exact ⟨⟨(aq, cq), (ar, cr)⟩, rfl, hb, fun e he => by
    rcases List.mem_cons.1 he with rfl | he
    · exact ⟨h1.mono H.size, fun _ h => h.elim⟩
    · rcases List.mem_singleton.1 he with rfl;exact ⟨h3.mono H.size, fun _ h => h.elim⟩, List.pairwise_pair.2 ⟨(fun h => nomatch h), (fun h => nomatch h)⟩⟩
 rintro ⟨⟨aq, cq⟩, ar, cr⟩;refine dW ?_;refine dW ?_;refine dW ?_;refine dW ?_;refine dW ?_;refine dW ?_;refine dW ?_;refine eW ?_;refine goW ?_;refine rW [] ?_;refine dW ?_;refine dW ?_;refine eW ?_;refine goW ?_;refine cfW ?_;refine goW ?_;refine rW [] ?_;refine dW ?_;refine dW ?_;refine dW ?_;refine dW ?_;refine dW ?_;refine dW ?_;refine cNo (fun w' H => ofI_c (!(n == n2)) H.m0) fun p1 => ?_;refine dW ?_;refine dW ?_;refine dW ?_;refine cNo (fun w' H => ofI_c n H.m2) fun p2 => ?_;refine sW ?_;refine sW ?_;refine dW ?_;refine eW ?_;refine goW ?_;refine fin3 fun w' H => ?_;exact ⟨_, _, _, rvI H.m5, rvI H.m4, rvT, ⟨_, _, rfl, H.m1, H.m0⟩, H.below⟩
theorem zi_neg_iff {n : Bool} {m : Nat} (h : zi n m ≠ 0) : n = decide (zi n m < 0) := by
 unfold zi at *; cases n <;> simp at * <;> omega
theorem floor_same {x y : Int} (hy : y ≠ 0) (h : x.tmod y = 0 ∨ (decide (x.tmod y < 0)) = decide (y < 0)) : x.fdiv y = x.tdiv y /\ x.fmod y = x.tmod y := by
 have hx := Int.emod_nonneg x hy;have hl := Int.emod_lt x hy;rw [Int.fdiv_eq_ediv, Int.tdiv_eq_ediv, Int.fmod_eq_emod, Int.tmod_eq_emod];rw [Int.tmod_eq_emod] at h;by_cases hd : y ∣ x
 · simp [hd]
 · have h0 : x % y ≠ 0 := fun e => hd (Int.dvd_of_emod_eq_zero e);simp only [hd, or_false] at h ⊢;rcases Int.lt_or_gt_of_ne hy with hy' | hy'
   · have hs : y.sign = -1 := Int.sign_eq_neg_one_of_neg hy';by_cases h0x : 0 <= x
     · simp [h0x, hy', Int.not_le.2 hy'] at h ⊢; omega
     · simp [h0x, hy', Int.not_le.2 hy', hs] at h ⊢; omega
   · have hs : y.sign = 1 := Int.sign_eq_one_of_pos hy';by_cases h0x : 0 <= x
     · simp [h0x, Int.le_of_lt hy'] at h ⊢
     · simp [h0x, hs, Int.le_of_lt hy'] at h ⊢; omega
theorem floor_other {x y : Int} (hy : y ≠ 0) (h : x.tmod y ≠ 0) (h2 : ¬ (decide (x.tmod y < 0)) = decide (y < 0)) : x.fdiv y = x.tdiv y - 1 /\ x.fmod y = x.tmod y + y := by
 have hx := Int.emod_nonneg x hy;have hl := Int.emod_lt x hy;rw [Int.fdiv_eq_ediv, Int.tdiv_eq_ediv, Int.fmod_eq_emod, Int.tmod_eq_emod];rw [Int.tmod_eq_emod] at h h2;by_cases hd : y ∣ x
 · have : x % y = 0 := Int.emod_eq_zero_of_dvd hd;simp [hd, this] at h
 · have h0 : x % y ≠ 0 := fun e => hd (Int.dvd_of_emod_eq_zero e);simp only [hd, or_false] at h h2 ⊢;rcases Int.lt_or_gt_of_ne hy with hy' | hy'
   · have hs : y.sign = -1 := Int.sign_eq_neg_one_of_neg hy';by_cases h0x : 0 <= x
     · simp [h0x, hy', Int.not_le.2 hy'] at h h2 ⊢
     · simp [h0x, hy', Int.not_le.2 hy', hs] at h h2 ⊢; omega
   · have hs : y.sign = 1 := Int.sign_eq_one_of_pos hy';by_cases h0x : 0 <= x
     · simp [h0x, Int.le_of_lt hy'] at h h2 ⊢; omega
     · simp [h0x, hs, Int.le_of_lt hy'] at h h2 ⊢; omega
theorem wlen_one : wlen (1 : Int).natAbs <= 17592186044415 := Nat.le_trans (wlen_le_of_lt (k := 1) (by decide)) (by omega)
def NumP (p : P4) (x : Int) : Prop := p.1 = decide (x < 0) /\ p.2.2.1 = wlen x.natAbs
theorem OwnI.partsP {w : World} {B : Nat} {v : Value} {x : Int} (h : OwnI w B v x) : ∃ p : P4, v = av p /\ NumP p x := by
 obtain ⟨ao, cap, rfl, _⟩ := h; exact ⟨(_, _, _, _), rfl, rfl, rfl⟩
theorem NumP.ex (x : Int) : ∃ p : P4, NumP p x := ⟨(_, none, _, 0), rfl, rfl⟩
section
variable {P : Program} {ops : Array Oper} {Q : Exit -> Act -> World -> Prop} {ds : List Deferred} {S0 : Nat -> Prop} {w0 : World} {E0 : List En} {hd : List (List Nat)} {n j s : Nat} {l : List Nat} {G E : List En} {ls : List (Nat × Value)} {op : Op} {ty : TypeId} {pos : String} {af : Array Edge} {f : FuncId} {args : Array Value}
theorem cN2h {x y : Int} {z : Value} (c : ∀ w, Fr S0 w0 w (G ++ E) -> Calls P f args w fun e w' => (∃ v v', e = .returned (.tuple #[v, v', z]) /\ OwnI w' w.heap.size v x /\ OwnI w' w.heap.size v' y) /\ Below w.heap.size w w')
 (k : ∀ p q : P4, NumP p x -> NumP q y -> RWm ds ⟨P, ops, Q, S0, w0, E0, hd⟩ n l (.own w0.heap.size (av p) x :: .own w0.heap.size (av q) y :: G) E ((s, .tuple #[.agg #[.bool p.1, .slice p.2.1 p.2.2.1 p.2.2.2], .agg #[.bool q.1, .slice q.2.1 q.2.2.1 q.2.2.2], z]) :: ls))
 (ho : ops[j]? = some ⟨some s, op, ty, pos, af, none⟩ := by rfl) (hk : (!isDet op && !isNew op && chkO ls op && Nat.blt s n) = true := by kernel_rfl)
 (hr : ∀ w, (execOp (evl ls) ⟨some s, op, ty, pos, af, none⟩).run P w = .ok (.enter f args) w := by intro w; (try simp only [av]); go_simp <;> with_reducible rfl)
 (hst : okSt ops hd j [] = true := by kernel_rfl) : RWm ds ⟨P, ops, Q, S0, w0, E0, hd⟩ n (j :: l) G E ls := by
 refine cG (α := {p : P4 × P4 // NumP p.1 x /\ NumP p.2 y}) (mk := fun p => .tuple #[av p.1.1, av p.1.2, z]) (ens := fun p => [.own w0.heap.size (av p.1.1) x, .own w0.heap.size (av p.1.2) y]) (fun w hw => (c w hw).mono ?_) (fun p => k p.1.1 p.1.2 p.2.1 p.2.2) ho hk hr (by obtain ⟨a, ha⟩ := NumP.ex x; obtain ⟨b, hb⟩ := NumP.ex y; exact ⟨⟨(a, b), ha, hb⟩⟩) hst;rintro e w' ⟨⟨v, v', rfl, hv, hv'⟩, hb⟩;obtain ⟨p, rfl, hp⟩ := hv.partsP;obtain ⟨q, rfl, hq⟩ := hv'.partsP;exact ⟨⟨(p, q), hp, hq⟩, rfl, hb, fun e he => by
  rcases List.mem_cons.1 he with rfl | he
  · exact ⟨OwnI.mono hv hw.size, fun _ h => h.elim⟩
  · rcases List.mem_singleton.1 he with rfl;exact ⟨OwnI.mono hv' hw.size, fun _ h => h.elim⟩, List.pairwise_pair.2 ⟨(fun h => nomatch h), (fun h => nomatch h)⟩⟩
end
theorem one_int {w : World} {B : Nat} {v : Value} (h : OwnI w B v 1) : IntAt w 17592186044415 v 1 := OwnI.int h wlen_one
set_option maxRecDepth 100000 in
set_option maxHeartbeats 8000000 in
theorem IFloor_c (v u : Value) (x y : Int) (w : World) (hA : IntAt w 17592186044415 v x) (hB : IntAt w 17592186044415 u y) (hy : y ≠ 0) :
 Calls Tryz.prog 98 #[v, u] w fun e w' => (∃ v' u', e = .returned (.tuple #[v', u', .int .i64 0]) /\ OwnI w' w.heap.size v' (x.fdiv y) /\ OwnI w' w.heap.size u' (x.fmod y)) /\ Below w.heap.size w w' := by
 have hlx := hA.wlen;obtain ⟨p, rfl⟩ := hA.parts;obtain ⟨q, rfl⟩ := hB.parts;have hq : q.1 = decide (y < 0) := by
  obtain ⟨n, ao, len, cap, ws, e, _, _, _, _, hx⟩ := hB;cases e;rw [hx]; exact zi_neg_iff (by rw [<- hx]; exact hy)
 have bt : wlen (x.tdiv y).natAbs <= 17592186044415 := Nat.le_trans (wlen_mono (by rw [Int.natAbs_tdiv]; exact Nat.div_le_self ..)) hlx;have br : wlen (x.tmod y).natAbs <= 17592186044415 := Nat.le_trans (wlen_mono (by rw [Int.natAbs_tmod]; exact Nat.mod_le ..)) hlx;refine funW (S0 := fun _ => False) Tryz.func98 (((Fr.nil _ w).i hB).i hA) ?_;refine goW ?_;refine rW [] ?_;refine aW fun g2 => ?_;refine aW fun g3 => ?_;refine aW fun g4 => ?_;refine aW fun g5 => ?_;refine dW ?_;refine eW ?_;refine goW ?_;refine rW [] ?_;refine dW ?_;refine dW ?_;refine cN2h (fun w H => ITrunc_c _ _ x y w H.m4 H.m5 hy) fun s r hs hr => ?_;refine dW ?_;refine dW ?_;refine dW ?_;refine dW ?_;refine aW fun g7 => ?_;refine aW fun g8 => ?_;refine sG ?_;refine sG ?_;refine dW ?_;refine eW ?_;refine nextW (seqW (joinW (X := (P4 × P4) × Int × Int) (fun z => x.fdiv y = z.2.1 /\ x.fmod y = z.2.2) (fun _ => [(9, .int .i64 0), (7, .pointer (some ⟨g7, 0, none⟩)), (8, .pointer (some ⟨g8, 0, none⟩)), (4, .pointer (some ⟨g4, 0, none⟩)), (5, .pointer (some ⟨g5, 0, none⟩))]) (fun z => [.row g8 33 (cl z.1.2), .row g7 33 (cl z.1.1), .own w.heap.size (av z.1.1) z.2.1, .own w.heap.size (av z.1.2) z.2.2, .row g5 33 (cl p0), .row g4 33 (cl p0)]) ?_ fun z hz => ?_))
 · by_cases h0 : x.tmod y = 0
   · have e : r.2.2.1 = 0 := by rw [hr.2, h0]; exact wlen_zero
     refine goW ?_;refine rW [] ?_;refine dW ?_;refine dW ?_;refine dW ?_;refine dG ?_;refine dG ?_;refine dG ?_;refine dG ?_;refine dW ?_;refine dW ?_;refine uG ?_;refine uG ?_;refine uG ?_;refine uG ?_;refine uG ?_;refine dW ?_;refine eW ?_;refine goW ?_;refine cfW ?_;refine goW ?_;exact joinE ((s, r), x.tdiv y, x.tmod y) (floor_same hy (.inl h0))
   · have e : 0 < r.2.2.1 := by
      rw [hr.2];exact Nat.pos_of_ne_zero fun e => h0 (by have := wlen_eq_zero.1 e; omega)
     refine goW ?_;refine rW [] ?_;refine dW ?_;refine dW ?_;refine dW ?_;refine dG ?_;refine dG ?_;refine dG ?_;refine dG ?_;refine dW ?_;refine dW ?_;refine dG ?_;refine dG ?_;refine dG ?_;refine dG ?_;refine dG ?_;refine dW ?_;refine eW ?_;refine goW ?_;refine condW (fun h => ?_) (fun h => ?_)
     · have hf := floor_other hy h0 (by rw [<- hr.1]; simpa using h);refine goW ?_;refine rW [] ?_;refine dW ?_;refine cN (fun w H => IOf_c 1 w (by omega) (by omega)) fun p1 => ?_;refine cN (fun w H => ISub_c _ _ _ _ w (OwnI.int H.m3 bt) (one_int H.m0)) fun p2 => ?_;refine sW ?_;refine eW ?_;refine goW ?_;refine rW [] ?_;refine dW ?_;refine dW ?_;refine cN (fun w H => IAdd_c _ _ _ _ w (OwnI.int H.m5 br) H.m11) fun p3 => ?_;refine sW ?_;refine eW ?_;refine goW ?_;exact joinE ((p2, p3), x.tdiv y - 1, x.tmod y + y) hf
     · refine goW ?_;exact joinE ((s, r), x.tdiv y, x.tmod y) (floor_same hy (.inr (by rw [<- hr.1]; simpa using h)))
 · rw [hz.1, hz.2];refine goW ?_;refine rW [[], [5], [4, 5]] ?_;refine dH ?_;refine dH ?_;refine dH ?_;refine sW ?_;refine sW ?_;refine dH ?_;refine eW ?_;refine goW ?_;refine fin3 fun w' H => ?_;exact ⟨_, _, _, rvI H.m5, rvI H.m4, rvT, ⟨_, _, rfl, H.m2, H.m3⟩, H.below⟩
theorem euclid_same {x y : Int} (hy : y ≠ 0) (h : ¬ x.tmod y < 0) : x / y = x.tdiv y /\ x % y = x.tmod y := by
 have hx := Int.emod_nonneg x hy;have hl := Int.emod_lt x hy;rw [Int.tdiv_eq_ediv, Int.tmod_eq_emod];rw [Int.tmod_eq_emod] at h;by_cases hd : y ∣ x
 · simp [hd]
 · by_cases h0x : 0 <= x
   · simp [h0x]
   · simp only [hd, h0x, or_self, if_false] at h;omega
theorem euclid_neg {x y : Int} (hy : y ≠ 0) (h : x.tmod y < 0) : (y < 0 -> x / y = x.tdiv y + 1 /\ x % y = x.tmod y - y) /\ (¬ y < 0 -> x / y = x.tdiv y - 1 /\ x % y = x.tmod y + y) := by
 have hx := Int.emod_nonneg x hy;rw [Int.tdiv_eq_ediv, Int.tmod_eq_emod];rw [Int.tmod_eq_emod] at h;by_cases hd : y ∣ x
 · simp [hd] at h; omega
 · by_cases h0x : 0 <= x
   · simp [h0x] at h; omega
   · simp only [hd, h0x, or_self, if_false];refine ⟨fun h0 => ?_, fun h0 => ?_⟩
     · rw [Int.sign_eq_neg_one_of_neg h0]; omega
     · rw [Int.sign_eq_one_of_pos (by omega)]; omega
set_option maxRecDepth 100000 in
set_option maxHeartbeats 8000000 in
theorem IEuclid_c (v u : Value) (x y : Int) (w : World) (hA : IntAt w 17592186044415 v x) (hB : IntAt w 17592186044415 u y) (hy : y ≠ 0) :
 Calls Tryz.prog 104 #[v, u] w fun e w' => (∃ v' u', e = .returned (.tuple #[v', u', .int .i64 0]) /\ OwnI w' w.heap.size v' (x / y) /\ OwnI w' w.heap.size u' (x % y)) /\ Below w.heap.size w w' := by
 have hlx := hA.wlen;obtain ⟨p, rfl⟩ := hA.parts;obtain ⟨q, rfl⟩ := hB.parts;have hq : q.1 = decide (y < 0) := by
  obtain ⟨n, ao, len, cap, ws, e, _, _, _, _, hx⟩ := hB;cases e;rw [hx]; exact zi_neg_iff (by rw [<- hx]; exact hy)
 have bt : wlen (x.tdiv y).natAbs <= 17592186044415 := Nat.le_trans (wlen_mono (by rw [Int.natAbs_tdiv]; exact Nat.div_le_self ..)) hlx;have br : wlen (x.tmod y).natAbs <= 17592186044415 := Nat.le_trans (wlen_mono (by rw [Int.natAbs_tmod]; exact Nat.mod_le ..)) hlx;refine funW (S0 := fun _ => False) Tryz.func104 (((Fr.nil _ w).i hB).i hA) ?_;refine goW ?_;refine rW [] ?_;refine aW fun g2 => ?_;refine aW fun g3 => ?_;refine aW fun g4 => ?_;refine aW fun g5 => ?_;refine dW ?_;refine eW ?_;refine goW ?_;refine rW [] ?_;refine dW ?_;refine dW ?_;refine cN2h (fun w H => ITrunc_c _ _ x y w H.m4 H.m5 hy) fun s r hs hr => ?_;refine dW ?_;refine dW ?_;refine dW ?_;refine dW ?_;refine aW fun g7 => ?_;refine aW fun g8 => ?_;refine sG ?_;refine sG ?_;refine dW ?_;refine eW ?_;have he := euclid_neg (x := x) hy;by_cases h0 : x.tmod y < 0
 · have e : r.1 = true := by rw [hr.1]; simpa using h0
   refine goW ?_;refine rW [] ?_;refine dW ?_;refine dW ?_;refine dW ?_;refine dG ?_;refine dG ?_;refine dG ?_;refine dW ?_;refine eW ?_;refine goW ?_;refine cfW ?_;refine goW ?_;refine rW [] ?_;refine dW ?_;refine dW ?_;refine eW ?_;refine goW ?_;refine condW (fun h => ?_) (fun h => ?_)
   · have hf := (he h0).1 (by simpa [hq] using h);rw [hf.1, hf.2];refine goW ?_;refine rW [[], [], [], [5], [5]] ?_;refine dH ?_;refine cN (fun w H => IOf_c 1 w (by omega) (by omega)) fun p1 => ?_;refine cN (fun w H => IAdd_c _ _ _ _ w (OwnI.int H.m3 bt) (one_int H.m0)) fun p2 => ?_;refine dH ?_;refine dH ?_;refine cN (fun w H => ISub_c _ _ _ _ w (OwnI.int H.m5 br) H.m11) fun p3 => ?_;refine sW ?_;refine sW ?_;refine dH ?_;refine eW ?_;refine goW ?_;refine fin3 fun w' H => ?_;exact ⟨_, _, _, rvI H.m8, rvI H.m7, rvT, ⟨_, _, rfl, H.m1, H.m0⟩, H.below⟩
   · have hf := (he h0).2 (by simpa [hq] using h);rw [hf.1, hf.2];refine goW ?_;refine rW [[], [], [], [5], [5]] ?_;refine dH ?_;refine cN (fun w H => IOf_c 1 w (by omega) (by omega)) fun p1 => ?_;refine cN (fun w H => ISub_c _ _ _ _ w (OwnI.int H.m3 bt) (one_int H.m0)) fun p2 => ?_;refine dH ?_;refine dH ?_;refine cN (fun w H => IAdd_c _ _ _ _ w (OwnI.int H.m5 br) H.m11) fun p3 => ?_;refine sW ?_;refine sW ?_;refine dH ?_;refine eW ?_;refine goW ?_;refine fin3 fun w' H => ?_;exact ⟨_, _, _, rvI H.m8, rvI H.m7, rvT, ⟨_, _, rfl, H.m1, H.m0⟩, H.below⟩
 · obtain ⟨r1, r2⟩ := r;obtain rfl : r1 = false := hr.1.trans (by simpa using h0);have hf := euclid_same hy h0;rw [hf.1, hf.2];refine goW ?_;refine rW [] ?_;refine dW ?_;refine dW ?_;refine dW ?_;refine dG ?_;refine dG ?_;refine dG ?_;refine dW ?_;refine eW ?_;refine goW ?_;refine ctW ?_;refine goW ?_;refine rW [[], [5], [4, 5]] ?_;refine dH ?_;refine dH ?_;refine dH ?_;refine sW ?_;refine sW ?_;refine dH ?_;refine eW ?_;refine goW ?_;refine fin3 fun w' H => ?_;exact ⟨_, _, _, rvI H.m5, rvI H.m4, rvT, ⟨_, _, rfl, H.m2, H.m3⟩, H.below⟩
set_option maxRecDepth 100000 in
set_option maxHeartbeats 8000000 in
theorem IMod_c (v u : Value) (x y : Int) (w : World) (hA : IntAt w 17592186044415 v x) (hB : IntAt w 17592186044415 u y) (hy : y ≠ 0) :
 Calls Tryz.prog 103 #[v, u] w fun e w' => (∃ u', e = .returned (.tuple #[u', .int .i64 0]) /\ OwnI w' w.heap.size u' (x % y)) /\ Below w.heap.size w w' := by
 obtain ⟨p, rfl⟩ := hA.parts;obtain ⟨q, rfl⟩ := hB.parts;refine funW (S0 := fun _ => False) Tryz.func103 (((Fr.nil _ w).i hB).i hA) ?_;refine goW ?_;refine rW [] ?_;refine aW fun g2 => ?_;refine aW fun g3 => ?_;refine aW fun g4 => ?_;refine dW ?_;refine eW ?_;refine goW ?_;refine rW [] ?_;refine dW ?_;refine dW ?_;refine cN2 (fun w H => IEuclid_c _ _ x y w H.m3 H.m4 hy) fun s r => ?_;refine dW ?_;refine dW ?_;refine dW ?_;refine dW ?_;refine aW fun g6 => ?_;refine aW fun g7 => ?_;refine sG ?_;refine sG ?_;refine dW ?_;refine eW ?_;refine goW ?_;refine rW [] ?_;refine dW ?_;refine dW ?_;refine sW ?_;refine dW ?_;refine eW ?_;refine goW ?_;refine fin2 fun w' H => ?_;exact ⟨_, _, rvI H.m4, rvT, ⟨_, rfl, H.m3⟩, H.below⟩
theorem zsign_cases (x : Int) : zsign x = -1 ∨ zsign x = 0 ∨ zsign x = 1 := by
 unfold zsign; split
 · exact .inl rfl
 · split
   · exact .inr (.inl rfl)
   · exact .inr (.inr rfl)
theorem wrap_small {a : Int} (h1 : -9223372036854775808 <= a) (h2 : a <= 9223372036854775807) : IntKind.i64.wrap a = a := IntWalk.i64_in _ (by omega)
end Go.Proofs.YtcpjoiffkniccaaGreat
namespace Go.Proofs.YtcpjoiffkniccaaGreat
structure EInv (A : Nat) (b : Int) (r0 r1 : Nat) (m0 m1 : Int) : Prop where
 c0 : b ∣ (r0 : Int) - m0 * A
 c1 : b ∣ (r1 : Int) - m1 * A
 g : Nat.gcd r0 r1 = Nat.gcd A b.natAbs
 s : (0 <= m0 /\ m1 <= 0) ∨ (m0 <= 0 /\ 0 <= m1)
 d : r0 * m1.natAbs + r1 * m0.natAbs = b.natAbs
 k0 : m0.natAbs <= b.natAbs
 k1 : m1.natAbs <= b.natAbs
theorem EInv.start (A : Nat) {b : Int} (hb : b ≠ 0) : EInv A b A b.natAbs 1 0 := by
 refine ⟨by simp, ?_, rfl, .inl ⟨by omega, by omega⟩, by simp, by omega, by simp⟩;rw [Int.zero_mul, Int.sub_zero];exact Int.dvd_natAbs.2 (Int.dvd_refl b)
theorem natAbs_sub_mul {m0 m1 : Int} (q : Nat) (s : (0 <= m0 /\ m1 <= 0) ∨ (m0 <= 0 /\ 0 <= m1)) : (m0 - (q : Int) * m1).natAbs = m0.natAbs + q * m1.natAbs := by
 rcases s with ⟨h0, h1⟩ | ⟨h0, h1⟩
 · obtain ⟨a, rfl⟩ := Int.eq_ofNat_of_zero_le h0;obtain ⟨c, hc⟩ := Int.eq_ofNat_of_zero_le (Int.neg_nonneg_of_nonpos h1);obtain rfl : m1 = -(c : Int) := by omega
   rw [Int.mul_neg, Int.sub_neg, <- Int.natCast_mul];simp only [Int.natAbs_neg, Int.natAbs_natCast];omega
 · obtain ⟨c, rfl⟩ := Int.eq_ofNat_of_zero_le h1;obtain ⟨a, ha⟩ := Int.eq_ofNat_of_zero_le (Int.neg_nonneg_of_nonpos h0);obtain rfl : m0 = -(a : Int) := by omega
   rw [<- Int.natCast_mul];simp only [Int.natAbs_neg, Int.natAbs_natCast];omega
theorem EInv.step {A : Nat} {b : Int} {r0 r1 : Nat} {m0 m1 : Int} (h : EInv A b r0 r1 m0 m1) (hr : r1 ≠ 0) : EInv A b r1 (r0 % r1) m1 (m0 - ((r0 / r1 : Nat) : Int) * m1) := by
 have hd := Nat.div_add_mod r0 r1;have hn := natAbs_sub_mul (r0 / r1) h.s;have hD : r1 * (m0 - ((r0 / r1 : Nat) : Int) * m1).natAbs + (r0 % r1) * m1.natAbs = b.natAbs := by
  rw [hn, <- h.d];have : r0 * m1.natAbs = r1 * (r0 / r1) * m1.natAbs + r0 % r1 * m1.natAbs := by rw [<- Nat.add_mul, hd]
  rw [this, Nat.mul_add, Nat.mul_assoc];omega
 refine ⟨h.c1, ?_, ?_, ?_, hD, h.k1, ?_⟩
 · have e : ((r0 % r1 : Nat) : Int) = (r0 : Int) - (r1 : Int) * ((r0 / r1 : Nat) : Int) := by
    have : (r0 : Int) = ((r1 * (r0 / r1) + r0 % r1 : Nat) : Int) := by rw [hd]
    rw [this]; push_cast; omega
   rw [e];have := Int.dvd_sub h.c0 (Int.dvd_mul_of_dvd_left (c := ((r0 / r1 : Nat) : Int)) h.c1);have e2 : (r0 : Int) - (r1 : Int) * ((r0 / r1 : Nat) : Int) - (m0 - ((r0 / r1 : Nat) : Int) * m1) * A = (r0 : Int) - m0 * A - ((r1 : Int) - m1 * A) * ((r0 / r1 : Nat) : Int) := by
    generalize ((r0 / r1 : Nat) : Int) = q;rw [Int.sub_mul, Int.sub_mul, Int.mul_comm q m1, Int.mul_assoc m1 q, Int.mul_comm q, <- Int.mul_assoc];omega
   rw [e2]; exact this
 · rw [<- h.g, Nat.gcd_comm, Nat.gcd_comm r0 r1, Nat.gcd_rec r1 r0]
 · rcases h.s with ⟨h0, h1⟩ | ⟨h0, h1⟩
   · refine .inr ⟨h1, ?_⟩;have := Int.mul_nonpos_of_nonneg_of_nonpos (Int.natCast_nonneg (r0 / r1)) h1;omega
   · refine .inl ⟨h1, ?_⟩;have := Int.mul_nonneg (Int.natCast_nonneg (r0 / r1)) h1;omega
 · have : 1 * (m0 - ((r0 / r1 : Nat) : Int) * m1).natAbs <= r1 * (m0 - ((r0 / r1 : Nat) : Int) * m1).natAbs := Nat.mul_le_mul_right _ (by omega);omega
def ExtIs (a b g x y : Int) : Prop :=
 if b = 0 then g = a.natAbs /\ x = a.sign /\ y = 0
 else g = Int.gcd a b /\ 0 <= x /\ x * g < b.natAbs /\ a * x + b * y = g
theorem EInv.done {a b : Int} {r0 : Nat} {m0 m1 : Int} (hb : b ≠ 0) (h : EInv a.natAbs b r0 0 m0 m1) : (r0 : Int) = Int.gcd a b /\ b ∣ (r0 : Int) - (if a < 0 then -m0 else m0) * a := by
 refine ⟨?_, ?_⟩
 · have := h.g; rw [Nat.gcd_zero_right] at this; rw [this]; rfl
 · have := h.c0;have e : (if a < 0 then -m0 else m0) * a = m0 * (a.natAbs : Int) := by
    split
    · have : (a.natAbs : Int) = -a := by omega
      rw [this, Int.neg_mul, Int.mul_neg]
    · have : (a.natAbs : Int) = a := by omega
      rw [this]
   rw [e]; exact this
theorem ext_last {a b g m : Int} (hb : b ≠ 0) (hg : g = Int.gcd a b) (hm : b ∣ g - m * a) : g ∣ b /\ b / g ≠ 0 /\ b ∣ g - a * (m % (b / g)) /\ ExtIs a b g (m % (b / g)) ((g - a * (m % (b / g))) / b) := by
 have hgb : g ∣ b := hg ▸ Int.gcd_dvd_right ..;have hga : g ∣ a := hg ▸ Int.gcd_dvd_left ..;obtain ⟨c, hc⟩ := hgb;obtain ⟨e, he⟩ := hga;have hg0 : g ≠ 0 := fun h => hb (by rw [hc, h, Int.zero_mul]);have hgp : 0 < g := by rw [hg] at hg0 ⊢; omega
 have hq : b / g = c := by rw [hc]; exact Int.mul_ediv_cancel_left _ hg0
 have hc0 : c ≠ 0 := fun h => hb (by rw [hc, h, Int.mul_zero]);rw [hq];have hdv : b ∣ g - a * (m % c) := by
  have h1 : g - a * (m % c) = (g - m * a) + b * (e * (m / c)) := by
   have hm' := Int.emod_add_mul_ediv m c;have : m % c = m - c * (m / c) := by omega
   rw [this, he, hc];simp only [Int.mul_sub, Int.mul_assoc, Int.mul_comm, Int.mul_left_comm];omega
  rw [h1];exact Int.dvd_add hm (Int.dvd_mul_right ..)
 refine ⟨⟨c, hc⟩, hc0, hdv, ?_⟩;unfold ExtIs;rw [if_neg hb];refine ⟨hg, Int.emod_nonneg _ hc0, ?_, ?_⟩
 · have h2 : (b.natAbs : Int) = c.natAbs * g := by
    rw [hc, Int.natAbs_mul, Int.natCast_mul, Int.natAbs_of_nonneg (Int.le_of_lt hgp), Int.mul_comm]
   rw [h2];have h3 : m % c < (c.natAbs : Int) := Int.emod_lt m hc0;exact Int.mul_lt_mul_of_pos_right h3 hgp
 · obtain ⟨d, hd⟩ := hdv;rw [hd, Int.mul_ediv_cancel_left _ hb];omega
end Go.Proofs.YtcpjoiffkniccaaGreat
namespace Go.Proofs.YtcpjoiffkniccaaGreat
open Go.RowKit
def AV.int2 (B : Nat) (x y : Int) : AV := AV.free (fun w v => ∃ b ao l k b' ao' l' k', v = .agg #[.bool b, .slice ao l k, .bool b', .slice ao' l' k'] /\ OwnI w B (.agg #[.bool b, .slice ao l k]) x /\ OwnI w B (.agg #[.bool b', .slice ao' l' k']) y) (fun ⟨b, ao, l, k, b', ao', l', k', e, h, h'⟩ hb => ⟨b, ao, l, k, b', ao', l', k', e, OwnI.below h hb, OwnI.below h' hb⟩) (fun ⟨b, ao, l, k, b', ao', l', k', e, h, h'⟩ hr _ ht j u _ => ⟨b, ao, l, k, b', ao', l', k', e, OwnI.setRow h hr ht j u, OwnI.setRow h' hr ht j u⟩)
theorem zsign_sign (x : Int) : zsign x = x.sign := by
 unfold zsign;rcases Int.lt_trichotomy x 0 with h | h | h
 · rw [if_pos h, Int.sign_eq_neg_one_of_neg h]
 · subst h; rfl
 · rw [if_neg (by omega), if_neg (by omega), Int.sign_eq_one_of_pos h]
theorem extIs_zero (a : Int) : ExtIs a 0 ((a.natAbs : Nat) : Int) (zsign a) 0 := by
 unfold ExtIs;rw [if_pos rfl];exact ⟨rfl, zsign_sign a, rfl⟩
theorem zsign_beq {x : Int} : (zsign x = 0) ↔ x = 0 := by
 unfold zsign; split
 · constructor <;> intro h <;> omega
 · split <;> constructor <;> intro h <;> omega
theorem flat_app {ps : List P4} {tl : List Value} (n : NoW tl) : NoW (flat ps ++ tl) := NoW.append (NoW_flat ps) n
theorem flat_set_app (ps : List P4) {tl : List Value} (n : NoW tl) (i : Nat) (p : P4) : ∃ tl', NoW tl' /\ ((flat ps ++ tl).set (i * 2) (.bool p.1)).set (i * 2 + 1) (.slice p.2.1 p.2.2.1 p.2.2.2) = flat (ps.set i p) ++ tl' := by
 by_cases h : i < ps.length
 · refine ⟨tl, n, ?_⟩;have hl := flat_length ps;rw [List.set_append_left _ _ (by omega), List.set_append_left _ _ (by rw [List.length_set]; omega), flat_set]
 · refine ⟨(tl.set (i * 2 - (flat ps).length) (.bool p.1)).set (i * 2 + 1 - (flat ps).length) (.slice p.2.1 p.2.2.1 p.2.2.2), (n.setB _ _).setS _ _ _ _, ?_⟩;have hl := flat_length ps;have e : ps.set i p = ps := List.set_eq_of_length_le (by omega);rw [List.set_append_right _ _ (by omega), List.set_append_right _ _ (by omega), e]
def RowN (w : World) (b : Nat) (xs : List Int) : Prop := ∃ (ps : List P4) (tl : List Value), NoW tl /\ RowAt w b 33 (flat ps ++ tl) /\ ps.length = xs.length /\ ∀ i (h : i < ps.length) (h' : i < xs.length), NumAt w (av ps[i]) xs[i]
theorem RowN.of {w : World} {b : Nat} {xs : List Int} {ps : List P4} (h : RowAt w b 33 (flat ps)) (hl : ps.length = xs.length) (hn : ∀ i (h : i < ps.length) (h' : i < xs.length), NumAt w (av ps[i]) xs[i]) : RowN w b xs := ⟨ps, [], NoW.nil, by rw [List.append_nil]; exact h, hl, hn⟩
theorem RowN.lt {w : World} {b : Nat} {xs : List Int} (h : RowN w b xs) : b < w.heap.size := by
 obtain ⟨ps, tl, nt, hr, _⟩ := h; exact hr.lt
theorem RowN.below {w w' : World} {b : Nat} {xs : List Int} (h : RowN w b xs) (hb : Below w.heap.size w w') : RowN w' b xs := by
 obtain ⟨ps, tl, nt, hr, hl, hn⟩ := h;exact ⟨ps, tl, nt, hr.below hb hr.lt, hl, fun i h1 h2 => (hn i h1 h2).below hb⟩
theorem RowN.other {w : World} {b g : Nat} {xs : List Int} (h : RowN w b xs) (hne : b ≠ g) {t : TypeId} {cs : List Value} (hr : RowAt w g t cs) (hn : NoW cs) (i : Nat) (u : Value) : RowN (w.setCell ⟨g, i, none⟩ u) b xs := by
 obtain ⟨ps, tl, nt, hr', hl, hn'⟩ := h;exact ⟨ps, tl, nt, hr'.other hne u, hl, fun j h1 h2 => (hn' j h1 h2).setRow hr hn i u⟩
theorem RowN.get {w : World} {b : Nat} {xs : List Int} (h : RowN w b xs) {i : Nat} (hi : i < xs.length) : ∃ p : P4, w.cell? ⟨b, i * 2, none⟩ = some (.bool p.1) /\ w.cell? ⟨b, i * 2 + 1, none⟩ = some (.slice p.2.1 p.2.2.1 p.2.2.2) /\ NumAt w (av p) xs[i] := by
 obtain ⟨ps, tl, nt, hr, hl, hn⟩ := h;have hi' : i < ps.length := by omega
 have hf := flat_length ps;exact ⟨ps[i], by rw [hr.cell, List.getElem?_append_left (by omega)]; exact flat_get0 ps i hi', by rw [hr.cell, List.getElem?_append_left (by omega)]; exact flat_get1 ps i hi', hn i hi' hi⟩
theorem RowN.free {w : World} {b : Nat} {xs : List Int} (h : RowN w b xs) (i : Nat) : w.frozen? ⟨b, i, none⟩ = false := by
 obtain ⟨ps, tl, nt, hr, _⟩ := h; exact hr.free i
theorem RowN.set {w : World} {b : Nat} {xs : List Int} (h : RowN w b xs) (i : Nat) {p : P4} {x : Int} (hx : NumAt w (av p) x) : RowN ((w.setCell ⟨b, i * 2, none⟩ (.bool p.1)).setCell ⟨b, i * 2 + 1, none⟩ (.slice p.2.1 p.2.2.1 p.2.2.2)) b (xs.set i x) := by
 obtain ⟨ps, tl, nt, hr, hl, hn⟩ := h;have h1 := hr.set (i * 2) (.bool p.1);have hn0 : NoW (flat ps ++ tl) := flat_app nt;have hn1 := hn0.setB (i * 2) p.1;have h2 := h1.set (i * 2 + 1) (.slice p.2.1 p.2.2.1 p.2.2.2);obtain ⟨tl', nt', e⟩ := flat_set_app ps nt i p;rw [e] at h2;refine ⟨ps.set i p, tl', nt', h2, by simp [hl], fun j hj hj' => ?_⟩;rw [List.getElem_set, List.getElem_set];split
 · exact (hx.setRow hr hn0 _ _).setRow h1 hn1 _ _
 · exact ((hn j (by simpa using hj) (by simpa using hj')).setRow hr hn0 _ _).setRow h1 hn1 _ _
theorem RowN.keepInt {w : World} {b : Nat} {xs : List Int} (h : RowN w b xs) {L : Nat} {v : Value} {x : Int} (hx : IntAt w L v x) (i : Nat) (p : P4) : IntAt ((w.setCell ⟨b, i * 2, none⟩ (.bool p.1)).setCell ⟨b, i * 2 + 1, none⟩ (.slice p.2.1 p.2.2.1 p.2.2.2)) L v x := by
 obtain ⟨ps, tl, nt, hr, hl, hn⟩ := h;exact (hx.setRow hr (flat_app nt) _ _).setRow (hr.set _ _) ((flat_app nt).setB _ _) _ _
theorem RowN.keepRow {w : World} {b : Nat} {xs : List Int} (h : RowN w b xs) {b' : Nat} {ys : List Int} (hy : RowN w b' ys) (hne : b' ≠ b) (i : Nat) (p : P4) : RowN ((w.setCell ⟨b, i * 2, none⟩ (.bool p.1)).setCell ⟨b, i * 2 + 1, none⟩ (.slice p.2.1 p.2.2.1 p.2.2.2)) b' ys := by
 obtain ⟨ps, tl, nt, hr, hl, hn⟩ := h;exact (hy.other hne hr (flat_app nt) _ _).other hne (hr.set _ _) ((flat_app nt).setB _ _) _ _
theorem LsAt.below {w w' : World} {L : Nat} {ao : Option Addr} {xs : List Int} (h : LsAt w L ao xs) (hb : Below w.heap.size w w') : LsAt w' L ao xs := by
 intro hl;obtain ⟨b, o, e, hlt, hc⟩ := h hl;refine ⟨b, o, e, Nat.lt_of_lt_of_le hlt hb.size, fun i hi => ?_⟩;obtain ⟨p, h0, h1, hn⟩ := hc i hi;exact ⟨p, (hb.cell (p := ⟨b, o + i * 2, none⟩) hlt).trans h0, (hb.cell (p := ⟨b, o + i * 2 + 1, none⟩) hlt).trans h1, hn.below hb⟩
theorem info_Int : (Tryz.prog.info? 33).map (fun i => (i.zero, i.size, i.bytes)) = some (some (.agg #[.bool false, .slice none 0 0]), 2, 32) := by kernel_rfl
theorem NumAt.zero (w : World) : NumAt w (av p0) 0 := (OwnI.zero w 0).num
theorem RowN.zeros {w : World} {b n : Nat} (h : RowAt w b 33 (flat (List.replicate n p0))) : RowN w b (List.replicate n 0) :=
 RowN.of h (by simp) (fun i h1 h2 => by simp; exact NumAt.zero w)
theorem made_flat (n : Nat) : (madeCells (Value.agg #[.bool false, .slice none 0 0]).cells (n * 2)).toList = flat (List.replicate n p0) := by
 have hz : (Value.agg #[.bool false, .slice none 0 0]).cells = #[.bool false, .slice none 0 0] := rfl;rw [hz];apply List.ext_getElem?;intro j;by_cases hj : j < n * 2
 · rcases Nat.mod_two_eq_zero_or_one j with h | h
   · obtain ⟨i, rfl⟩ : ∃ i, j = i * 2 := ⟨j / 2, by omega⟩;rw [flat_get0 _ i (by simp; omega)];simp [madeCells, hj, p0]
   · obtain ⟨i, rfl⟩ : ∃ i, j = i * 2 + 1 := ⟨j / 2, by omega⟩;rw [flat_get1 _ i (by simp; omega)];have e : (i * 2 + 1) % 2 = 1 := h;simp [madeCells, hj, p0, e]
 · rw [List.getElem?_eq_none (by simp [madeCells]; omega), List.getElem?_eq_none (by rw [flat_length]; simp; omega)]
theorem mk_nums {w : World} {ops : Array Oper} {rest : List Oper} {o : Oper} {a : Act} {Q : Exit -> Act -> World -> Prop}
 (hg : o.guard = none) (l c : Operand) (hop : o.op = Op.makeSlice 22 l c)
 {kl kc : IntKind} {L C : Int} (n m : Nat) (hl : a.eval l = .int kl L) (hc : a.eval c = .int kc C) (hL : L = (n : Int)) (hC : C = (m : Int)) (hnm : n <= m) (b2 : m <= 8796093022208)
 (hK : ∀ b w', Made w w' b 33 (flat (List.replicate m p0)) -> wpList Tryz.prog ops Q rest (a.put o.dst (.slice (some ⟨b, 0, none⟩) n m)) w') :
 wpList Tryz.prog ops Q (o :: rest) a w :=
 wpList_make_row hg l c 22 hop 33 (.agg #[.bool false, .slice none 0 0]) 2 32 Tryz.underlying22 info_Int n m hl hc hL hC hnm (by omega) (by unfold maxLen; omega)
  (fun b w' h => hK b w' (by rw [made_flat] at h; exact h))
theorem NumAt.least {w : World} {v : Value} {x : Int} (h : NumAt w v x) : ∃ ao cap, v = .agg #[.bool (decide (x < 0)), .slice ao (wlen x.natAbs) cap] /\ WAt w ao (dig x.natAbs) /\ wlen x.natAbs <= cap := by
 obtain ⟨⟨n, ao, len, cap, ws, rfl, hW, hl, hL, hc, hx⟩, s, hs⟩ := h;have hn : n = decide (x < 0) := by injection hs with hs; simp at hs; exact hs.1
 have hv : nval ws = x.natAbs := by rw [hx, zi_abs]
 have h1 := wlen_nval hW.1;rw [hv] at h1;have h2 := tlen_le ws;have h3 := dig_nval hW.1;rw [hv, List.take_of_length_le (by omega)] at h3;have h4 : len = wlen x.natAbs := by omega
 subst hn;rw [h3];exact ⟨ao, cap, by rw [h4], hW, by omega⟩
theorem LsN.below {w w' : World} {ao : Option Addr} {xs : List Int} (h : LsN w ao xs) (hb : Below w.heap.size w w') : LsN w' ao xs := by
 intro hl;obtain ⟨b, o, e, hlt, hc⟩ := h hl;refine ⟨b, o, e, Nat.lt_of_lt_of_le hlt hb.size, fun i hi => ?_⟩;obtain ⟨p, h0, h1, hn⟩ := hc i hi;exact ⟨p, (hb.cell (p := ⟨b, o + i * 2, none⟩) hlt).trans h0, (hb.cell (p := ⟨b, o + i * 2 + 1, none⟩) hlt).trans h1, hn.below hb⟩
theorem RowN.lsN {w : World} {b : Nat} {xs : List Int} (h : RowN w b xs) : LsN w (some ⟨b, 0, none⟩) xs := by
 intro _;refine ⟨b, 0, rfl, h.lt, fun i hi => ?_⟩;obtain ⟨p, h0, h1, hn⟩ := h.get hi;exact ⟨p, by simpa using h0, by simpa using h1, hn⟩
theorem LsN.lsAt {w : World} {L : Nat} {ao : Option Addr} {xs : List Int} (h : LsN w ao xs) (hL : ∀ x ∈ xs, wlen x.natAbs <= L) : LsAt w L ao xs := by
 intro hl;obtain ⟨b, o, e, hlt, hc⟩ := h hl;exact ⟨b, o, e, hlt, fun i hi => by
  obtain ⟨p, h0, h1, hn⟩ := hc i hi;exact ⟨p, h0, h1, hn.int (hL _ (List.getElem_mem hi))⟩⟩
theorem zero_nums (n : Nat) : NoW (Builtin.zeroCells (Value.agg #[.bool false, .slice none 0 0]).cells n).toList := by
 have e : (Value.agg #[.bool false, .slice none 0 0]).cells = #[.bool false, .slice none 0 0] := rfl;rw [e];intro v hv k;unfold Builtin.zeroCells at hv;simp only [Array.toList_map, List.mem_map, Array.mem_toList_iff, Array.mem_range] at hv;obtain ⟨i, _, rfl⟩ := hv;have h2 : i % 2 = 0 ∨ i % 2 = 1 := by omega
 rcases h2 with h2 | h2 <;> simp [h2]
structure Hd where
 blk : Nat
 cap : Nat
 xs : List Int
def Hd.hdr (h : Hd) : Value := .slice (some ⟨h.blk, 0, none⟩) h.xs.length h.cap
def rowOf (xs : List Int) (c k : Nat) : List Int := (xs.drop (k * c)).take c
theorem rowOf_length {xs : List Int} {r c k : Nat} (hl : xs.length = r * c) (hk : k < r) : (rowOf xs c k).length = c := by
 have h1 : (k + 1) * c <= r * c := Nat.mul_le_mul_right _ (by omega);have h2 : (k + 1) * c = k * c + c := Nat.succ_mul k c;simp [rowOf, hl]; omega
theorem RowAt.ne {w : World} {a b : Nat} {t t' : TypeId} {cs cs' : List Value} (h : RowAt w a t cs) (h' : RowAt w b t' cs') (ht : t ≠ t') : a ≠ b := by
 rintro rfl;unfold RowAt at h h';rw [h] at h';simp only [Option.some.injEq, Obj.cells.injEq] at h';exact ht h'.2.1
theorem Chg.rowN {S : Nat -> Prop} {w w' : World} (h : Chg S w w') (hS : Wordless S w) {b : Nat} {xs : List Int} (hx : RowN w b xs) (hb : ¬ S b) : RowN w' b xs := by
 obtain ⟨ps, tl, nt, hr, hl, hn⟩ := hx;exact ⟨ps, tl, nt, h.row hr hb, hl, fun i h1 h2 => h.num hS (hn i h1 h2)⟩
theorem RowN.wordless {w : World} {b : Nat} {xs : List Int} (h : RowN w b xs) : Wordless (· = b) w := by
 rintro g rfl;obtain ⟨ps, tl, nt, hr, _⟩ := h;exact ⟨_, _, hr, flat_app nt⟩
theorem RowN.setFar {w : World} {b : Nat} {xs : List Int} (h : RowN w b xs) {g : Nat} {t : TypeId} {cs : List Value} (hr : RowAt w g t cs) (ht : t ≠ 33) (hn : NoW cs) (i : Nat) (u : Value) : RowN (w.setCell ⟨g, i, none⟩ u) b xs := by
 have hne : b ≠ g := by
  obtain ⟨ps, tl, nt, hp, _⟩ := h;exact hp.ne hr (fun e => ht e.symm)
 exact h.other hne hr hn i u
def sideOk (n : Int) : Bool := decide (0 <= n) && decide (n <= 64)
set_option maxHeartbeats 1000000 in
theorem side_c (n : Int) (w : World) :
 Calls Tryz.prog 42 #[.int .i64 n] w fun e w' => e = .returned (.bool (sideOk n)) /\ w' = w := by
 go_enter Tryz.func42, Tryz.ntmps42;by_cases h0 : 0 <= n
 · by_cases h1 : n <= 64
   · go_wp2;go_ret;refine ⟨?_, rfl⟩;simp [sideOk, h0, h1]
   · go_wp2;go_ret;refine ⟨?_, rfl⟩;simp [sideOk, h0, h1]
 · go_wp2;go_ret;refine ⟨?_, rfl⟩;have h9 : decide (0 <= n) = false := by simp; omega
   simp [sideOk, h9]
def soundM (r c : Int) (len : Nat) : Bool := sideOk r && sideOk c && ((len : Int) == r * c)
def chkM (r c : Int) (len : Nat) : Int := if soundM r c len then 0 else 1
theorem chkM_bad {r c : Int} {len : Nat} (h : soundM r c len = false) : chkM r c len = 1 := by unfold chkM; rw [h]; rfl
theorem chkM_ok {r c : Int} {len : Nat} (h : soundM r c len = true) : chkM r c len = 0 := by unfold chkM; rw [h]; rfl
set_option maxRecDepth 100000 in
set_option maxHeartbeats 1000000 in
theorem Check_c (r c : Int) (ao : Option Addr) (len cap : Nat) (w : World) (hr : -9223372036854775808 <= r /\ r <= 9223372036854775807) (hc : -9223372036854775808 <= c /\ c <= 9223372036854775807) :
 Calls Tryz.prog 25 #[.agg #[.int .i64 r, .int .i64 c, .slice ao len cap]] w fun e w' => e = .returned (.int .i64 (chkM r c len)) /\ Below w.heap.size w w' := by
 have hb : Below w.heap.size w (w.alloc (.cells #[.int .i64 r, .int .i64 c, .slice ao len cap] 24)) := (Below.refl _ _).alloc (Nat.le_refl _) _;have HB := Lib.hid hb; clear hb;go_enter Tryz.func25, Tryz.ntmps25;go_wp2_with fail
 refine (side_c _ _).mono ?_;rintro e w' ⟨rfl, rfl⟩;cases h1 : sideOk r
 · go_wp2;go_ret;rw [chkM_bad (by simp [soundM, h1])];exact ⟨rfl, HB.out⟩
 · have hr2 : 0 <= r /\ r <= 64 := by simpa [sideOk] using h1
   have H1 := Lib.hid h1; clear h1;go_wp2_with fail
   refine (side_c _ _).mono ?_;rintro e w' ⟨rfl, rfl⟩;cases h2 : sideOk c
   · go_wp2;go_ret;rw [chkM_bad (by simp [soundM, h2])];exact ⟨rfl, HB.out⟩
   · have hc2 : 0 <= c /\ c <= 64 := by simpa [sideOk] using h2
     have H2 := Lib.hid h2; clear h2;have hm : 0 <= r * c /\ r * c <= 4096 := by
      refine ⟨Int.mul_nonneg hr2.1 hc2.1, ?_⟩;have h3 := Int.mul_le_mul_of_nonneg_right hr2.2 hc2.1;omega
     obtain ⟨rc, hrc⟩ : ∃ rc, r * c = rc := ⟨_, rfl⟩;rw [hrc] at hm;have hw : IntKind.i64.wrap (r * c) = rc := by rw [hrc]; exact wrap_small (by omega) (by omega)
     have HRC := Lib.hid hrc; clear hrc;by_cases h3 : (len : Int) = rc
     · have h3' : ((len : Int) != rc) = false := by simpa using h3
       have H3 := Lib.hid h3; clear h3;go_wp2;go_ret;rw [chkM_ok (by simp [soundM, H1.out, H2.out, HRC.out, H3.out])];exact ⟨rfl, HB.out⟩
     · have h3' : ((len : Int) != rc) = true := by simpa using h3
       have H3 := Lib.hid h3; clear h3;go_wp2;go_ret;rw [chkM_bad (by simp [soundM, H1.out, H2.out, HRC.out, H3.out])];exact ⟨rfl, HB.out⟩
set_option maxRecDepth 100000 in
set_option maxHeartbeats 4000000 in
theorem EachLeast_c (ao : Option Addr) (cap : Nat) (xs : List Int) (w : World) (h : LsAt w 17592186044415 ao xs) (hlen : xs.length <= 8796093022208) :
 Calls Tryz.prog 61 #[.slice ao xs.length cap, .func (.func 29) #[] #[]] w fun e w' => (∃ b, e = .returned (.slice (some ⟨b, 0, none⟩) xs.length xs.length) /\ w.heap.size <= b /\ RowN w' b xs) /\ Below w.heap.size w w' := by
 have HL := Lib.hid h; clear h;go_enter Tryz.func61, Tryz.ntmps61;go_wp2_with (at_make; refine mk_nums rfl _ _ rfl xs.length xs.length rfl rfl (by omega) (by omega) (Nat.le_refl _) (by omega) ?_; intro bo w1 hm1)
 have hbo : w.heap.size <= bo := by have := hm1.at_; omega
 have R1 := Lib.hid (RowN.zeros hm1.row);have L1 := Lib.hid (HL.out.below hm1.below);have B1 := Lib.hid hm1.below;clear hm1;go_wp2;go_loopw [13] (fun i wr => ∃ (m : Nat) (cu : List Int), m <= xs.length /\ i = .int .i64 (m : Int) /\ Hid (cu.length = xs.length /\ ∀ j (h : j < cu.length) (h1 : j < xs.length), j < m -> cu[j] = xs[j]) /\ Hid (RowN wr bo cu) /\ Hid (LsAt wr 17592186044415 ao xs) /\ Hid (Below w.heap.size w wr)) (fun i _ => xs.length - (intOf i).toNat)
 case atStart => exact ⟨0, _, Nat.zero_le _, rfl, Lib.hid ⟨by simp, fun j _ _ h => by omega⟩, R1, L1, B1⟩
 case round =>
  obtain ⟨m, cu, hm, rfl, HA, hX, hL, hB⟩ := hrel;by_cases hml : m < xs.length
  · have hmx : m < cu.length := by rw [HA.out.1]; exact hml
    have hm2 : (m : Int) < (xs.length : Int) := by omega
    obtain ⟨ab, aoff, rfl, hab, hcells⟩ := hL.out (by omega);obtain ⟨px, cx0, cx1, hnx⟩ := hcells m hml;have Hnx := Lib.hid hnx; clear hnx hcells;have hb1 : Below wr.heap.size wr (wr.alloc (.cells #[.bool px.1, .slice px.2.1 px.2.2.1 px.2.2.2] 33)) := (Below.refl _ _).alloc (Nat.le_refl _) _;have X1 := Lib.hid (hX.out.below hb1);have L2 := Lib.hid (hL.out.below hb1);have B2 := Lib.hid (hB.out.trans (hb1.mono hB.out.size));have N2 := Lib.hid (Hnx.out.below hb1);clear hb1 hX hL hB Hnx;go_wp2_with fail
    generalize wr.alloc (.cells #[.bool px.1, .slice px.2.1 px.2.2.1 px.2.2.2] 33) = w2 at *;clear cx0 cx1;refine (ILeast_c _ xs[m] _ N2.out).mono ?_;rintro e w3 ⟨⟨vz, rfl, hvz⟩, hb3⟩;obtain ⟨pz, rfl⟩ := NumAt.parts hvz.num;have X3 := Lib.hid (X1.out.below hb3);have B3 := Lib.hid (B2.out.trans (hb3.mono B2.out.size));have Z3 := Lib.hid hvz.num;clear hvz hb3 X1 L2 B2 N2;unfold av at *;obtain ⟨pq, q0, q1, _⟩ := X3.out.get hmx;have q2 := X3.out.free (m * 2);have q3 := X3.out.free (m * 2 + 1);have hmc : (m : Int) < (xs.length : Int) := hm2;go_wp2;clear q0 q1 q2 q3;go_roundw
    case rel =>
     have hBf := (B3.out.setCell (p := ⟨bo, m * 2, none⟩) hbo (.bool pz.1)).setCell (p := ⟨bo, m * 2 + 1, none⟩) hbo (.slice pz.2.1 pz.2.2.1 pz.2.2.2);refine ⟨m + 1, cu.set m xs[m], by omega, by go_num, Lib.hid ⟨by simpa using HA.out.1, fun j hj hj1 hjm => ?_⟩, Lib.hid (X3.out.set m (p := pz) Z3.out), Lib.hid (HL.out.below hBf), Lib.hid hBf⟩;rw [List.getElem_set];split
     · rename_i e; subst e; rfl
     · exact HA.out.2 j (by simpa using hj) hj1 (by omega)
    case measure => simp [intOf]; omega
  · obtain rfl : m = xs.length := by omega
    have he : cu = xs := List.ext_getElem HA.out.1 fun j h1 h2 => HA.out.2 j h1 h2 h2;have HE := Lib.hid he;clear he;go_wp2;go_ret;refine ⟨⟨bo, rfl, hbo, ?_⟩, hB.out⟩;have := hX.out;rw [HE.out] at this;exact this
end Go.Proofs.YtcpjoiffkniccaaGreat
