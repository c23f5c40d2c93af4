/- Part 5 of 9 of the proof that the law GroupSmith returns true for every input of bulk at most 1048576 and leaves its arguments as they were. -/
import Derived.RangeFuncNested
import Derived.RangeFuncBound
import Derived.RangeFuncCalls
import Derived.RangeFuncLeaves
import Derived.Shelf.Abstract
import Derived.Shelf.RegionOpen
import Derived.WalkKit
import Derived.OwnWalkIn
import Derived.TacticsInMore
import Derived.LoopNIn
import Derived.LoopIn
import Derived.Maps.AppendAt
import Derived.Deep.RegionLaw
import Derived.Test.YtbgecfleamckcaaGreatGsD
set_option linter.all false
set_option maxRecDepth 100000
set_option maxHeartbeats 8000000
namespace Go.Proofs.YtbgecfleamckcaaGreat
open Go.RowKit
theorem qx : ∀ {xs : List Int} {j : Nat} (_ : lead xs = j) (hj : j < xs.length), xs[j] ≠ 0
 | x :: xs, j, h, hj => by
  unfold lead at h;by_cases h0 : x = 0
  . rw [if_pos h0] at h;subst h;simpa using qx (xs := xs) rfl (by simpa using hj)
  . rw [if_neg h0] at h;subst h;simpa using h0
theorem aN.sign {w : World} {p : P4} {x : Int} (h : aN w (av p) x) (hx : x ≠ 0) : p.1 = decide (x < 0) := by
 obtain ⟨n, ao, len, cap, ws, he, hW, hl, hL, hc, rfl⟩ := h.1;unfold av at he;have : p.1 = n := by injection he with he; simp at he; exact he.1
 rw [this];exact kP hx
def bZ (R : List Hd) (i : Nat) : List Hd := if h : i < R.length then eL R i h else R
def swapT (R : List Hd) (i j : Nat) : List Hd := if h : i < R.length /\ j < R.length then eK R i j h.1 h.2 else R
theorem oO {R : List Hd} {i : Nat} (hi : i < R.length) : bZ R i = eL R i hi := by unfold bZ; rw [dif_pos hi]
theorem ir {R : List Hd} {i j : Nat} (hi : i < R.length) (hj : j < R.length) : swapT R i j = eK R i j hi hj := by unfold swapT; rw [dif_pos ⟨hi, hj⟩]
theorem gm (R : List Hd) (i : Nat) : (bZ R i).length = R.length := by
 unfold bZ; split
 . unfold eL; rw [ai]
 . rfl
theorem bQ (R : List Hd) (i j : Nat) : (swapT R i j).length = R.length := by
 unfold swapT; split
 . exact bR ..
 . rfl
theorem sC (R : List Hd) (i j : Nat) (a b c d : Int) : (kY R i j a b c d).length = R.length := by
 unfold kY; split
 . unfold fP; rw [ai, ai]
 . rfl
theorem iV (R : List Hd) (k n j : Nat) : (dX R k n j).length = R.length := by
 unfold dX bI; split
 . exact dK ..
 . rw [sC]; exact dK ..
def bC (at_ : Nat) : Nat -> List Hd -> List Hd
 | 0, R => R
 | i + 1, R => if i + 1 <= at_ then R else bC at_ i (swapT R (i + 1) i)
inductive jY (B c n : Nat) : Nat -> Int -> List Hd -> Bool -> List Hd -> Prop
 | zero {at_ : Nat} {last : Int} {R R' : List Hd} (hF : Fit B c R) (h : aX R n = c \/ (aX R n : Int) <= last) (hs : iF B c (eu R n) n n R R') : jY B c n at_ last R false R'
 | stop {at_ : Nat} {last : Int} {R R' : List Hd} (hF : Fit B c R) (h1 : aX R n < c) (h2 : last < aX R n) (a : Nat) (ha : at_ <= a) (hn : a <= n) (hlt : ∀ i, at_ <= i -> i < a -> aX R i < aX R n) (hb : a = n \/ aX R n < aX R a)
  (hF2 : Fit B c (bC a n (if aw R n (aX R n) < 0 then bZ R n else R)))
  (hs : iF B c (eu (bC a n (if aw R n (aX R n) < 0 then bZ R n else R)) (n + 1)) (n + 1) (n + 1) (bC a n (if aw R n (aX R n) < 0 then bZ R n else R)) R') : jY B c n at_ last R true R'
 | meet {at_ : Nat} {last : Int} {R R' : List Hd} {b : Bool} (hF : Fit B c R) (h1 : aX R n < c) (h2 : last < aX R n) (a : Nat) (ha : at_ <= a) (hn : a < n) (hlt : ∀ i, at_ <= i -> i < a -> aX R i < aX R n) (hj : aX R a = aX R n)
  (hp : aw R a (aX R n) ≠ 0) (hF1 : Fit B c (bI R a n (aX R n))) (hp1 : aw (bI R a n (aX R n)) a (aX R n) ≠ 0)
  (hs : jY B c n a (aX R n) (dX R a n (aX R n)) b R') : jY B c n at_ last R b R'
theorem lZ (S : bV) (i k : Nat) : (S.ah (bZ S.R i)).own k ↔ S.own k := by
 unfold bZ; split
 . exact gn S i _ k
 . exact Iff.rfl
theorem ov (S : bV) (i j : Nat) (x : Int) (k : Nat) : (S.ah (iw S.R i j x)).own k ↔ S.own k := by
 unfold iw; split
 . exact gn S i _ k
 . exact Iff.rfl
theorem xM (S : bV) (i j : Nat) (a b c d : Int) (k : Nat) : (S.ah (kY S.R i j a b c d)).own k ↔ S.own k := by
 unfold kY; split
 . exact (gn (S.ah (dL S.R i _)) j _ k).trans (gn S i _ k)
 . exact Iff.rfl
theorem qm (S : bV) (a n j k : Nat) : (S.ah (dX S.R a n j)).own k ↔ S.own k := by
 unfold dX bI; split
 . exact ov S n a _ k
 . exact (xM (S.ah (iw S.R n a _)) a n _ _ _ _ k).trans (ov S n a _ k)
theorem gr (S : bV) (i j k : Nat) : (S.ah (swapT S.R i j)).own k ↔ S.own k := by
 unfold swapT; split
 . rename_i h;exact or_congr (fH (fun b => lR h.1 h.2 b) k) Iff.rfl
 . exact Iff.rfl
theorem Put_c (S : bV) (n B c : Nat) (res : Bool) (R' : List Hd) (w : World) (h : au w S) (hn : n < S.R.length) (hB : B <= 4000000000000) (hP : jY B c n 0 (-1) S.R res R') (hR : S.R.length <= 100000) (hc : c <= 1000000) (hT : S.sat B c) :
 Calls Tryz.prog 111 #[.pointer (some ⟨S.lb, 0, none⟩), .int .i64 (n : Int)] w fun e w' => e = .returned (.bool res) /\ au w' (S.ah R') /\ aO S.own w w' := by
 have HT := H5 hT; clear hT;have HL := H5 h; clear h;have HP := H5 hP; clear hP;go_enter Tryz.func111, Tryz.ntmps111;go_wp2;go_loopw [5, 6] (fun a_ l_ wr => ∃ (at_ : Nat) (last : Int) (R : List Hd), at_ <= n /\ (-1 <= last /\ last <= (c : Int)) /\ a_ = .int .i64 (at_ : Int) /\ l_ = .int .i64 last /\ Hid (R.length = S.R.length) /\ Hid (jY B c n at_ last R res R') /\ Hid (au wr (S.ah R)) /\ Hid (aO S.own w wr) /\ Hid (∀ k, (S.ah R).own k ↔ S.own k)) (fun _ l_ _ => ((c : Int) - intOf l_).toNat)
 case atStart => exact ⟨0, -1, S.R, Nat.zero_le _, ⟨by omega, by omega⟩, rfl, rfl, rfl, HP, HL, aO.refl .., fun _ => Iff.rfl⟩
 case round =>
  obtain ⟨at_, last, R, hat, ⟨hl1, hl2⟩, rfl, rfl, hRl, hPt, hL, hC, hO⟩ := hrel;have hnR : n < R.length := by have := hRl.out; omega
  have hF : Hid (Fit B c R) := by
   have := hPt.out;cases this with
   | zero hF _ _ => exact hF
   | stop hF _ _ _ _ _ _ _ _ _ => exact hF
   | meet hF _ _ _ _ _ _ _ _ _ _ _ => exact hF
  have hcn : R[n].xs.length = c := hF.out.len _ (List.getElem_mem hnR);have hlead : aX R n = lead R[n].xs := iE hnR;have hle := qJ R[n].xs;have hn1 : (n : Int) < (R.length : Int) := by omega
  have cb : wr.cell? ⟨S.lb, 0, none⟩ = some (.slice (some ⟨S.o, 0, none⟩) R.length S.cap) := hL.out.lad.cell 0;have cn : wr.cell? ⟨S.o, n, none⟩ = some (.slice (some ⟨R[n].aB, 0, none⟩) R[n].xs.length R[n].cap) := hL.out.dF.dk (i := n) hnR;rw [hcn] at cn hle;have Hcn := H5 hcn; clear hcn;have Hlead := H5 hlead; clear hlead;go_wp2_with fail
  have hLd := mx R[n].aB R[n].cap R[n].xs wr (hL.out.dF.row _ (List.getElem_mem (l := R) hnR)) (fun x hx => by have := hF.out.fit _ (List.getElem_mem hnR) x hx; omega) (by rw [Hcn.out]; omega);rw [Hcn.out] at hLd;refine hLd.mono ?_;rintro e w2 ⟨rfl, hb2⟩;have L2 := H5 (hL.out.below hb2);have C2 := H5 (hC.out.below hb2);clear hLd hL hC hb2 cb cn;have cb : w2.cell? ⟨S.lb, 0, none⟩ = some (.slice (some ⟨S.o, 0, none⟩) R.length S.cap) := L2.out.lad.cell 0;have cn : w2.cell? ⟨S.o, n, none⟩ = some (.slice (some ⟨R[n].aB, 0, none⟩) R[n].xs.length R[n].cap) := L2.out.dF.dk (i := n) hnR;rw [Hcn.out] at cn;obtain ⟨jj, hjj⟩ : ∃ jj, lead R[n].xs = jj := ⟨_, rfl⟩;rw [hjj] at hle |-;have hPj := hPt.out;have hld := Hlead.out;rw [hjj] at hld;have Hld := H5 hld; clear hld;by_cases hz : jj = c \/ (jj : Int) <= last
  . have hfin : res = false /\ iF B c (eu R n) n n R R' := by
     cases hPj with
     | zero _ _ hs => exact ⟨rfl, hs⟩
     | stop _ h1 h2 _ _ _ _ _ _ _ => rw [Hld.out] at h1 h2; omega
     | meet _ h1 h2 _ _ _ _ _ _ _ _ _ => rw [Hld.out] at h1 h2; omega
    obtain ⟨rfl, hs⟩ := hfin;have HSO := H5 hs; clear hs;clear hPj hPt;by_cases hz1 : jj = c
    . have hz2 : ((jj : Int) == (c : Int)) = true := by rw [hz1]; simp
      obtain ⟨j2, hj2⟩ : ∃ j2, j2 = jj := ⟨_, rfl⟩;have hz3 : (jj : Int) = (c : Int) := by omega
      have Hz1 := H5 hz1;clear hz hz1 hz2 hj2;go_wp2_with fail
      refine (iy (S.ah R) n B c R' _ L2.out (Nat.le_of_lt hnR) (by omega) hF.out HSO.out (by show R.length <= 1000000; have := hRl.out; omega) hc HT.out).mono ?_;rintro e w3 ⟨rfl, hL3, hC3⟩;have CF := H5 (C2.out.trans (hC3.mono (fun q _ e => (hO.out q).1 e)));have LF := H5 hL3;clear hL3 hC3;go_wp2;go_ret;exact ⟨rfl, LF.out, CF.out⟩
    . have hz3 : ¬ (jj : Int) = (c : Int) := by omega
      have hz2 : ((jj : Int) == (c : Int)) = false := beq_eq_false_iff_ne.2 hz3;have hz4 : (jj : Int) <= last := by omega
      have Hz1 := H5 hz1;clear hz hz1;go_wp2_with fail
      refine (iy (S.ah R) n B c R' _ L2.out (Nat.le_of_lt hnR) (by omega) hF.out HSO.out (by show R.length <= 1000000; have := hRl.out; omega) hc HT.out).mono ?_;rintro e w3 ⟨rfl, hL3, hC3⟩;have CF := H5 (C2.out.trans (hC3.mono (fun q _ e => (hO.out q).1 e)));have LF := H5 hL3;clear hL3 hC3;go_wp2;go_ret;exact ⟨rfl, LF.out, CF.out⟩
  . have hz3 : ¬ (jj : Int) = (c : Int) := by omega
    have hz2 : ((jj : Int) == (c : Int)) = false := beq_eq_false_iff_ne.2 hz3;have hz4 : ¬ (jj : Int) <= last := by omega
    have hjc : jj < c := by omega
    have hjl : last < (jj : Int) := by omega
    have Hjj := H5 hjj; clear hjj;clear hz hPj;go_wp2;clear hz2 hz3 hz4 cb cn;go_loopw [5] (fun a_ wq => ∃ a : Nat, at_ <= a /\ a <= n /\ a_ = .int .i64 (a : Int) /\ Hid (∀ i, at_ <= i -> i < a -> aX R i < jj) /\ Hid (au wq (S.ah R)) /\ Hid (aO S.own w wq)) (fun a_ _ => n - (intOf a_).toNat)
    case atStart => exact ⟨at_, Nat.le_refl _, hat, rfl, fun i h1 h2 => by omega, L2, C2⟩
    case round =>
     obtain ⟨a, ha1, ha2, rfl, hlt, hLq, hCq⟩ := hrel;by_cases han : a < n
     . have haR : a < R.length := by omega
       have han1 : (a : Int) < (n : Int) := by omega
       have haR1 : (a : Int) < (R.length : Int) := by omega
       have cb : wr.cell? ⟨S.lb, 0, none⟩ = some (.slice (some ⟨S.o, 0, none⟩) R.length S.cap) := hLq.out.lad.cell 0;have ca : wr.cell? ⟨S.o, a, none⟩ = some (.slice (some ⟨R[a].aB, 0, none⟩) R[a].xs.length R[a].cap) := hLq.out.dF.dk (i := a) haR;go_wp2_with fail
       refine (mx R[a].aB R[a].cap R[a].xs _ (hLq.out.dF.row _ (List.getElem_mem (l := R) haR)) (fun x hx => by have := hF.out.fit _ (List.getElem_mem haR) x hx; omega) (by rw [hF.out.len _ (List.getElem_mem haR)]; omega)).mono ?_;rintro e w3 ⟨rfl, hb3⟩;have L3 := H5 (hLq.out.below hb3);have C3 := H5 (hCq.out.below hb3);clear hLq hCq hb3 cb ca;obtain ⟨la, hla⟩ : ∃ la, lead R[a].xs = la := ⟨_, rfl⟩;have hla2 : aX R a = la := (iE haR).trans hla;rw [hla];have Hla := H5 hla2; clear hla hla2;by_cases hlj : la < jj
       . have hlj1 : (la : Int) < (jj : Int) := by omega
         go_wp2;go_roundw
         case rel => exact ⟨a + 1, by omega, by omega, by go_num, H5 (fun i h1 h2 => (Nat.lt_succ_iff_lt_or_eq.1 h2).elim (fun h => hlt.out i h1 h) (fun h => by subst h; rw [Hla.out]; exact hlj)), L3, C3⟩
         case measure => simp [intOf]; omega
       . have hlj1 : ¬ (la : Int) < (jj : Int) := by omega
         have haR2 : (a : Int) < (R.length : Int) := by omega
         have cb : w3.cell? ⟨S.lb, 0, none⟩ = some (.slice (some ⟨S.o, 0, none⟩) R.length S.cap) := L3.out.lad.cell 0;have ca : w3.cell? ⟨S.o, a, none⟩ = some (.slice (some ⟨R[a].aB, 0, none⟩) R[a].xs.length R[a].cap) := L3.out.dF.dk (i := a) haR;have hanb : ((a : Int) == (n : Int)) = false := beq_eq_false_iff_ne.2 (by omega);have hane : ¬ (a : Int) = (n : Int) := by omega
         go_wp2_with fail
         refine (mx R[a].aB R[a].cap R[a].xs _ (L3.out.dF.row _ (List.getElem_mem (l := R) haR)) (fun x hx => by have := hF.out.fit _ (List.getElem_mem haR) x hx; omega) (by rw [hF.out.len _ (List.getElem_mem haR)]; omega)).mono ?_;rintro e w4 ⟨rfl, hb4⟩;have L4 := H5 (L3.out.below hb4);have C4 := H5 (C3.out.below hb4);clear L3 C3 hb4 cb ca;have hla3 : lead R[a].xs = la := (iE haR).symm.trans Hla.out;rw [hla3];clear hla3;by_cases hlaj : la = jj
         . have hcase : aw R a jj ≠ 0 /\ Fit B c (bI R a n jj) /\ aw (bI R a n jj) a jj ≠ 0 /\ jY B c n a (jj : Int) (dX R a n jj) res R' := by
            have hPj := hPt.out;have hx := hlt.out;have hl := Hla.out;have hd := Hld.out;cases hPj with
            | zero _ h _ => rw [hd] at h; omega
            | stop _ h1 h2 a' ha' hn' hlt' hb' _ _ =>
             rw [hd] at hlt' hb';rcases Nat.lt_trichotomy a' a with h | h | h
             . have := hx a' ha' h; omega
             . subst h; omega
             . have := hlt' a ha1 h; omega
            | meet _ h1 h2 a' ha' hn' hlt' hj' hp hF1 hp1 hs =>
             rw [hd] at hlt' hj' hp hF1 hp1 hs;have haa : a' = a := by
              rcases Nat.lt_trichotomy a' a with h | h | h
              . have := hx a' ha' h; omega
              . exact h
              . have := hlt' a ha1 h; omega
             subst haa;exact ⟨hp, hF1, hp1, hs⟩
           obtain ⟨m1, m2, m3, m4⟩ := hcase;have M4 := H5 m4; clear m4;have hlb : ((la : Int) != (jj : Int)) = false := by rw [hlaj]; simp
           have hle2 : (la : Int) = (jj : Int) := by omega
           have Hlaj := H5 hlaj; clear hlaj;have hmt := BO (S.ah R) a n jj B c w4 L4.out haR hnR (by omega) hjc hB hF.out m2 m1 m3 (by show R.length <= 1000000; have := hRl.out; omega) hc HT.out;have HMt := H5 hmt;clear m1 m2 m3 hmt;go_wp2_with fail
           refine HMt.out.mono ?_;rintro e w5 ⟨rfl, hL5, hC5⟩;have L5 := H5 hL5;have C5 := H5 (C4.out.trans (hC5.mono (fun q _ e => (hO.out q).1 e)));clear hL5 hC5 hlb hle2 hanb hane;go_wp2;go_roundw
           case rel => exact ⟨a, (jj : Int), dX R a n jj, by omega, ⟨by omega, by omega⟩, by go_num, by go_num, H5 ((iV ..).trans hRl.out), M4, L5, C5, H5 (fun q => (qm (S.ah R) a n jj q).trans (hO.out q))⟩
           case measure =>
            simp only [intOf];omega
         . have hbr : a = n \/ jj < aX R a := by have := Hla.out; omega
           have Hbr := H5 hbr; clear hbr;have hlb : ((la : Int) != (jj : Int)) = true := by rw [bne_iff_ne]; omega
           have hle2 : ¬ (la : Int) = (jj : Int) := by omega
           clear hlaj;have hstop : res = true /\ Fit B c (bC a n (if aw R n jj < 0 then bZ R n else R)) /\ iF B c (eu (bC a n (if aw R n jj < 0 then bZ R n else R)) (n + 1)) (n + 1) (n + 1) (bC a n (if aw R n jj < 0 then bZ R n else R)) R' := by
            have hPj := hPt.out;have hx := hlt.out;have hd := Hld.out;have hbr := Hbr.out;cases hPj with
            | zero _ h _ => rw [hd] at h; omega
            | stop _ h1 h2 a' ha' hn' hlt' hb' hF2 hs =>
             rw [hd] at hlt' hb' hF2 hs;have haa : a' = a := by
              rcases Nat.lt_trichotomy a' a with h | h | h
              . have := hx a' ha' h; omega
              . exact h
              . have := hlt' a ha1 h; omega
             subst haa;exact ⟨rfl, hF2, hs⟩
            | meet _ h1 h2 a' ha' hn' hlt' hj' hp hF1 hp1 hs =>
             rw [hd] at hlt' hj';rcases Nat.lt_trichotomy a' a with h | h | h
             . have := hx a' ha' h; omega
             . subst h; omega
             . have := hlt' a ha1 h; omega
           obtain ⟨rfl, hF2, hs2⟩ := hstop;have HF2 := H5 hF2; clear hF2;have HS2 := H5 hs2; clear hs2;have hXn := L4.out.dF.row _ (List.getElem_mem (l := R) hnR);have hjn : jj < R[n].xs.length := by rw [Hcn.out]; exact hjc
           obtain ⟨pn, cp0, cp1, hpn⟩ := hXn.get hjn;have hx0 : R[n].xs[jj] ≠ 0 := qx Hjj.out hjn;have hsg := hpn.sign hx0;have heN := j4 hnR hjn;have HXn := H5 hXn; clear hXn;have Hsg := H5 hsg; clear hsg;have HeN := H5 heN; clear heN;clear hpn hx0;have cb : w4.cell? ⟨S.lb, 0, none⟩ = some (.slice (some ⟨S.o, 0, none⟩) R.length S.cap) := L4.out.lad.cell 0;have cn : w4.cell? ⟨S.o, n, none⟩ = some (.slice (some ⟨R[n].aB, 0, none⟩) R[n].xs.length R[n].cap) := L4.out.dF.dk (i := n) hnR;have sb1 := HXn.out.lt;have sb3 : S.lb < w4.heap.size := L4.out.lad.lt;have sb4 : S.o < w4.heap.size := L4.out.dF.out.lt;have hjn1 : (jj : Int) < (R[n].xs.length : Int) := by omega
           go_wp2;refine eo ⟨18, fun q_ => [73, 74, 75, 76, 77, 78, 79, 80, 81, 82, 83, 84, 85, 86, 87, 88, 89, 90].getD q_ 0,
            fun q_ => [.val (.pointer (some ⟨S.lb, 0, none⟩)), .val (.pointer (some ⟨S.lb, 0, none⟩)), .val (.pointer (some ⟨S.lb, 0, none⟩)), .val (.slice (some ⟨S.o, 0, none⟩) R.length S.cap), .val (.int .i64 (n : Int)), .val (.pointer (some ⟨S.o, n, none⟩)), .val (.slice (some ⟨R[n].aB, 0, none⟩) R[n].xs.length R[n].cap), .val (.pointer (some ⟨S.lb, 0, none⟩)), .val (.pointer (some ⟨S.lb, 0, none⟩)), .val (.pointer (some ⟨S.lb, 0, none⟩)), .val (.slice (some ⟨S.o, 0, none⟩) R.length S.cap), .val (.int .i64 (n : Int)), .val (.pointer (some ⟨S.o, n, none⟩)), .val (.slice (some ⟨R[n].aB, 0, none⟩) R[n].xs.length R[n].cap), .val (.int .i64 (jj : Int)), .val (.pointer (some ⟨R[n].aB, jj * 2, none⟩)), .val (.pointer (some ⟨R[n].aB, jj * 2, none⟩)), .val (.bool pn.1)].getD q_ .any,
            [],
            [],
            [],
            [], [(⟨S.lb, 0, none⟩, .slice (some ⟨S.o, 0, none⟩) R.length S.cap), (⟨S.o, n, none⟩, .slice (some ⟨R[n].aB, 0, none⟩) R[n].xs.length R[n].cap), (⟨R[n].aB, jj * 2, none⟩, .bool pn.1)], []⟩ [73, 74, 75, 76, 77, 78, 79, 80, 81, 82, 83, 84, 85, 86, 87, 88, 89, 90] (w4.heap.size) (by kernel_rfl) (by kernel_rfl) (by kernel_rfl) (by kernel_rfl) ?_ ?_ ?_ ?_ ?_ ?_
           . intro p hp;cases hp
           . intro p hp;cases hp
           . intro p hp;rcases mc hp with rfl | hp
             . refine ⟨cb, by show S.lb < w4.heap.size; omega, ?_⟩;intro t ht;cases ht
             rcases mc hp with rfl | hp
             . refine ⟨cn, by show S.o < w4.heap.size; omega, ?_⟩;intro t ht;cases ht
             rcases mc hp with rfl | hp
             . refine ⟨cp0, by show R[n].aB < w4.heap.size; omega, ?_⟩;intro t ht;cases ht
             cases hp
           . intro t ht;cases ht
           . refine ag ?_ (ag ?_ (ag ?_ (ag ?_ (ag ?_ (ag ?_ (ag ?_ (ag ?_ (ag ?_ (ag ?_ (ag ?_ (ag ?_ (ag ?_ (ag ?_ (ag ?_ (ag ?_ (ag ?_ (ag ?_ jy)))))))))))))))));any_goals (first | (intro L fx w' hJ hL hp hcl; have _ := ry hp (by decide +kernel); refine aM rfl fun K hK => ?_; go_simp; exact hJ.q hK (by kernel_rfl) rfl) | fail)
             . intro L fx w' hJ hL hp hcl;have e0 := hJ.pt 0 73 (.pointer (some ⟨S.lb, 0, none⟩)) rfl rfl rfl (hp 0 (by decide));rw [e0] at hJ |-; clear e0;refine aM rfl fun K hK => ?_;go_simp;exact hJ.q hK (by kernel_rfl) rfl
             . intro L fx w' hJ hL hp hcl;have e1 := hJ.pt 1 74 (.pointer (some ⟨S.lb, 0, none⟩)) rfl rfl rfl (hp 1 (by decide));rw [e1] at hJ |-; clear e1;refine aM rfl fun K hK => ?_;go_simp;exact hJ.q hK (by kernel_rfl) rfl
             . intro L fx w' hJ hL hp hcl;have e2 := hJ.pt 2 75 (.pointer (some ⟨S.lb, 0, none⟩)) rfl rfl rfl (hp 2 (by decide));rw [e2] at hJ |-; clear e2;refine aM rfl fun K hK => ?_;have cl0 := (hJ.cells _ fl).1;try dsimp only at cl0
               go_simp;exact hJ.q hK (by kernel_rfl) rfl
             . intro L fx w' hJ hL hp hcl;have e3 := hJ.pt 3 76 (.slice (some ⟨S.o, 0, none⟩) R.length S.cap) rfl rfl rfl (hp 3 (by decide));rw [e3] at hJ |-; clear e3;have e4 := hJ.pt 4 77 (.int .i64 (n : Int)) rfl rfl rfl (hp 4 (by decide));rw [e4] at hJ |-; clear e4;refine aM rfl fun K hK => ?_;go_simp;exact hJ.q hK (by kernel_rfl) rfl
             . intro L fx w' hJ hL hp hcl;have e5 := hJ.pt 5 78 (.pointer (some ⟨S.o, n, none⟩)) rfl rfl rfl (hp 5 (by decide));rw [e5] at hJ |-; clear e5;refine aM rfl fun K hK => ?_;have cl0 := (hJ.cells _ iP).1;try dsimp only at cl0
               go_simp;exact hJ.q hK (by kernel_rfl) rfl
             . intro L fx w' hJ hL hp hcl;have e7 := hJ.pt 7 80 (.pointer (some ⟨S.lb, 0, none⟩)) rfl rfl rfl (hp 7 (by decide));rw [e7] at hJ |-; clear e7;refine aM rfl fun K hK => ?_;go_simp;exact hJ.q hK (by kernel_rfl) rfl
             . intro L fx w' hJ hL hp hcl;have e8 := hJ.pt 8 81 (.pointer (some ⟨S.lb, 0, none⟩)) rfl rfl rfl (hp 8 (by decide));rw [e8] at hJ |-; clear e8;refine aM rfl fun K hK => ?_;go_simp;exact hJ.q hK (by kernel_rfl) rfl
             . intro L fx w' hJ hL hp hcl;have e9 := hJ.pt 9 82 (.pointer (some ⟨S.lb, 0, none⟩)) rfl rfl rfl (hp 9 (by decide));rw [e9] at hJ |-; clear e9;refine aM rfl fun K hK => ?_;have cl0 := (hJ.cells _ fl).1;try dsimp only at cl0
               go_simp;exact hJ.q hK (by kernel_rfl) rfl
             . intro L fx w' hJ hL hp hcl;have e10 := hJ.pt 10 83 (.slice (some ⟨S.o, 0, none⟩) R.length S.cap) rfl rfl rfl (hp 10 (by decide));rw [e10] at hJ |-; clear e10;have e11 := hJ.pt 11 84 (.int .i64 (n : Int)) rfl rfl rfl (hp 11 (by decide));rw [e11] at hJ |-; clear e11;refine aM rfl fun K hK => ?_;go_simp;exact hJ.q hK (by kernel_rfl) rfl
             . intro L fx w' hJ hL hp hcl;have e12 := hJ.pt 12 85 (.pointer (some ⟨S.o, n, none⟩)) rfl rfl rfl (hp 12 (by decide));rw [e12] at hJ |-; clear e12;refine aM rfl fun K hK => ?_;have cl0 := (hJ.cells _ iP).1;try dsimp only at cl0
               go_simp;exact hJ.q hK (by kernel_rfl) rfl
             . intro L fx w' hJ hL hp hcl;have e13 := hJ.pt 13 86 (.slice (some ⟨R[n].aB, 0, none⟩) R[n].xs.length R[n].cap) rfl rfl rfl (hp 13 (by decide));rw [e13] at hJ |-; clear e13;refine aM rfl fun K hK => ?_;go_simp;go_at_call 114;refine (mx R[n].aB R[n].cap R[n].xs _ (aJ.below (w := w4.drew) HXn.out hJ.fr) (fun x hx => by have := hF.out.fit _ (List.getElem_mem hnR) x hx; omega) (by rw [Hcn.out]; omega)).mono ?_;rintro e w4 ⟨rfl, hb4⟩;try dsimp only
               rw [Hjj.out];exact hK _ _ ⟨_, by kernel_rfl, hJ.gC 14 rfl (by kernel_rfl) hb4 rfl (by omega)⟩
             . intro L fx w' hJ hL hp hcl;have e6 := hJ.pt 6 79 (.slice (some ⟨R[n].aB, 0, none⟩) R[n].xs.length R[n].cap) rfl rfl rfl (hp 6 (by decide));rw [e6] at hJ |-; clear e6;have e14 := hJ.pt 14 87 (.int .i64 (jj : Int)) rfl rfl rfl (hp 14 (by decide));rw [e14] at hJ |-; clear e14;refine aM rfl fun K hK => ?_;go_simp;exact hJ.q hK (by kernel_rfl) rfl
             . intro L fx w' hJ hL hp hcl;have e15 := hJ.pt 15 88 (.pointer (some ⟨R[n].aB, jj * 2, none⟩)) rfl rfl rfl (hp 15 (by decide));rw [e15] at hJ |-; clear e15;refine aM rfl fun K hK => ?_;go_simp;exact hJ.q hK (by kernel_rfl) rfl
             . intro L fx w' hJ hL hp hcl;have e16 := hJ.pt 16 89 (.pointer (some ⟨R[n].aB, jj * 2, none⟩)) rfl rfl rfl (hp 16 (by decide));rw [e16] at hJ |-; clear e16;refine aM rfl fun K hK => ?_;have cl0 := (hJ.cells _ oZ).1;try dsimp only at cl0
               go_simp;exact hJ.q hK (by kernel_rfl) rfl
           . intro L' x1 w7 hL hJ;have hfr : Below w4.drew.heap.size w4.drew w7 := hJ.fr;have e17 : x1 90 = .bool pn.1 := hJ.slot 17 (by show 17 < 18; decide) (hL 17 (by show 17 < 18; decide));rw [aA (x := x1) (d := 90) (v := .bool pn.1) e17];clear hJ hL e17 cb cn cp0 cp1;have L7 := H5 (au.below (w := w4.drew) L4.out.drew hfr);have C7 := H5 (C4.out.drew.below hfr);clear hfr;simp only [pN, Nat.reduceEqDiff, ↓reduceIte];cases hneg : pn.1
             . have hif : (if aw R n jj < 0 then bZ R n else R) = R := if_neg (by
                have := Hsg.out; rw [hneg] at this; rw [HeN.out]; simpa using this.symm)
               have HRF := H5 HF2.out; have HSF := H5 HS2.out;rw [hif] at HRF HSF;clear hif;obtain ⟨RF, hRF⟩ : ∃ RF, bC a n R = RF := ⟨_, rfl⟩;rw [hRF] at HRF HSF;have HRFe := H5 hRF; clear hRF;go_wp2;go_loopw [8] (fun i_ wq => ∃ (i : Nat) (R8 : List Hd), i <= n /\ a <= i /\ i_ = .int .i64 (i : Int) /\ Hid (bC a i R8 = RF) /\ Hid (R8.length = S.R.length) /\ Hid (au wq (S.ah R8)) /\ Hid (aO S.own w wq) /\ Hid (∀ k, (S.ah R8).own k ↔ S.own k)) (fun i_ _ => (intOf i_).toNat)
               case atStart => exact ⟨n, R, Nat.le_refl _, ha2, rfl, HRFe, hRl, L7, C7, hO⟩
               case round =>
                obtain ⟨i, R8, hin, hai, rfl, hSw, hR8, hL8, hC8, hO8⟩ := hrel;by_cases hia : a < i
                . obtain ⟨i', rfl⟩ : ∃ i', i = i' + 1 := ⟨i - 1, by omega⟩;have hi8 : i' + 1 < R8.length := by have := hR8.out; have := hRl.out; omega
                  have hi8' : i' < R8.length := by omega
                  have hia1 : (a : Int) < ((i' + 1 : Nat) : Int) := by omega
                  have hcast : ((i' + 1 : Nat) : Int) - 1 = (i' : Int) := by omega
                  have hms := kZ (S.ah R8) (i' + 1) i' wr hL8.out hi8 hi8' (by omega) (HT.out.jZ R8);have HMs := H5 hms; clear hms;have hcast2 : ((i' + 1 : Nat) : Int) = (i' : Int) + 1 := by omega
                  rw [hcast2] at hia1 hcast HMs |-;clear hcast2;have hia2 : (a : Int) < (i' : Int) + 1 := hia1;have hcast3 : (i' : Int) + 1 - 1 = (i' : Int) := by omega
                  go_wp2_with fail
                  refine HMs.out.mono ?_;rintro e w9 ⟨rfl, hL9, hC9⟩;have L9 := H5 hL9;have C9 := H5 (hC8.out.trans (hC9.mono (fun q _ e => (hO8.out q).1 e)));clear hL9 hC9;go_wp2;go_roundw
                  case rel =>
                   refine ⟨i', swapT R8 (i' + 1) i', by omega, by omega, by go_num, ?_, H5 ((bQ ..).trans hR8.out), ?_, C9, H5 (fun q => (gr (S.ah R8) (i' + 1) i' q).trans (hO8.out q))⟩
                   . have := hSw.out;unfold bC at this;rw [if_neg (by omega)] at this;exact this
                   . rw [ir hi8 hi8']; exact L9
                  case measure => simp only [intOf]; omega
                . obtain rfl : i = a := by omega
                  have hR8F : R8 = RF := by
                   have := hSw.out;cases i with
                   | zero => exact this
                   | succ q => unfold bC at this; rw [if_pos (Nat.le_refl _)] at this; exact this
                  subst hR8F;have hset := iy (S.ah R8) (n + 1) B c R' wr hL8.out (by show n + 1 <= R8.length; have := hR8.out; omega) (by omega) HRF.out HSF.out (by show R8.length <= 1000000; have := hR8.out; omega) hc HT.out;have HSet := H5 hset; clear hset;have hcn1 : ((n + 1 : Nat) : Int) = (n : Int) + 1 := by omega
                  rw [hcn1] at HSet;clear hcn1;have hgt : ¬ (i : Int) > (i : Int) := by omega
                  go_wp2_with fail
                  refine HSet.out.mono ?_;rintro e w9 ⟨rfl, hL9, hC9⟩;have L9 := H5 hL9;have C9 := H5 (hC8.out.trans (hC9.mono (fun q _ e => (hO8.out q).1 e)));clear hL9 hC9;go_wp2;go_ret;exact ⟨rfl, L9.out, C9.out⟩
             . have hif : (if aw R n jj < 0 then bZ R n else R) = bZ R n := if_pos (by
                have := Hsg.out; rw [hneg] at this; rw [HeN.out]; simpa using this.symm)
               have hlenN : R[n].xs.length <= 4611686018427387903 := by rw [Hcn.out]; omega
               have hmt := vj (S.ah R) n w7 L7.out hnR (fun x hx => by have := hF.out.fit _ (List.getElem_mem hnR) x hx; omega) hlenN (HT.out.jZ R) (HT.out.zh hF.out);have HMt := H5 hmt; clear hmt;go_wp2_with fail
               refine HMt.out.mono ?_;rintro e w8 ⟨rfl, hL8, hC8⟩;have C8 := H5 (C7.out.trans (hC8.mono (fun q _ e => (hO.out q).1 e)));have L8 : Hid (au w8 (S.ah (bZ R n))) := by rw [oO hnR]; exact hL8
               have O8 : Hid (∀ k, (S.ah (bZ R n)).own k ↔ S.own k) := fun q => (lZ (S.ah R) n q).trans (hO.out q);have N8 : Hid ((bZ R n).length = S.R.length) := (gm ..).trans hRl.out;clear hL8 hC8;have HRF := H5 HF2.out; have HSF := H5 HS2.out;rw [hif] at HRF HSF;clear hif;obtain ⟨RF, hRF⟩ : ∃ RF, bC a n (bZ R n) = RF := ⟨_, rfl⟩;rw [hRF] at HRF HSF;have HRFe := H5 hRF; clear hRF;go_wp2;go_loopw [8] (fun i_ wq => ∃ (i : Nat) (R8 : List Hd), i <= n /\ a <= i /\ i_ = .int .i64 (i : Int) /\ Hid (bC a i R8 = RF) /\ Hid (R8.length = S.R.length) /\ Hid (au wq (S.ah R8)) /\ Hid (aO S.own w wq) /\ Hid (∀ k, (S.ah R8).own k ↔ S.own k)) (fun i_ _ => (intOf i_).toNat)
               case atStart => exact ⟨n, (bZ R n), Nat.le_refl _, ha2, rfl, HRFe, N8, L8, C8, O8⟩
               case round =>
                obtain ⟨i, R8, hin, hai, rfl, hSw, hR8, hL8, hC8, hO8⟩ := hrel;by_cases hia : a < i
                . obtain ⟨i', rfl⟩ : ∃ i', i = i' + 1 := ⟨i - 1, by omega⟩;have hi8 : i' + 1 < R8.length := by have := hR8.out; have := hRl.out; omega
                  have hi8' : i' < R8.length := by omega
                  have hia1 : (a : Int) < ((i' + 1 : Nat) : Int) := by omega
                  have hcast : ((i' + 1 : Nat) : Int) - 1 = (i' : Int) := by omega
                  have hms := kZ (S.ah R8) (i' + 1) i' wr hL8.out hi8 hi8' (by omega) (HT.out.jZ R8);have HMs := H5 hms; clear hms;have hcast2 : ((i' + 1 : Nat) : Int) = (i' : Int) + 1 := by omega
                  rw [hcast2] at hia1 hcast HMs |-;clear hcast2;have hia2 : (a : Int) < (i' : Int) + 1 := hia1;have hcast3 : (i' : Int) + 1 - 1 = (i' : Int) := by omega
                  go_wp2_with fail
                  refine HMs.out.mono ?_;rintro e w9 ⟨rfl, hL9, hC9⟩;have L9 := H5 hL9;have C9 := H5 (hC8.out.trans (hC9.mono (fun q _ e => (hO8.out q).1 e)));clear hL9 hC9;go_wp2;go_roundw
                  case rel =>
                   refine ⟨i', swapT R8 (i' + 1) i', by omega, by omega, by go_num, ?_, H5 ((bQ ..).trans hR8.out), ?_, C9, H5 (fun q => (gr (S.ah R8) (i' + 1) i' q).trans (hO8.out q))⟩
                   . have := hSw.out;unfold bC at this;rw [if_neg (by omega)] at this;exact this
                   . rw [ir hi8 hi8']; exact L9
                  case measure => simp only [intOf]; omega
                . obtain rfl : i = a := by omega
                  have hR8F : R8 = RF := by
                   have := hSw.out;cases i with
                   | zero => exact this
                   | succ q => unfold bC at this; rw [if_pos (Nat.le_refl _)] at this; exact this
                  subst hR8F;have hset := iy (S.ah R8) (n + 1) B c R' wr hL8.out (by show n + 1 <= R8.length; have := hR8.out; omega) (by omega) HRF.out HSF.out (by show R8.length <= 1000000; have := hR8.out; omega) hc HT.out;have HSet := H5 hset; clear hset;have hcn1 : ((n + 1 : Nat) : Int) = (n : Int) + 1 := by omega
                  rw [hcn1] at HSet;clear hcn1;have hgt : ¬ (i : Int) > (i : Int) := by omega
                  go_wp2_with fail
                  refine HSet.out.mono ?_;rintro e w9 ⟨rfl, hL9, hC9⟩;have L9 := H5 hL9;have C9 := H5 (hC8.out.trans (hC9.mono (fun q _ e => (hO8.out q).1 e)));clear hL9 hC9;go_wp2;go_ret;exact ⟨rfl, L9.out, C9.out⟩
     . have hbr : a = n \/ jj < aX R a := by omega
       have Hbr := H5 hbr; clear hbr;have hnlt : ¬ (a : Int) < (n : Int) := by omega
       have hanb : ((a : Int) == (n : Int)) = true := by rw [beq_iff_eq]; omega
       have hstop : res = true /\ Fit B c (bC a n (if aw R n jj < 0 then bZ R n else R)) /\ iF B c (eu (bC a n (if aw R n jj < 0 then bZ R n else R)) (n + 1)) (n + 1) (n + 1) (bC a n (if aw R n jj < 0 then bZ R n else R)) R' := by
        have hPj := hPt.out;have hx := hlt.out;have hd := Hld.out;have hbr := Hbr.out;cases hPj with
        | zero _ h _ => rw [hd] at h; omega
        | stop _ h1 h2 a' ha' hn' hlt' hb' hF2 hs =>
         rw [hd] at hlt' hb' hF2 hs;have haa : a' = a := by
          rcases Nat.lt_trichotomy a' a with h | h | h
          . have := hx a' ha' h; omega
          . exact h
          . have := hlt' a ha1 h; omega
         subst haa;exact ⟨rfl, hF2, hs⟩
        | meet _ h1 h2 a' ha' hn' hlt' hj' hp hF1 hp1 hs =>
         rw [hd] at hlt' hj';rcases Nat.lt_trichotomy a' a with h | h | h
         . have := hx a' ha' h; omega
         . subst h; omega
         . have := hlt' a ha1 h; omega
       obtain ⟨rfl, hF2, hs2⟩ := hstop;have HF2 := H5 hF2; clear hF2;have HS2 := H5 hs2; clear hs2;have hXn := hLq.out.dF.row _ (List.getElem_mem (l := R) hnR);have hjn : jj < R[n].xs.length := by rw [Hcn.out]; exact hjc
       obtain ⟨pn, cp0, cp1, hpn⟩ := hXn.get hjn;have hx0 : R[n].xs[jj] ≠ 0 := qx Hjj.out hjn;have hsg := hpn.sign hx0;have heN := j4 hnR hjn;have HXn := H5 hXn; clear hXn;have Hsg := H5 hsg; clear hsg;have HeN := H5 heN; clear heN;clear hpn hx0;have cb : wr.cell? ⟨S.lb, 0, none⟩ = some (.slice (some ⟨S.o, 0, none⟩) R.length S.cap) := hLq.out.lad.cell 0;have cn : wr.cell? ⟨S.o, n, none⟩ = some (.slice (some ⟨R[n].aB, 0, none⟩) R[n].xs.length R[n].cap) := hLq.out.dF.dk (i := n) hnR;have sb1 := HXn.out.lt;have sb3 : S.lb < wr.heap.size := hLq.out.lad.lt;have sb4 : S.o < wr.heap.size := hLq.out.dF.out.lt;have hjn1 : (jj : Int) < (R[n].xs.length : Int) := by omega
       go_wp2;refine eo ⟨18, fun q_ => [73, 74, 75, 76, 77, 78, 79, 80, 81, 82, 83, 84, 85, 86, 87, 88, 89, 90].getD q_ 0,
        fun q_ => [.val (.pointer (some ⟨S.lb, 0, none⟩)), .val (.pointer (some ⟨S.lb, 0, none⟩)), .val (.pointer (some ⟨S.lb, 0, none⟩)), .val (.slice (some ⟨S.o, 0, none⟩) R.length S.cap), .val (.int .i64 (n : Int)), .val (.pointer (some ⟨S.o, n, none⟩)), .val (.slice (some ⟨R[n].aB, 0, none⟩) R[n].xs.length R[n].cap), .val (.pointer (some ⟨S.lb, 0, none⟩)), .val (.pointer (some ⟨S.lb, 0, none⟩)), .val (.pointer (some ⟨S.lb, 0, none⟩)), .val (.slice (some ⟨S.o, 0, none⟩) R.length S.cap), .val (.int .i64 (n : Int)), .val (.pointer (some ⟨S.o, n, none⟩)), .val (.slice (some ⟨R[n].aB, 0, none⟩) R[n].xs.length R[n].cap), .val (.int .i64 (jj : Int)), .val (.pointer (some ⟨R[n].aB, jj * 2, none⟩)), .val (.pointer (some ⟨R[n].aB, jj * 2, none⟩)), .val (.bool pn.1)].getD q_ .any,
        [],
        [],
        [],
        [], [(⟨S.lb, 0, none⟩, .slice (some ⟨S.o, 0, none⟩) R.length S.cap), (⟨S.o, n, none⟩, .slice (some ⟨R[n].aB, 0, none⟩) R[n].xs.length R[n].cap), (⟨R[n].aB, jj * 2, none⟩, .bool pn.1)], []⟩ [73, 74, 75, 76, 77, 78, 79, 80, 81, 82, 83, 84, 85, 86, 87, 88, 89, 90] (wr.heap.size) (by kernel_rfl) (by kernel_rfl) (by kernel_rfl) (by kernel_rfl) ?_ ?_ ?_ ?_ ?_ ?_
       . intro p hp;cases hp
       . intro p hp;cases hp
       . intro p hp;rcases mc hp with rfl | hp
         . refine ⟨cb, by show S.lb < wr.heap.size; omega, ?_⟩;intro t ht;cases ht
         rcases mc hp with rfl | hp
         . refine ⟨cn, by show S.o < wr.heap.size; omega, ?_⟩;intro t ht;cases ht
         rcases mc hp with rfl | hp
         . refine ⟨cp0, by show R[n].aB < wr.heap.size; omega, ?_⟩;intro t ht;cases ht
         cases hp
       . intro t ht;cases ht
       . refine ag ?_ (ag ?_ (ag ?_ (ag ?_ (ag ?_ (ag ?_ (ag ?_ (ag ?_ (ag ?_ (ag ?_ (ag ?_ (ag ?_ (ag ?_ (ag ?_ (ag ?_ (ag ?_ (ag ?_ (ag ?_ jy)))))))))))))))));any_goals (first | (intro L fx w' hJ hL hp hcl; have _ := ry hp (by decide +kernel); refine aM rfl fun K hK => ?_; go_simp; exact hJ.q hK (by kernel_rfl) rfl) | fail)
         . intro L fx w' hJ hL hp hcl;have e0 := hJ.pt 0 73 (.pointer (some ⟨S.lb, 0, none⟩)) rfl rfl rfl (hp 0 (by decide));rw [e0] at hJ |-; clear e0;refine aM rfl fun K hK => ?_;go_simp;exact hJ.q hK (by kernel_rfl) rfl
         . intro L fx w' hJ hL hp hcl;have e1 := hJ.pt 1 74 (.pointer (some ⟨S.lb, 0, none⟩)) rfl rfl rfl (hp 1 (by decide));rw [e1] at hJ |-; clear e1;refine aM rfl fun K hK => ?_;go_simp;exact hJ.q hK (by kernel_rfl) rfl
         . intro L fx w' hJ hL hp hcl;have e2 := hJ.pt 2 75 (.pointer (some ⟨S.lb, 0, none⟩)) rfl rfl rfl (hp 2 (by decide));rw [e2] at hJ |-; clear e2;refine aM rfl fun K hK => ?_;have cl0 := (hJ.cells _ fl).1;try dsimp only at cl0
           go_simp;exact hJ.q hK (by kernel_rfl) rfl
         . intro L fx w' hJ hL hp hcl;have e3 := hJ.pt 3 76 (.slice (some ⟨S.o, 0, none⟩) R.length S.cap) rfl rfl rfl (hp 3 (by decide));rw [e3] at hJ |-; clear e3;have e4 := hJ.pt 4 77 (.int .i64 (n : Int)) rfl rfl rfl (hp 4 (by decide));rw [e4] at hJ |-; clear e4;refine aM rfl fun K hK => ?_;go_simp;exact hJ.q hK (by kernel_rfl) rfl
         . intro L fx w' hJ hL hp hcl;have e5 := hJ.pt 5 78 (.pointer (some ⟨S.o, n, none⟩)) rfl rfl rfl (hp 5 (by decide));rw [e5] at hJ |-; clear e5;refine aM rfl fun K hK => ?_;have cl0 := (hJ.cells _ iP).1;try dsimp only at cl0
           go_simp;exact hJ.q hK (by kernel_rfl) rfl
         . intro L fx w' hJ hL hp hcl;have e7 := hJ.pt 7 80 (.pointer (some ⟨S.lb, 0, none⟩)) rfl rfl rfl (hp 7 (by decide));rw [e7] at hJ |-; clear e7;refine aM rfl fun K hK => ?_;go_simp;exact hJ.q hK (by kernel_rfl) rfl
         . intro L fx w' hJ hL hp hcl;have e8 := hJ.pt 8 81 (.pointer (some ⟨S.lb, 0, none⟩)) rfl rfl rfl (hp 8 (by decide));rw [e8] at hJ |-; clear e8;refine aM rfl fun K hK => ?_;go_simp;exact hJ.q hK (by kernel_rfl) rfl
         . intro L fx w' hJ hL hp hcl;have e9 := hJ.pt 9 82 (.pointer (some ⟨S.lb, 0, none⟩)) rfl rfl rfl (hp 9 (by decide));rw [e9] at hJ |-; clear e9;refine aM rfl fun K hK => ?_;have cl0 := (hJ.cells _ fl).1;try dsimp only at cl0
           go_simp;exact hJ.q hK (by kernel_rfl) rfl
         . intro L fx w' hJ hL hp hcl;have e10 := hJ.pt 10 83 (.slice (some ⟨S.o, 0, none⟩) R.length S.cap) rfl rfl rfl (hp 10 (by decide));rw [e10] at hJ |-; clear e10;have e11 := hJ.pt 11 84 (.int .i64 (n : Int)) rfl rfl rfl (hp 11 (by decide));rw [e11] at hJ |-; clear e11;refine aM rfl fun K hK => ?_;go_simp;exact hJ.q hK (by kernel_rfl) rfl
         . intro L fx w' hJ hL hp hcl;have e12 := hJ.pt 12 85 (.pointer (some ⟨S.o, n, none⟩)) rfl rfl rfl (hp 12 (by decide));rw [e12] at hJ |-; clear e12;refine aM rfl fun K hK => ?_;have cl0 := (hJ.cells _ iP).1;try dsimp only at cl0
           go_simp;exact hJ.q hK (by kernel_rfl) rfl
         . intro L fx w' hJ hL hp hcl;have e13 := hJ.pt 13 86 (.slice (some ⟨R[n].aB, 0, none⟩) R[n].xs.length R[n].cap) rfl rfl rfl (hp 13 (by decide));rw [e13] at hJ |-; clear e13;refine aM rfl fun K hK => ?_;go_simp;go_at_call 114;refine (mx R[n].aB R[n].cap R[n].xs _ (aJ.below (w := wr.drew) HXn.out hJ.fr) (fun x hx => by have := hF.out.fit _ (List.getElem_mem hnR) x hx; omega) (by rw [Hcn.out]; omega)).mono ?_;rintro e w4 ⟨rfl, hb4⟩;try dsimp only
           rw [Hjj.out];exact hK _ _ ⟨_, by kernel_rfl, hJ.gC 14 rfl (by kernel_rfl) hb4 rfl (by omega)⟩
         . intro L fx w' hJ hL hp hcl;have e6 := hJ.pt 6 79 (.slice (some ⟨R[n].aB, 0, none⟩) R[n].xs.length R[n].cap) rfl rfl rfl (hp 6 (by decide));rw [e6] at hJ |-; clear e6;have e14 := hJ.pt 14 87 (.int .i64 (jj : Int)) rfl rfl rfl (hp 14 (by decide));rw [e14] at hJ |-; clear e14;refine aM rfl fun K hK => ?_;go_simp;exact hJ.q hK (by kernel_rfl) rfl
         . intro L fx w' hJ hL hp hcl;have e15 := hJ.pt 15 88 (.pointer (some ⟨R[n].aB, jj * 2, none⟩)) rfl rfl rfl (hp 15 (by decide));rw [e15] at hJ |-; clear e15;refine aM rfl fun K hK => ?_;go_simp;exact hJ.q hK (by kernel_rfl) rfl
         . intro L fx w' hJ hL hp hcl;have e16 := hJ.pt 16 89 (.pointer (some ⟨R[n].aB, jj * 2, none⟩)) rfl rfl rfl (hp 16 (by decide));rw [e16] at hJ |-; clear e16;refine aM rfl fun K hK => ?_;have cl0 := (hJ.cells _ oZ).1;try dsimp only at cl0
           go_simp;exact hJ.q hK (by kernel_rfl) rfl
       . intro L' x1 w7 hL hJ;have hfr : Below wr.drew.heap.size wr.drew w7 := hJ.fr;have e17 : x1 90 = .bool pn.1 := hJ.slot 17 (by show 17 < 18; decide) (hL 17 (by show 17 < 18; decide));rw [aA (x := x1) (d := 90) (v := .bool pn.1) e17];clear hJ hL e17 cb cn cp0 cp1;have L7 := H5 (au.below (w := wr.drew) hLq.out.drew hfr);have C7 := H5 (hCq.out.drew.below hfr);clear hfr;simp only [pN, Nat.reduceEqDiff, ↓reduceIte];cases hneg : pn.1
         . have hif : (if aw R n jj < 0 then bZ R n else R) = R := if_neg (by
            have := Hsg.out; rw [hneg] at this; rw [HeN.out]; simpa using this.symm)
           have HRF := H5 HF2.out; have HSF := H5 HS2.out;rw [hif] at HRF HSF;clear hif;obtain ⟨RF, hRF⟩ : ∃ RF, bC a n R = RF := ⟨_, rfl⟩;rw [hRF] at HRF HSF;have HRFe := H5 hRF; clear hRF;go_wp2;go_loopw [8] (fun i_ wq => ∃ (i : Nat) (R8 : List Hd), i <= n /\ a <= i /\ i_ = .int .i64 (i : Int) /\ Hid (bC a i R8 = RF) /\ Hid (R8.length = S.R.length) /\ Hid (au wq (S.ah R8)) /\ Hid (aO S.own w wq) /\ Hid (∀ k, (S.ah R8).own k ↔ S.own k)) (fun i_ _ => (intOf i_).toNat)
           case atStart => exact ⟨n, R, Nat.le_refl _, ha2, rfl, HRFe, hRl, L7, C7, hO⟩
           case round =>
            obtain ⟨i, R8, hin, hai, rfl, hSw, hR8, hL8, hC8, hO8⟩ := hrel;by_cases hia : a < i
            . obtain ⟨i', rfl⟩ : ∃ i', i = i' + 1 := ⟨i - 1, by omega⟩;have hi8 : i' + 1 < R8.length := by have := hR8.out; have := hRl.out; omega
              have hi8' : i' < R8.length := by omega
              have hia1 : (a : Int) < ((i' + 1 : Nat) : Int) := by omega
              have hcast : ((i' + 1 : Nat) : Int) - 1 = (i' : Int) := by omega
              have hms := kZ (S.ah R8) (i' + 1) i' wr hL8.out hi8 hi8' (by omega) (HT.out.jZ R8);have HMs := H5 hms; clear hms;have hcast2 : ((i' + 1 : Nat) : Int) = (i' : Int) + 1 := by omega
              rw [hcast2] at hia1 hcast HMs |-;clear hcast2;have hia2 : (a : Int) < (i' : Int) + 1 := hia1;have hcast3 : (i' : Int) + 1 - 1 = (i' : Int) := by omega
              go_wp2_with fail
              refine HMs.out.mono ?_;rintro e w9 ⟨rfl, hL9, hC9⟩;have L9 := H5 hL9;have C9 := H5 (hC8.out.trans (hC9.mono (fun q _ e => (hO8.out q).1 e)));clear hL9 hC9;go_wp2;go_roundw
              case rel =>
               refine ⟨i', swapT R8 (i' + 1) i', by omega, by omega, by go_num, ?_, H5 ((bQ ..).trans hR8.out), ?_, C9, H5 (fun q => (gr (S.ah R8) (i' + 1) i' q).trans (hO8.out q))⟩
               . have := hSw.out;unfold bC at this;rw [if_neg (by omega)] at this;exact this
               . rw [ir hi8 hi8']; exact L9
              case measure => simp only [intOf]; omega
            . obtain rfl : i = a := by omega
              have hR8F : R8 = RF := by
               have := hSw.out;cases i with
               | zero => exact this
               | succ q => unfold bC at this; rw [if_pos (Nat.le_refl _)] at this; exact this
              subst hR8F;have hset := iy (S.ah R8) (n + 1) B c R' wr hL8.out (by show n + 1 <= R8.length; have := hR8.out; omega) (by omega) HRF.out HSF.out (by show R8.length <= 1000000; have := hR8.out; omega) hc HT.out;have HSet := H5 hset; clear hset;have hcn1 : ((n + 1 : Nat) : Int) = (n : Int) + 1 := by omega
              rw [hcn1] at HSet;clear hcn1;have hgt : ¬ (i : Int) > (i : Int) := by omega
              go_wp2_with fail
              refine HSet.out.mono ?_;rintro e w9 ⟨rfl, hL9, hC9⟩;have L9 := H5 hL9;have C9 := H5 (hC8.out.trans (hC9.mono (fun q _ e => (hO8.out q).1 e)));clear hL9 hC9;go_wp2;go_ret;exact ⟨rfl, L9.out, C9.out⟩
         . have hif : (if aw R n jj < 0 then bZ R n else R) = bZ R n := if_pos (by
            have := Hsg.out; rw [hneg] at this; rw [HeN.out]; simpa using this.symm)
           have hlenN : R[n].xs.length <= 4611686018427387903 := by rw [Hcn.out]; omega
           have hmt := vj (S.ah R) n w7 L7.out hnR (fun x hx => by have := hF.out.fit _ (List.getElem_mem hnR) x hx; omega) hlenN (HT.out.jZ R) (HT.out.zh hF.out);have HMt := H5 hmt; clear hmt;go_wp2_with fail
           refine HMt.out.mono ?_;rintro e w8 ⟨rfl, hL8, hC8⟩;have C8 := H5 (C7.out.trans (hC8.mono (fun q _ e => (hO.out q).1 e)));have L8 : Hid (au w8 (S.ah (bZ R n))) := by rw [oO hnR]; exact hL8
           have O8 : Hid (∀ k, (S.ah (bZ R n)).own k ↔ S.own k) := fun q => (lZ (S.ah R) n q).trans (hO.out q);have N8 : Hid ((bZ R n).length = S.R.length) := (gm ..).trans hRl.out;clear hL8 hC8;have HRF := H5 HF2.out; have HSF := H5 HS2.out;rw [hif] at HRF HSF;clear hif;obtain ⟨RF, hRF⟩ : ∃ RF, bC a n (bZ R n) = RF := ⟨_, rfl⟩;rw [hRF] at HRF HSF;have HRFe := H5 hRF; clear hRF;go_wp2;go_loopw [8] (fun i_ wq => ∃ (i : Nat) (R8 : List Hd), i <= n /\ a <= i /\ i_ = .int .i64 (i : Int) /\ Hid (bC a i R8 = RF) /\ Hid (R8.length = S.R.length) /\ Hid (au wq (S.ah R8)) /\ Hid (aO S.own w wq) /\ Hid (∀ k, (S.ah R8).own k ↔ S.own k)) (fun i_ _ => (intOf i_).toNat)
           case atStart => exact ⟨n, (bZ R n), Nat.le_refl _, ha2, rfl, HRFe, N8, L8, C8, O8⟩
           case round =>
            obtain ⟨i, R8, hin, hai, rfl, hSw, hR8, hL8, hC8, hO8⟩ := hrel;by_cases hia : a < i
            . obtain ⟨i', rfl⟩ : ∃ i', i = i' + 1 := ⟨i - 1, by omega⟩;have hi8 : i' + 1 < R8.length := by have := hR8.out; have := hRl.out; omega
              have hi8' : i' < R8.length := by omega
              have hia1 : (a : Int) < ((i' + 1 : Nat) : Int) := by omega
              have hcast : ((i' + 1 : Nat) : Int) - 1 = (i' : Int) := by omega
              have hms := kZ (S.ah R8) (i' + 1) i' wr hL8.out hi8 hi8' (by omega) (HT.out.jZ R8);have HMs := H5 hms; clear hms;have hcast2 : ((i' + 1 : Nat) : Int) = (i' : Int) + 1 := by omega
              rw [hcast2] at hia1 hcast HMs |-;clear hcast2;have hia2 : (a : Int) < (i' : Int) + 1 := hia1;have hcast3 : (i' : Int) + 1 - 1 = (i' : Int) := by omega
              go_wp2_with fail
              refine HMs.out.mono ?_;rintro e w9 ⟨rfl, hL9, hC9⟩;have L9 := H5 hL9;have C9 := H5 (hC8.out.trans (hC9.mono (fun q _ e => (hO8.out q).1 e)));clear hL9 hC9;go_wp2;go_roundw
              case rel =>
               refine ⟨i', swapT R8 (i' + 1) i', by omega, by omega, by go_num, ?_, H5 ((bQ ..).trans hR8.out), ?_, C9, H5 (fun q => (gr (S.ah R8) (i' + 1) i' q).trans (hO8.out q))⟩
               . have := hSw.out;unfold bC at this;rw [if_neg (by omega)] at this;exact this
               . rw [ir hi8 hi8']; exact L9
              case measure => simp only [intOf]; omega
            . obtain rfl : i = a := by omega
              have hR8F : R8 = RF := by
               have := hSw.out;cases i with
               | zero => exact this
               | succ q => unfold bC at this; rw [if_pos (Nat.le_refl _)] at this; exact this
              subst hR8F;have hset := iy (S.ah R8) (n + 1) B c R' wr hL8.out (by show n + 1 <= R8.length; have := hR8.out; omega) (by omega) HRF.out HSF.out (by show R8.length <= 1000000; have := hR8.out; omega) hc HT.out;have HSet := H5 hset; clear hset;have hcn1 : ((n + 1 : Nat) : Int) = (n : Int) + 1 := by omega
              rw [hcn1] at HSet;clear hcn1;have hgt : ¬ (i : Int) > (i : Int) := by omega
              go_wp2_with fail
              refine HSet.out.mono ?_;rintro e w9 ⟨rfl, hL9, hC9⟩;have L9 := H5 hL9;have C9 := H5 (hC8.out.trans (hC9.mono (fun q _ e => (hO8.out q).1 e)));clear hL9 hC9;go_wp2;go_ret;exact ⟨rfl, L9.out, C9.out⟩
def n4 : Nat -> Nat -> List Hd -> List Hd
 | 0, _, R => R
 | k + 1, i, R => n4 k (i + 1) (swapT R i (i + 1))
inductive mX (B c : Nat) : Nat -> Nat -> List Hd -> Nat -> List Hd -> Prop
 | fin {d e : Nat} {R : List Hd} (h : e <= d) : mX B c d e R d R
 | ok {d e k : Nat} {R R1 R' : List Hd} (h : d < e) (hp : jY B c d 0 (-1) R true R1) (hs : mX B c (d + 1) e R1 k R') : mX B c d e R k R'
 | zero {d e k : Nat} {R R1 R' : List Hd} (h : d < e) (hp : jY B c d 0 (-1) R false R1) (hs : mX B c d (e - 1) (n4 (e - 1 - d) d R1) k R') : mX B c d e R k R'
theorem iF.length {B c : Nat} {ls : List Nat} {n m : Nat} {R R' : List Hd} (h : iF B c ls n m R R') : R'.length = R.length := by
 induction h with
 | done => rfl
 | step h1 _ ih => rw [ih, h1.length]
theorem ic (a : Nat) : ∀ (i : Nat) (R : List Hd), (bC a i R).length = R.length
 | 0, R => rfl
 | i + 1, R => by
  unfold bC; split
  . rfl
  . rw [ic a i, bQ]
theorem jY.length {B c n a : Nat} {l : Int} {R R' : List Hd} {b : Bool} (h : jY B c n a l R b R') : R'.length = R.length := by
 induction h with
 | zero _ _ hs => exact hs.length
 | stop _ _ _ _ _ _ _ _ _ hs =>
  rw [hs.length, ic];split
  . exact gm ..
  . rfl
 | meet _ _ _ _ _ _ _ _ _ _ _ _ ih => rw [ih, iV]
theorem yc (S : bV) (R : List Hd) (i j : Nat) (x : Int) (q : Nat) : (S.ah (iw R i j x)).own q ↔ (S.ah R).own q := ov (S.ah R) i j x q
theorem wM (S : bV) (R : List Hd) (i q : Nat) : (S.ah (bZ R i)).own q ↔ (S.ah R).own q := lZ (S.ah R) i q
theorem wb (S : bV) (R : List Hd) (k n j q : Nat) : (S.ah (dX R k n j)).own q ↔ (S.ah R).own q := qm (S.ah R) k n j q
theorem AH {B c i n k : Nat} {ls : List Nat} {R R' : List Hd} (h : qU7 B c ls i n k R R') : ∀ (S : bV) (q : Nat), (S.ah R').own q ↔ (S.ah R).own q := by
 induction h with
 | done _ => exact fun _ _ => Iff.rfl
 | step _ _ _ _ _ ih => exact fun S q => (ih S q).trans (yc S _ _ _ _ q)
theorem tH {B c n m : Nat} {ls : List Nat} {R R' : List Hd} (h : iF B c ls n m R R') : ∀ (S : bV) (q : Nat), (S.ah R').own q ↔ (S.ah R).own q := by
 induction h with
 | done => exact fun _ _ => Iff.rfl
 | step h1 _ ih => exact fun S q => (ih S q).trans (AH h1 S q)
theorem oE (a : Nat) : ∀ (i : Nat) (R : List Hd) (S : bV) (q : Nat), (S.ah (bC a i R)).own q ↔ (S.ah R).own q
 | 0, R, S, q => Iff.rfl
 | i + 1, R, S, q => by
  unfold bC; split
  . exact Iff.rfl
  . exact (oE a i _ S q).trans (gr (S.ah R) _ _ q)
theorem yZ {B c n a : Nat} {l : Int} {R R' : List Hd} {b : Bool} (h : jY B c n a l R b R') : ∀ (S : bV) (q : Nat), (S.ah R').own q ↔ (S.ah R).own q := by
 induction h with
 | zero _ _ hs => exact tH hs
 | stop _ _ _ _ _ _ _ _ _ hs =>
  refine fun S q => (tH hs S q).trans ((oE _ _ _ S q).trans ?_);split
  . exact wM S _ _ q
  . exact Iff.rfl
 | meet _ _ _ _ _ _ _ _ _ _ _ _ ih => exact fun S q => (ih S q).trans (wb S _ _ _ _ q)
theorem xx (S : bV) (B c k : Nat) (R' : List Hd) (w : World) (h : au w S) (hB : B <= 4000000000000) (hP : mX B c 0 S.R.length S.R k R') (hR : S.R.length <= 100000) (hc : c <= 1000000) (hT : S.sat B c) :
 Calls Tryz.prog 92 #[.pointer (some ⟨S.lb, 0, none⟩)] w fun e w' => e = .returned (.int .i64 (k : Int)) /\ au w' (S.ah R') /\ aO S.own w w' := by
 have HT := H5 hT; clear hT;have cb : w.cell? ⟨S.lb, 0, none⟩ = some (.slice (some ⟨S.o, 0, none⟩) S.R.length S.cap) := h.lad.cell 0;have HL := H5 h; clear h;have HP := H5 hP; clear hP;go_enter Tryz.func92, Tryz.ntmps92;go_wp2
 go_region_held3 (fun w' => w'.cell? ⟨S.lb, 0, none⟩ = some (.slice (some ⟨S.o, 0, none⟩) S.R.length S.cap)) (first | exact cb) (fail)
 go_wp2;have HL1 := H5 HL.out.drew;have HC1 := H5 (aO.refl S.own w).drew;clear cb;go_loopw [3, 4] (fun d_ e_ wr => ∃ (d e : Nat) (R : List Hd), d <= e /\ e <= S.R.length /\ d_ = .int .i64 (d : Int) /\ e_ = .int .i64 (e : Int) /\ Hid (mX B c d e R k R') /\ Hid (R.length = S.R.length) /\ Hid (au wr (S.ah R)) /\ Hid (aO S.own w wr) /\ Hid (∀ q, (S.ah R).own q ↔ S.own q)) (fun d_ e_ _ => (intOf e_ - intOf d_).toNat)
 case atStart => exact ⟨0, S.R.length, S.R, Nat.zero_le _, Nat.le_refl _, rfl, rfl, HP, rfl, HL1, HC1, fun _ => Iff.rfl⟩
 case round =>
  obtain ⟨d, e, R, hde, heR, rfl, rfl, hRed, hRl, hL, hC, hO⟩ := hrel;by_cases hd : d < e
  . have hd1 : (d : Int) < (e : Int) := by omega
    have hdR : d < R.length := by have := hRl.out; omega
    have hcase : ∃ b R1, jY B c d 0 (-1) R b R1 /\ (b = true -> mX B c (d + 1) e R1 k R') /\ (b = false -> mX B c d (e - 1) (n4 (e - 1 - d) d R1) k R') := by
     cases hRed.out with
     | fin h => omega
     | ok _ hp hs => exact ⟨true, _, hp, fun _ => hs, fun h => by cases h⟩
     | zero _ hp hs => exact ⟨false, _, hp, fun h => (by cases h), fun _ => hs⟩
    obtain ⟨b, R1, hp, hs1, hs2⟩ := hcase;have hput := Put_c (S.ah R) d B c b R1 wr hL.out hdR hB hp (by show R.length <= 100000; have := hRl.out; omega) hc HT.out;have HPut := H5 hput;have HR1 := H5 (hp.length.trans hRl.out);have HO1 := H5 (fun q => (yZ hp S q).trans (hO.out q));have HS1 := H5 hs1;have HS2 := H5 hs2;clear hput hp hs1 hs2 hRed;go_wp2_with fail
    refine HPut.out.mono ?_;rintro e' w2 ⟨rfl, hL2, hC2⟩;have L2 := H5 hL2;have C2 := H5 (hC.out.trans (hC2.mono (fun q _ e => (hO.out q).1 e)));clear hL2 hC2 hL hC;cases b
    . have HSF := H5 (HS2.out rfl);have hec : ((e - 1 : Nat) : Int) = (e : Int) - 1 := by omega
      have Hec := H5 hec; clear hec;go_wp2;go_loopw [5] (fun i_ wq => ∃ (i : Nat) (R2 : List Hd), d <= i /\ i <= e - 1 /\ i_ = .int .i64 (i : Int) /\ Hid (n4 (e - 1 - i) i R2 = n4 (e - 1 - d) d R1) /\ Hid (R2.length = S.R.length) /\ Hid (au wq (S.ah R2)) /\ Hid (aO S.own w wq) /\ Hid (∀ q, (S.ah R2).own q ↔ S.own q)) (fun i_ _ => ((e : Int) - intOf i_).toNat)
      case atStart => exact ⟨d, R1, Nat.le_refl _, by omega, rfl, rfl, HR1, L2, C2, HO1⟩
      case round =>
       obtain ⟨i, R2, hdi, hie, rfl, hRot, hR2, hL2, hC2, hO2⟩ := hrel;by_cases hi : i < e - 1
       . have hi1 : (i : Int) < (e : Int) - 1 := by omega
         have hiR : i < R2.length := by have := hR2.out; omega
         have hiR1 : i + 1 < R2.length := by have := hR2.out; omega
         have hms := kZ (S.ah R2) i (i + 1) wr hL2.out hiR hiR1 (by omega) (HT.out.jZ R2);have hcast : ((i + 1 : Nat) : Int) = (i : Int) + 1 := by omega
         rw [hcast] at hms;have HMs := H5 hms; clear hms hcast;go_wp2_with fail
         refine HMs.out.mono ?_;rintro e'' w9 ⟨rfl, hL9, hC9⟩;have L9 := H5 hL9;have C9 := H5 (hC2.out.trans (hC9.mono (fun q _ e => (hO2.out q).1 e)));clear hL9 hC9;go_wp2;go_roundw
         case rel =>
          refine ⟨i + 1, swapT R2 i (i + 1), by omega, by omega, by go_num, ?_, H5 ((bQ ..).trans hR2.out), ?_, C9, H5 (fun q => (gr (S.ah R2) i (i + 1) q).trans (hO2.out q))⟩
          . have h2 := hRot.out;have h3 : e - 1 - i = (e - 1 - (i + 1)) + 1 := by omega
            rw [h3] at h2;exact h2
          . rw [ir hiR hiR1]; exact L9
         case measure => simp only [intOf]; omega
       . have hi1 : ¬ (i : Int) < (e : Int) - 1 := by omega
         have hie2 : e - 1 - i = 0 := by omega
         have hfin : R2 = n4 (e - 1 - d) d R1 := by
          have h2 := hRot.out;rw [hie2] at h2;exact h2
         have HFin := H5 hfin; clear hfin hie2;go_wp2;go_roundw
         case rel =>
          refine ⟨d, e - 1, R2, by omega, by omega, by go_num, by go_num, ?_, hR2, hL2, hC2, hO2⟩;rw [HFin.out];exact HSF
         case measure => simp only [intOf]; omega
    . have HSF := H5 (HS1.out rfl);go_wp2;go_roundw
      case rel => exact ⟨d + 1, e, R1, by omega, by omega, by go_num, by go_num, HSF, HR1, L2, C2, HO1⟩
      case measure => simp only [intOf]; omega
  . have hd1 : ¬ (d : Int) < (e : Int) := by omega
    have hfin : d = k /\ R = R' := by
     cases hRed.out with
     | fin h => exact ⟨rfl, rfl⟩
     | ok h _ _ => omega
     | zero h _ _ => omega
    have HFin := H5 hfin; clear hfin;go_wp2;go_ret;rw [<- HFin.out.1, <- HFin.out.2];exact ⟨rfl, hL.out, hC.out⟩
end Go.Proofs.YtbgecfleamckcaaGreat
namespace Go.Proofs.YtbgecfleamckcaaGreat
def sm : Nat -> (Nat -> Int) -> Int
 | 0, _ => 0
 | n + 1, f => sm n f + f n
theorem aE {n : Nat} {f g : Nat -> Int} (h : ∀ k, k < n -> f k = g k) : sm n f = sm n g := by
 induction n with
 | zero => rfl
 | succ n ih => unfold sm; rw [ih (fun k hk => h k (by omega)), h n (by omega)]
theorem cQ {n : Nat} {f : Nat -> Int} (h : ∀ k, k < n -> f k = 0) : sm n f = 0 := by
 induction n with
 | zero => rfl
 | succ n ih => unfold sm; rw [ih (fun k hk => h k (by omega)), h n (by omega)]; rfl
theorem qS (n : Nat) (f g : Nat -> Int) : sm n (fun k => f k + g k) = sm n f + sm n g := by
 induction n with
 | zero => rfl
 | succ n ih => simp only [sm, ih]; omega
theorem CP (n : Nat) (f g : Nat -> Int) : sm n (fun k => f k - g k) = sm n f - sm n g := by
 induction n with
 | zero => rfl
 | succ n ih => simp only [sm, ih]; omega
theorem eX (n : Nat) (c : Int) (f : Nat -> Int) : sm n (fun k => c * f k) = c * sm n f := by
 induction n with
 | zero => simp [sm]
 | succ n ih => simp only [sm, ih, Int.mul_add]
theorem lk (n : Nat) (c : Int) (f : Nat -> Int) : sm n (fun k => f k * c) = sm n f * c := by
 induction n with
 | zero => simp [sm]
 | succ n ih => simp only [sm, ih, Int.add_mul]
theorem lr (n m : Nat) (f : Nat -> Nat -> Int) : sm n (fun i => sm m (fun j => f i j)) = sm m (fun j => sm n (fun i => f i j)) := by
 induction n with
 | zero => exact (cQ (fun _ _ => rfl)).symm
 | succ n ih => simp only [sm, ih, qS]
theorem j9 {n : Nat} {f : Nat -> Int} (i : Nat) (hi : i < n) (h : ∀ k, k < n -> k ≠ i -> f k = 0) : sm n f = f i := by
 induction n with
 | zero => omega
 | succ n ih =>
  unfold sm;by_cases e : i = n
  . subst e; rw [cQ (fun k hk => h k (by omega) (by omega))]; omega
  . rw [ih (by omega) (fun k hk hne => h k (by omega) hne), h n (by omega) (fun e' => e e'.symm)]; omega
theorem qy {n : Nat} {f : Nat -> Int} {B : Nat} (h : ∀ k, k < n -> (f k).natAbs <= B) : (sm n f).natAbs <= n * B := by
 induction n with
 | zero => simp [sm]
 | succ n ih =>
  unfold sm;have h1 := ih (fun k hk => h k (by omega));have h2 := h n (by omega);have h3 := Int.natAbs_add_le (sm n f) (f n);rw [Nat.succ_mul]; omega
theorem fL (n m : Nat) (f : Nat -> Int) : sm (n + m) f = sm n f + sm m (fun k => f (n + k)) := by
 induction m with
 | zero => simp [sm]
 | succ m ih => rw [<- Nat.add_assoc]; simp only [sm, ih]; omega
theorem qI : ∀ (n : Nat) (f : Nat -> Nat), (∀ i, i <= n -> f i < n) -> ∃ i j, i < j /\ j <= n /\ f i = f j
 | 0, f, h => by have := h 0 (Nat.le_refl _); omega
 | n + 1, f, h => by
  by_cases hc : ∃ i, i <= n /\ f i = f (n + 1)
  . obtain ⟨i, hi, he⟩ := hc;exact ⟨i, n + 1, by omega, Nat.le_refl _, he⟩
  . have hn : ∀ i, i <= n -> f i ≠ f (n + 1) := fun i hi he => hc ⟨i, hi, he⟩;obtain ⟨i, j, hij, hj, he⟩ := qI n (fun i => if f i = n then f (n + 1) else f i) (fun i hi => by
     have h1 := h i (by omega);have h2 := h (n + 1) (Nat.le_refl _);have h3 := hn i hi;split <;> omega)
    refine ⟨i, j, hij, by omega, ?_⟩;have h1 := hn i (by omega);have h2 := hn j hj;split at he <;> split at he <;> omega
def jX (Q : Nat) (v : Nat -> Nat) : Nat -> Nat
 | 0 => 0
 | s + 1 => jX Q v s + v s * Q ^ s
theorem np {Q : Nat} {v : Nat -> Nat} : ∀ {s : Nat}, (∀ j, j < s -> v j < Q) -> jX Q v s < Q ^ s
 | 0, _ => by simp [jX]
 | s + 1, h => by
  have h1 := np (s := s) (fun j hj => h j (by omega));have h2 := h s (by omega);have h3 : (v s + 1) * Q ^ s <= Q * Q ^ s := Nat.mul_le_mul_right _ h2;rw [Nat.succ_mul] at h3;rw [Nat.pow_succ, Nat.mul_comm];unfold jX; omega
theorem rP {Q : Nat} {u v : Nat -> Nat} : ∀ {s : Nat}, (∀ j, j < s -> u j < Q) -> (∀ j, j < s -> v j < Q) -> jX Q u s = jX Q v s -> ∀ j, j < s -> u j = v j
 | 0, _, _, _, j, hj => by omega
 | s + 1, hu, hv, he, j, hj => by
  have h1 := np (s := s) (fun j hj => hu j (by omega));have h2 := np (s := s) (fun j hj => hv j (by omega));have hp : 0 < Q ^ s := by omega
  unfold jX at he;have d1 : (jX Q u s + u s * Q ^ s) / Q ^ s = u s := by rw [Nat.add_mul_div_right _ _ hp, Nat.div_eq_of_lt h1, Nat.zero_add]
  have d2 : (jX Q v s + v s * Q ^ s) / Q ^ s = v s := by rw [Nat.add_mul_div_right _ _ hp, Nat.div_eq_of_lt h2, Nat.zero_add]
  have hs : u s = v s := by rw [<- d1, <- d2, he]
  by_cases e : j = s
  . subst e; exact hs
  . rw [hs] at he;exact rP (s := s) (fun j hj => hu j (by omega)) (fun j hj => hv j (by omega)) (by omega) j (by omega)
theorem jA (Q n : Nat) : ∀ s, jX Q (fun k => n / Q ^ k % Q) s = n % Q ^ s
 | 0 => by simp [jX, Nat.mod_one]
 | s + 1 => by
  unfold jX;rw [jA Q n s, Nat.mod_pow_succ, Nat.mul_comm]
theorem Cd (r s M : Nat) (A : Nat -> Nat -> Int) (hs : s < r) (hA : ∀ k j, k < r -> j < s -> (A k j).natAbs <= M) :
 ∃ x : Nat -> Int, (∃ k, k < r /\ x k ≠ 0) /\ (∀ k, k < r -> (x k).natAbs <= (2 * r * M + 1) ^ s) /\ ∀ j, j < s -> sm r (fun k => x k * A k j) = 0 := by
 obtain ⟨T, hT⟩ : ∃ T, (2 * r * M + 1) ^ s = T := ⟨_, rfl⟩;obtain ⟨V, hV⟩ : ∃ V, r * (T * M) = V := ⟨_, rfl⟩;have hTp : 0 < T := by rw [<- hT]; exact Nat.pow_pos (by omega)
 have hy : ∀ n j, j < s -> (sm r (fun k => ((n / (T + 1) ^ k % (T + 1) : Nat) : Int) * A k j)).natAbs <= V := by
  intro n j hj;rw [<- hV];refine qy (fun k hk => ?_);rw [Int.natAbs_mul, Int.natAbs_natCast];have h1 : n / (T + 1) ^ k % (T + 1) < T + 1 := Nat.mod_lt _ (by omega);exact Nat.mul_le_mul (by omega) (hA k j hk hj)
 have hQ : (2 * V + 1) ^ s < (T + 1) ^ r := by
  have h1 : 2 * V + 1 <= (2 * r * M + 1) * (T + 1) := by
   have e1 : (2 * r * M + 1) * (T + 1) = 2 * r * M * T + 2 * r * M + T + 1 := by
    rw [Nat.mul_add, Nat.add_mul]; omega
   have e2 : 2 * r * M * T = 2 * V := by
    rw [<- hV]; simp only [Nat.mul_assoc, Nat.mul_comm, Nat.mul_left_comm]
   omega
  have h2 : (2 * V + 1) ^ s <= T * (T + 1) ^ s := by
   rw [<- hT, <- Nat.mul_pow, hT]; exact Nat.pow_le_pow_left h1 s
  have h3 : T * (T + 1) ^ s < (T + 1) ^ (s + 1) := by
   rw [Nat.pow_succ, Nat.mul_comm];exact Nat.mul_lt_mul_of_pos_left (by omega) (Nat.pow_pos (by omega))
  have h4 : (T + 1) ^ (s + 1) <= (T + 1) ^ r := Nat.pow_le_pow_right (by omega) hs;omega
 obtain ⟨i, j, hij, hj, he⟩ := qI ((2 * V + 1) ^ s) (fun n => jX (2 * V + 1) (fun q => (sm r (fun k => ((n / (T + 1) ^ k % (T + 1) : Nat) : Int) * A k q) + V).toNat % (2 * V + 1)) s) (fun i _ => np (fun q _ => Nat.mod_lt _ (by omega)));have hq := rP (fun q _ => Nat.mod_lt _ (by omega)) (fun q _ => Nat.mod_lt _ (by omega)) he;refine ⟨fun k => ((j / (T + 1) ^ k % (T + 1) : Nat) : Int) - ((i / (T + 1) ^ k % (T + 1) : Nat) : Int), ?_, ?_, ?_⟩
 . by_cases hc : ∃ k, k < r /\ j / (T + 1) ^ k % (T + 1) ≠ i / (T + 1) ^ k % (T + 1)
   . obtain ⟨k, hk, hne⟩ := hc;refine ⟨k, hk, ?_⟩
     revert hne
     dsimp only;generalize j / (T + 1) ^ k % (T + 1) = a;generalize i / (T + 1) ^ k % (T + 1) = b;omega
   . exfalso;have hall : ∀ k, k < r -> j / (T + 1) ^ k % (T + 1) = i / (T + 1) ^ k % (T + 1) := fun k hk => Classical.byContradiction fun h => hc ⟨k, hk, h⟩;have e1 := jA (T + 1) i r;have e2 := jA (T + 1) j r;have e3 : ∀ s', s' <= r -> jX (T + 1) (fun k => j / (T + 1) ^ k % (T + 1)) s' = jX (T + 1) (fun k => i / (T + 1) ^ k % (T + 1)) s' := by
      intro s' hs';induction s' with
      | zero => rfl
      | succ q ih => simp only [jX]; rw [ih (by omega), hall q (by omega)]
     have e4 := e3 r (Nat.le_refl _);rw [e1, e2, Nat.mod_eq_of_lt (by omega), Nat.mod_eq_of_lt (by omega)] at e4;omega
 . intro k hk;have h1 : j / (T + 1) ^ k % (T + 1) < T + 1 := Nat.mod_lt _ (by omega);have h2 : i / (T + 1) ^ k % (T + 1) < T + 1 := Nat.mod_lt _ (by omega);rw [hT]
   revert h1 h2
   dsimp only;generalize j / (T + 1) ^ k % (T + 1) = a;generalize i / (T + 1) ^ k % (T + 1) = b;omega
 . intro q hq';have h1 := hq q hq';have h2 := hy i q hq';have h3 := hy j q hq';have h4 : sm r (fun k => (((j / (T + 1) ^ k % (T + 1) : Nat) : Int) - ((i / (T + 1) ^ k % (T + 1) : Nat) : Int)) * A k q) = sm r (fun k => ((j / (T + 1) ^ k % (T + 1) : Nat) : Int) * A k q) - sm r (fun k => ((i / (T + 1) ^ k % (T + 1) : Nat) : Int) * A k q) := by
    rw [<- CP]; exact aE (fun k _ => Int.sub_mul ..)
   dsimp only at h1 |-;rw [h4];generalize sm r (fun k => ((j / (T + 1) ^ k % (T + 1) : Nat) : Int) * A k q) = a at *;generalize sm r (fun k => ((i / (T + 1) ^ k % (T + 1) : Nat) : Int) * A k q) = b at *;rw [Nat.mod_eq_of_lt (by omega), Nat.mod_eq_of_lt (by omega)] at h1;omega
def Sp (n : Nat) (E : Nat -> Nat -> Int) (v : Nat -> Int) : Prop := ∃ x : Nat -> Int, ∀ j, v j = sm n (fun k => x k * E k j)
theorem Sp.zero (n : Nat) (E : Nat -> Nat -> Int) : Sp n E (fun _ => 0) := ⟨fun _ => 0, fun j => (cQ (fun k _ => Int.zero_mul _)).symm⟩
theorem Sp.congr {n : Nat} {E : Nat -> Nat -> Int} {v w : Nat -> Int} (h : Sp n E v) (e : ∀ j, w j = v j) : Sp n E w := by
 obtain ⟨x, hx⟩ := h;exact ⟨x, fun j => (e j).trans (hx j)⟩
theorem Sp.add {n : Nat} {E : Nat -> Nat -> Int} {v w : Nat -> Int} (h : Sp n E v) (k : Sp n E w) : Sp n E (fun j => v j + w j) := by
 obtain ⟨x, hx⟩ := h; obtain ⟨y, hy⟩ := k;refine ⟨fun k => x k + y k, fun j => ?_⟩;show v j + w j = _;rw [hx, hy, <- qS]; exact aE (fun k _ => (Int.add_mul ..).symm)
theorem Sp.smul {n : Nat} {E : Nat -> Nat -> Int} {v : Nat -> Int} (c : Int) (h : Sp n E v) : Sp n E (fun j => c * v j) := by
 obtain ⟨x, hx⟩ := h;refine ⟨fun k => c * x k, fun j => ?_⟩;show c * v j = _;rw [hx, <- eX]; exact aE (fun k _ => (Int.mul_assoc ..).symm)
theorem Sp.sub {n : Nat} {E : Nat -> Nat -> Int} {v w : Nat -> Int} (h : Sp n E v) (k : Sp n E w) : Sp n E (fun j => v j - w j) :=
 (h.add (k.smul (-1))).congr (fun j => by omega)
theorem Sp.row {n : Nat} (E : Nat -> Nat -> Int) {k : Nat} (hk : k < n) : Sp n E (E k) := by
 refine ⟨fun i => if i = k then 1 else 0, fun j => ?_⟩;rw [j9 k hk (fun i _ hne => by simp [hne])]; simp
theorem Sp.sm {n m : Nat} {E : Nat -> Nat -> Int} {F : Nat -> Nat -> Int} {x : Nat -> Int} (h : ∀ k, k < m -> Sp n E (F k)) : Sp n E (fun j => sm m (fun k => x k * F k j)) := by
 induction m with
 | zero => exact Sp.zero n E
 | succ m ih => exact (ih (fun k hk => h k (by omega))).add ((h m (by omega)).smul (x m))
theorem Sp.trans {n m : Nat} {E F : Nat -> Nat -> Int} {v : Nat -> Int} (hv : Sp m F v) (h : ∀ k, k < m -> Sp n E (F k)) : Sp n E v := by
 obtain ⟨x, hx⟩ := hv;exact (Sp.sm (x := x) h).congr hx
def bj (n : Nat) (E : Nat -> Nat -> Int) (m : Nat) (F : Nat -> Nat -> Int) : Prop := (∀ k, k < n -> Sp m F (E k)) /\ ∀ k, k < m -> Sp n E (F k)
theorem bj.refl (n : Nat) (E : Nat -> Nat -> Int) : bj n E n E := ⟨fun k hk => Sp.row E hk, fun k hk => Sp.row E hk⟩
theorem bj.symm {n m : Nat} {E F : Nat -> Nat -> Int} (h : bj n E m F) : bj m F n E := ⟨h.2, h.1⟩
theorem bj.trans {n m l : Nat} {E F G : Nat -> Nat -> Int} (h : bj n E m F) (k : bj m F l G) : bj n E l G :=
 ⟨fun i hi => (h.1 i hi).trans k.1, fun i hi => (k.2 i hi).trans h.2⟩
theorem bj.of_eq {n : Nat} {E F : Nat -> Nat -> Int} (h : ∀ k, k < n -> ∀ j, E k j = F k j) : bj n E n F :=
 ⟨fun k hk => (Sp.row F hk).congr (h k hk), fun k hk => (Sp.row E hk).congr (fun j => (h k hk j).symm)⟩
structure Ech (n c : Nat) (E : Nat -> Nat -> Int) (l : Nat -> Nat) : Prop where
 inc : ∀ i k, i < k -> k < n -> l i < l k
 lt : ∀ i, i < n -> l i < c
 zero : ∀ i, i < n -> ∀ j, j < l i -> E i j = 0
 pos : ∀ i, i < n -> 0 < E i (l i)
structure eU (n c : Nat) (E : Nat -> Nat -> Int) (l : Nat -> Nat) : Prop extends Ech n c E l where
 red : ∀ i k, i < k -> k < n -> 0 <= E i (l k) /\ E i (l k) < E k (l k)
theorem Ech.at {n c : Nat} {E : Nat -> Nat -> Int} {l : Nat -> Nat} (h : Ech n c E l) (x : Nat -> Int) {k : Nat} (hk : k < n) (h0 : ∀ i, i < k -> x i = 0) : sm n (fun i => x i * E i (l k)) = x k * E k (l k) := by
 refine j9 k hk (fun i hi hne => ?_);rcases Nat.lt_or_gt_of_ne hne with hlt | hgt
 . rw [h0 i hlt, Int.zero_mul]
 . rw [h.zero i hi _ (h.inc k i hgt hi), Int.mul_zero]
theorem Ech.small {n c : Nat} {E : Nat -> Nat -> Int} {l : Nat -> Nat} (h : Ech n c E l) (x : Nat -> Int) : ∀ m, m <= n -> (∀ k, k < m -> (sm n (fun i => x i * E i (l k))).natAbs < (E k (l k)).natAbs) -> ∀ k, k < m -> x k = 0
 | 0, _, _, k, hk => by omega
 | m + 1, hm, hs, k, hk => by
  have ih := Ech.small h x m (by omega) (fun k hk => hs k (by omega));by_cases e : k = m
  . subst e;have h1 := hs k (by omega);rw [h.at x (by omega) ih, Int.natAbs_mul] at h1;have h2 : ¬ 0 < (x k).natAbs := fun h3 => by
     have := Nat.mul_le_mul_right (E k (l k)).natAbs h3;omega
    omega
  . exact ih k (by omega)
theorem Ech.none {n c : Nat} {E : Nat -> Nat -> Int} {l : Nat -> Nat} (h : Ech n c E l) {v : Nat -> Int} (hv : Sp n E v) (hs : ∀ k, k < n -> (v (l k)).natAbs < (E k (l k)).natAbs) (j : Nat) : v j = 0 := by
 obtain ⟨x, hx⟩ := hv;have h0 := h.small x n (Nat.le_refl _) (fun k hk => by rw [<- hx]; exact hs k hk);rw [hx, cQ (fun k hk => by rw [h0 k hk, Int.zero_mul])]
theorem Ech.Bp {n c : Nat} {E : Nat -> Nat -> Int} {l : Nat -> Nat} (h : Ech n c E l) {v : Nat -> Int} (hv : Sp n E v) (hs : ∀ k, k < n -> v (l k) = 0) (j : Nat) : v j = 0 :=
 h.none hv (fun k hk => by have := h.pos k hk; rw [hs k hk]; omega) j
theorem Ech.lead {n c : Nat} {E : Nat -> Nat -> Int} {l : Nat -> Nat} (h : Ech n c E l) {v : Nat -> Int} (hv : Sp n E v) {q : Nat} (hq : v q ≠ 0) (h0 : ∀ j, j < q -> v j = 0) : ∃ k, k < n /\ l k = q /\ E k q ∣ v q := by
 obtain ⟨x, hx⟩ := hv;have key : ∀ m, m <= n -> (∃ k, k < m /\ l k = q /\ E k q ∣ v q) \/ (∀ k, k < m -> x k = 0 \/ q < l k) := by
  intro m;induction m with
  | zero => exact fun _ => .inr (fun k hk => by omega)
  | succ m ih =>
   intro hm;rcases ih (by omega) with h1 | h1
   . obtain ⟨k, hk, h2⟩ := h1; exact .inl ⟨k, by omega, h2⟩
   . by_cases hlt : q < l m
     . exact .inr (fun k hk => by
        by_cases e : k = m
        . subst e; exact .inr hlt
        . exact h1 k (by omega))
     . have hz : ∀ i, i < m -> x i = 0 := fun i hi => (h1 i hi).elim id (fun h2 => by have := h.inc i m hi (by omega); omega);have h3 := h.at x (by omega : m < n) hz;rw [<- hx] at h3;by_cases e : l m = q
       . refine .inl ⟨m, by omega, e, ?_⟩;rw [e] at h3; rw [h3]; exact Int.dvd_mul_left ..
       . have h4 : v (l m) = 0 := h0 _ (by omega);rw [h4] at h3;have h5 := h.pos m (by omega);have h6 : x m = 0 := by
          rcases Int.mul_eq_zero.1 h3.symm with h7 | h7
          . exact h7
          . omega
         exact .inr (fun k hk => by
          by_cases e : k = m
          . subst e; exact .inl h6
          . exact .inl (hz k (by omega)))
 rcases key n (Nat.le_refl _) with h1 | h1
 . exact h1
 . exfalso;apply hq;rw [hx];refine cQ (fun k hk => ?_);rcases h1 k hk with h2 | h2
   . rw [h2, Int.zero_mul]
   . rw [h.zero k hk _ h2, Int.mul_zero]
theorem Ech.same {n m c c' : Nat} {E F : Nat -> Nat -> Int} {l l' : Nat -> Nat} (h : Ech n c E l) (h' : Ech m c' F l') (hs : bj n E m F) : n = m /\ ∀ k, k < n -> l k = l' k /\ E k (l k) = F k (l k) := by
 have one : ∀ {n m c c' : Nat} {E F : Nat -> Nat -> Int} {l l' : Nat -> Nat}, Ech n c E l -> Ech m c' F l' -> bj n E m F -> ∀ k, (∀ i, i < k -> i < n -> i < m -> l i = l' i) -> k < n -> (∀ i, i < k -> i < m) -> k < m /\ l' k <= l k /\ ∀ t, t < m -> l' t = l k -> F t (l k) ∣ E k (l k) := by
  intro n m c c' E F l l' h h' hs k ih hk hkm;obtain ⟨t, ht, e, hd⟩ := h'.lead (hs.1 k hk) (q := l k) (by have := h.pos k hk; omega) (h.zero k hk);have h1 : k <= t := by
   by_cases h2 : k <= t
   . exact h2
   . exfalso;have h3 := ih t (by omega) (by omega) ht;have h4 := h.inc t k (by omega) hk;omega
  have h2 : k < m := by omega
  refine ⟨h2, ?_, ?_⟩
  . rcases Nat.lt_or_eq_of_le h1 with h3 | h3
    . have := h'.inc k t h3 ht; omega
    . subst h3; omega
  . intro t' ht' e';have : t' = t := by
     rcases Nat.lt_trichotomy t' t with h3 | h3 | h3
     . have := h'.inc t' t h3 ht; omega
     . exact h3
     . have := h'.inc t t' h3 ht'; omega
    subst this; exact hd
 have all : ∀ k, (k < n ↔ k < m) /\ (k < n -> l k = l' k /\ E k (l k) = F k (l k)) := by
  intro k;induction k using Nat.strongRecOn with
  | _ k ih =>
   have h1 : k < n -> k < m := fun hk => (one h h' hs k (fun i hi hn _ => ((ih i hi).2 hn).1) hk (fun i hi => (ih i hi).1.1 (by omega))).1;have h2 : k < m -> k < n := fun hk => (one h' h hs.symm k (fun i hi hm _ => ((ih i hi).2 ((ih i hi).1.2 hm)).1.symm) hk (fun i hi => (ih i hi).1.2 (by omega))).1;refine ⟨⟨h1, h2⟩, fun hk => ?_⟩;have h3 := one h h' hs k (fun i hi hn _ => ((ih i hi).2 hn).1) hk (fun i hi => (ih i hi).1.1 (by omega));have h4 := one h' h hs.symm k (fun i hi hm _ => ((ih i hi).2 ((ih i hi).1.2 hm)).1.symm) (h1 hk) (fun i hi => (ih i hi).1.2 (by omega));have e : l k = l' k := by omega
   refine ⟨e, ?_⟩;have d1 := h3.2.2 k (h1 hk) e.symm;have d2 := h4.2.2 k hk e;rw [<- e] at d2;have p1 := h.pos k hk;have p2 := h'.pos k (h1 hk);rw [<- e] at p2;exact Int.dvd_antisymm (Int.le_of_lt p1) (Int.le_of_lt p2) d2 d1
 refine ⟨?_, fun k hk => (all k).2 hk⟩;have h1 := (all n).1;have h2 := (all m).1;omega
theorem eU.unique {n m c c' : Nat} {E F : Nat -> Nat -> Int} {l l' : Nat -> Nat} (h : eU n c E l) (h' : eU m c' F l') (hs : bj n E m F) : n = m /\ (∀ k, k < n -> l k = l' k) /\ ∀ k, k < n -> ∀ j, E k j = F k j := by
 obtain ⟨hnm, hl⟩ := h.toEch.same h'.toEch hs;refine ⟨hnm, fun k hk => (hl k hk).1, fun i hi j => ?_⟩;have hw : Sp n E (fun j => E i j - F i j) := (Sp.row E hi).sub (hs.2 i (by omega));have := h.toEch.none hw (fun k hk => ?_) j
 . omega
 . have hlk := hl k hk;have hp := h.pos k hk;rcases Nat.lt_trichotomy k i with h1 | h1 | h1
   . have e1 : E i (l k) = 0 := h.zero i hi _ (h.inc k i h1 hi);have e2 : F i (l k) = 0 := h'.zero i (by omega) _ (by rw [hlk.1]; exact h'.inc k i h1 (by omega));rw [e1, e2]; omega
   . subst h1;have := hlk.2; omega
   . have r1 := h.red i k h1 hk;have r2 := h'.red i k h1 (by omega);rw [<- hlk.1, <- hlk.2] at r2;omega
def rU (n : Nat) (a : Nat -> Nat -> Int) : Prop := ∀ x : Nat -> Int, (∀ j, sm n (fun k => x k * a k j) = 0) -> ∀ k, k < n -> x k = 0
theorem common : ∀ (n : Nat) (Y : Nat -> Int), (∀ k, k < n -> Y k ≠ 0) -> ∃ d : Int, d ≠ 0 /\ ∀ k, k < n -> Y k ∣ d
 | 0, _, _ => ⟨1, by omega, fun k hk => by omega⟩
 | n + 1, Y, h => by
  obtain ⟨d, hd, hk⟩ := common n Y (fun k hk => h k (by omega));refine ⟨d * Y n, fun e => ?_, fun k hk' => ?_⟩
  . rcases Int.mul_eq_zero.1 e with e | e
    . exact hd e
    . exact h n (by omega) e
  . by_cases e : k = n
    . subst e; exact Int.dvd_mul_left ..
    . exact Int.dvd_mul_of_dvd_left (hk k (by omega))
def uY (n M : Nat) : Nat := n * (n * ((2 * n * M + 1) ^ (n - 1) * M)) * (n * ((2 * n * M + 1) ^ (n - 1) * M))
theorem eU.bound {n c M : Nat} {E : Nat -> Nat -> Int} {l : Nat -> Nat} (h : eU n c E l) {a : Nat -> Nat -> Int} (ha : ∀ k, k < n -> Sp n E (a k)) (hi : rU n a) (hM : ∀ k j, k < n -> (a k j).natAbs <= M) : ∀ i j, i < n -> (E i j).natAbs <= uY n M := by
 obtain ⟨D, hD⟩ : ∃ D, n * ((2 * n * M + 1) ^ (n - 1) * M) = D := ⟨_, rfl⟩;have hy : ∀ i, i < n -> ∃ y : Nat -> Int, Sp n E y /\ (∀ j, (y j).natAbs <= D) /\ (∀ k, k < n -> k ≠ i -> y (l k) = 0) /\ y (l i) ≠ 0 := by
  intro i hin;obtain ⟨x, ⟨k0, hk0, hx0⟩, hxb, hxz⟩ := Cd n (n - 1) M (fun k q => a k (l (if q < i then q else q + 1))) (by omega) (fun k j hk _ => hM k _ hk);have hz : ∀ k, k < n -> k ≠ i -> sm n (fun t => x t * a t (l k)) = 0 := by
   intro k hk hne;rcases Nat.lt_or_gt_of_ne hne with h1 | h1
   . have := hxz k (by omega);simpa [h1] using this
   . have := hxz (k - 1) (by omega);have e : ¬ k - 1 < i := by omega
     have e2 : k - 1 + 1 = k := by omega
     simpa [e, e2] using this
  have hsp : Sp n E (fun j => sm n (fun k => x k * a k j)) := Sp.sm ha;refine ⟨fun j => sm n (fun k => x k * a k j), hsp, fun j => ?_, hz, fun e => ?_⟩
  . rw [<- hD];refine qy (fun k hk => ?_);rw [Int.natAbs_mul];exact Nat.mul_le_mul (hxb k hk) (hM k j hk)
  . have h0 := h.toEch.Bp hsp (fun k hk => by
     by_cases e' : k = i
     . subst e'; exact e
     . exact hz k hk e')
    exact hx0 (hi x h0 k0 hk0)
 have hpiv : ∀ i, i < n -> (E i (l i)).natAbs <= D := by
  intro i hin;obtain ⟨y, hs, hb, hz, hn⟩ := hy i hin;obtain ⟨x, hx⟩ := hs;have h0 : ∀ k, k < i -> x k = 0 := h.toEch.small x i (by omega) (fun k hk => by
   rw [<- hx, hz k (by omega) (by omega)]; have := h.pos k (by omega); omega)
  have h1 := h.toEch.at x hin h0;rw [<- hx] at h1;have h2 := hb (l i);rw [h1, Int.natAbs_mul] at h2;have h3 : 1 <= (x i).natAbs := by
   have : x i ≠ 0 := fun e => hn (by rw [h1, e, Int.zero_mul]);omega
  have h4 := Nat.mul_le_mul_right (E i (l i)).natAbs h3;omega
 have hent : ∀ i k, i < n -> k < n -> (E i (l k)).natAbs <= D := by
  intro i k hin hk;rcases Nat.lt_trichotomy i k with h1 | h1 | h1
  . have := h.red i k h1 hk; have := hpiv k hk; omega
  . subst h1; exact hpiv i hin
  . rw [h.zero i hin _ (h.inc k i h1 hin)]; simp
 intro i j hin;obtain ⟨y, hY⟩ : ∃ y : Nat -> Nat -> Int, ∀ i, i < n -> Sp n E (y i) /\ (∀ j, (y i j).natAbs <= D) /\ (∀ k, k < n -> k ≠ i -> y i (l k) = 0) /\ y i (l i) ≠ 0 := by
  refine ⟨fun i => if hin : i < n then Classical.choose (hy i hin) else fun _ => 0, fun i hin => ?_⟩;simp only [hin, dif_pos];exact Classical.choose_spec (hy i hin)
 obtain ⟨d, hd, hdv⟩ := common n (fun k => y k (l k)) (fun k hk => (hY k hk).2.2.2);obtain ⟨q, hq⟩ : ∃ q : Nat -> Int, ∀ k, k < n -> d = q k * y k (l k) := by
  refine ⟨fun k => d / y k (l k), fun k hk => ?_⟩;exact (Int.ediv_mul_cancel (hdv k hk)).symm
 have hsp : Sp n E (fun j => d * E i j - sm n (fun k => (E i (l k) * q k) * y k j)) := ((Sp.row E hin).smul d).sub (Sp.sm (fun k hk => (hY k hk).1));have h0 := h.toEch.Bp hsp (fun m hm => by
  rw [j9 m hm (fun k hk hne => by rw [(hY k hk).2.2.1 m hm (fun e => hne e.symm), Int.mul_zero])];rw [Int.mul_assoc, <- hq m hm, Int.mul_comm]; omega) j
 have hb : (sm n (fun k => (E i (l k) * q k) * y k j)).natAbs <= n * (D * d.natAbs * D) := by
  refine qy (fun k hk => ?_);rw [Int.natAbs_mul, Int.natAbs_mul];have h1 : (q k).natAbs <= d.natAbs := by
   have e := congrArg Int.natAbs (hq k hk);rw [Int.natAbs_mul] at e;have h2 : 1 <= (y k (l k)).natAbs := by have := (hY k hk).2.2.2; omega
   have h3 := Nat.mul_le_mul_left (q k).natAbs h2;omega
  exact Nat.mul_le_mul (Nat.mul_le_mul (hent i k hin hk) h1) ((hY k hk).2.1 j)
 have h1 : (d * E i j).natAbs <= n * (D * d.natAbs * D) := by
  have : d * E i j = sm n (fun k => (E i (l k) * q k) * y k j) := by omega
  rw [this]; exact hb
 rw [Int.natAbs_mul] at h1;have h2 : n * (D * d.natAbs * D) = d.natAbs * (n * D * D) := by
  simp only [Nat.mul_comm, Nat.mul_left_comm, Nat.mul_assoc]
 rw [h2] at h1;have h3 := Nat.le_of_mul_le_mul_left h1 (by omega : 0 < d.natAbs);unfold uY;rw [hD]; exact h3
theorem iJ (xs : List Int) {i : Nat} (d : Int) (h : i < xs.length) : xs.getD i d = xs[i] := by simp [h]
theorem lM (xs : List Int) {i : Nat} (d : Int) (h : xs.length <= i) : xs.getD i d = d := by simp [h]
def Sh (c : Nat) (R : List Hd) : Prop := ∀ h ∈ R, h.xs.length = c
theorem dq {R : List Hd} {i : Nat} (hi : i < R.length) (j : Nat) : aw R i j = R[i].xs.getD j 0 := by
 unfold aw; simp [hi]
theorem gP {R : List Hd} {i : Nat} (hi : R.length <= i) (j : Nat) : aw R i j = 0 := by
 unfold aw; rw [List.getElem?_eq_none hi]; rfl
theorem Sh.get {c : Nat} {R : List Hd} (h : Sh c R) {i : Nat} (hi : i < R.length) : R[i].xs.length = c := h _ (List.getElem_mem hi)
theorem Sh.wide {c : Nat} {R : List Hd} (h : Sh c R) (i : Nat) {j : Nat} (hj : c <= j) : aw R i j = 0 := by
 by_cases hi : i < R.length
 . rw [dq hi, lM _ _ (by rw [h.get hi]; exact hj)]
 . exact gP (by omega) j
theorem Sh.rp {c : Nat} {R : List Hd} (h : Sh c R) (i : Nat) {xs : List Int} (hx : xs.length = c) : Sh c (dL R i xs) := by
 intro r hr;obtain ⟨j, hj, rfl⟩ := List.getElem_of_mem hr;rw [ai] at hj;rw [dT hj];split
 . exact hx
 . exact h.get hj
theorem jT {R : List Hd} {i : Nat} (hi : i < R.length) (xs : List Int) (a b : Nat) : aw (dL R i xs) a b = if a = i then xs.getD b 0 else aw R a b := by
 by_cases ha : a < R.length
 . rw [dq (by rw [ai]; exact ha), dT ha];by_cases e : i = a
   . subst e; simp
   . rw [if_neg e, if_neg (fun h => e h.symm), dq ha]
 . rw [gP (by rw [ai]; omega), if_neg (by omega), gP (by omega)]
theorem j5 {f : Int -> Int -> Int} (hf : f 0 0 = 0) {xs ys : List Int} (h : xs.length = ys.length) (b : Nat) : (List.zipWith f xs ys).getD b 0 = f (xs.getD b 0) (ys.getD b 0) := by
 by_cases hb : b < xs.length
 . have hb2 : b < ys.length := by omega
   have hb3 : b < (List.zipWith f xs ys).length := by simp; omega
   rw [iJ _ _ hb3, iJ _ _ hb, iJ _ _ hb2, List.getElem_zipWith]
 . rw [lM _ _ (by simp; omega), lM _ _ (by omega), lM _ _ (by omega), hf]
theorem nP {c : Nat} {R : List Hd} (hs : Sh c R) {i j : Nat} (hi : i < R.length) (hj : j < R.length) (k : Int) (a b : Nat) : aw (iw R i j k) a b = if a = i then k * aw R j b + aw R i b else aw R a b := by
 rw [nA hi hj]; unfold fk;rw [jT hi];unfold fT;rw [j5 (by simp) (by rw [hs.get hi, hs.get hj]), <- dq hi, <- dq hj]
theorem Sh.vQ {c : Nat} {R : List Hd} (hs : Sh c R) (i j : Nat) (k : Int) : Sh c (iw R i j k) := by
 unfold iw;split
 . rename_i h;unfold fk;exact hs.rp i (by unfold fT; rw [List.length_zipWith, hs.get h.1, hs.get h.2]; omega)
 . exact hs
theorem ly (R : List Hd) (i j : Nat) (k : Int) : (iw R i j k).map Hd.aB = R.map Hd.aB := by
 unfold iw; split
 . exact fE ..
 . rfl
theorem xA {c : Nat} {R : List Hd} (hs : Sh c R) {i j : Nat} (hi : i < R.length) (hj : j < R.length) (hij : i ≠ j) (p q r s : Int) (a b : Nat) : aw (kY R i j p q r s) a b = if a = i then p * aw R i b + q * aw R j b else if a = j then r * aw R i b + s * aw R j b else aw R a b := by
 rw [vt hi hj]; unfold fP;rw [jT (by rw [ai]; exact hj), jT hi];have hl : R[i].xs.length = R[j].xs.length := by rw [hs.get hi, hs.get hj]
 unfold gL;rw [j5 (by simp) hl, j5 (by simp) hl, <- dq hi, <- dq hj];by_cases e : a = i
 . subst e; rw [if_neg hij, if_pos rfl, if_pos rfl]
 . rw [if_neg e, if_neg e]
theorem Sh.mixT_ {c : Nat} {R : List Hd} (hs : Sh c R) (i j : Nat) (p q r s : Int) : Sh c (kY R i j p q r s) := by
 unfold kY;split
 . rename_i h;unfold fP;refine (hs.rp i ?_).rp j ?_ <;> (unfold gL; rw [List.length_zipWith, hs.get h.1, hs.get h.2]; omega)
 . exact hs
theorem yB (R : List Hd) (i j : Nat) (p q r s : Int) : (kY R i j p q r s).map Hd.aB = R.map Hd.aB := by
 unfold kY; split
 . unfold fP; rw [fE, fE]
 . rfl
theorem pH {R : List Hd} {i : Nat} (hi : i < R.length) (a b : Nat) : aw (bZ R i) a b = if a = i then - aw R i b else aw R a b := by
 rw [oO hi]; unfold eL;rw [jT hi, dq hi];split
 . unfold kQ;by_cases hb : b < R[i].xs.length
   . rw [iJ _ _ (by simpa using hb), iJ _ _ hb]; simp
   . rw [lM _ _ (by simp; omega), lM _ _ (by omega)]; rfl
 . rfl
theorem Sh.Ca {c : Nat} {R : List Hd} (hs : Sh c R) (i : Nat) : Sh c (bZ R i) := by
 unfold bZ;split
 . rename_i h;unfold eL;exact hs.rp i (by simp [kQ, hs.get h])
 . exact hs
theorem we {R : List Hd} {i j m : Nat} (hi : i < R.length) (hj : j < R.length) (hm : m < R.length) : (swapT R i j)[m]'(by rw [bQ]; exact hm) = R[swp i j m]'(mf hi hj hm) := by
 have := fC hi hj hm;rw [<- this]; congr 1; exact ir hi hj
theorem pS {R : List Hd} {i j : Nat} (hi : i < R.length) (hj : j < R.length) (a b : Nat) : aw (swapT R i j) a b = aw R (swp i j a) b := by
 by_cases ha : a < R.length
 . rw [dq (by rw [bQ]; exact ha), we hi hj ha, dq]
 . rw [gP (by rw [bQ]; omega), gP];unfold swp; split
   . omega
   . split <;> omega
theorem Sh.xN {c : Nat} {R : List Hd} (hs : Sh c R) (i j : Nat) : Sh c (swapT R i j) := by
 unfold swapT;split
 . rename_i h;intro r hr;obtain ⟨m, hm, rfl⟩ := List.getElem_of_mem hr;rw [bR] at hm;rw [fC h.1 h.2 hm];exact hs.get _
 . exact hs
theorem sy {R : List Hd} {i : Nat} (hi : i < R.length) {c : Nat} (hs : Sh c R) : (aX R i <= c) /\ (∀ b, b < aX R i -> aw R i b = 0) /\ (aX R i < c -> aw R i (aX R i) ≠ 0) := by
 rw [iE hi];have key : ∀ xs : List Int, (∀ b, b < lead xs -> xs.getD b 0 = 0) /\ (lead xs < xs.length -> xs.getD (lead xs) 0 ≠ 0) := by
  intro xs;induction xs with
  | nil => exact ⟨fun b _ => by simp, fun h => by simp at h⟩
  | cons x xs ih =>
   unfold lead;by_cases hx : x = 0
   . rw [if_pos hx];refine ⟨fun b hb => ?_, fun h => ?_⟩
     . cases b with
       | zero => simpa using hx
       | succ b => rw [List.getD_cons_succ]; exact ih.1 b (by omega)
     . rw [List.getD_cons_succ]; exact ih.2 (by simpa using h)
   . rw [if_neg hx];exact ⟨fun b hb => by omega, fun _ => by simpa using hx⟩
 have hl := hs.get hi;have h1 := key R[i].xs;refine ⟨hl ▸ qJ _, fun b hb => ?_, fun h => ?_⟩
 . rw [dq hi]; exact h1.1 b hb
 . rw [dq hi]; exact h1.2 (by omega)
theorem pK {R : List Hd} {i : Nat} (hi : i < R.length) {c : Nat} (hs : Sh c R) {j : Nat} (h0 : ∀ b, b < j -> aw R i b = 0) (hj : aw R i j ≠ 0) : aX R i = j := by
 have h1 := sy hi hs;have hjc : j < c := by
  by_cases h : j < c
  . exact h
  . exact absurd (hs.wide i (by omega)) hj
 rcases Nat.lt_trichotomy (aX R i) j with h | h | h
 . exact absurd (h0 _ h) (h1.2.2 (by omega))
 . exact h
 . exact absurd (h1.2.1 _ h) hj
theorem Fit.of {B c : Nat} {R : List Hd} (hs : Sh c R) (h : ∀ a b, (aw R a b).natAbs < W ^ B) : Fit B c R := by
 refine ⟨hs, fun r hr x hx => ?_⟩;obtain ⟨i, hi, rfl⟩ := List.getElem_of_mem hr;obtain ⟨j, hj, rfl⟩ := List.getElem_of_mem hx;have := h i j;rw [dq hi, iJ _ _ hj] at this;exact an this
/-! Bounds by powers of the base. -/
theorem yd {u v : Nat} (h : u <= v) : W ^ u <= W ^ v := Nat.pow_le_pow_right bE h
theorem jD {n u v : Nat} (h : n < W ^ u) (k : u <= v) : n < W ^ v := Nat.lt_of_lt_of_le h (yd k)
theorem gV (u : Nat) : 0 < W ^ u := Nat.pow_pos bE
theorem pG {k y x u d : Nat} (hk : k < W ^ u) (hy : y < W ^ d) (hx : x < W ^ u) : k * y + x < W ^ (u + d) := by
 have h1 : (k + 1) * W ^ d <= W ^ u * W ^ d := Nat.mul_le_mul_right _ hk;have h2 : k * (y + 1) <= k * W ^ d := Nat.mul_le_mul_left _ hy;rw [Nat.pow_add];rw [Nat.succ_mul] at h1;rw [Nat.mul_add, Nat.mul_one] at h2;have h3 : W ^ u <= W ^ u * W ^ d := by have := Nat.mul_le_mul_left (W ^ u) (gV d); omega
 by_cases hk0 : k = 0
 . subst hk0; omega
 . have h4 : k * y + k <= k * W ^ d := h2;have h5 : (W ^ u - 1) * y + (W ^ u - 1) <= (W ^ u - 1) * W ^ d := by
    have := Nat.mul_le_mul_left (W ^ u - 1) hy;rw [Nat.mul_succ] at this; exact this
   have h6 : k * y <= (W ^ u - 1) * y := Nat.mul_le_mul_right _ (by omega);have h7 : (W ^ u - 1) * W ^ d < W ^ u * W ^ d := Nat.mul_lt_mul_of_pos_right (by have := gV u; omega) (gV d);omega
theorem ke (k y x : Int) : (k * y + x).natAbs <= k.natAbs * y.natAbs + x.natAbs := by
 have := Int.natAbs_add_le (k * y) x
 rwa [Int.natAbs_mul] at this
theorem vw {x y : Int} (hy : 0 < y) : (x.fdiv y).natAbs <= x.natAbs := by
 rw [Int.fdiv_eq_ediv_of_nonneg _ (Int.le_of_lt hy)];exact Int.natAbs_ediv_le_natAbs x y
theorem rD {x y : Int} (hy : 0 < y) : 0 <= x.fmod y /\ x.fmod y < y := by
 rw [Int.fmod_eq_emod_of_nonneg _ (Int.le_of_lt hy)];exact ⟨Int.emod_nonneg _ (by omega), Int.emod_lt_of_pos _ hy⟩
theorem qv {x y : Int} (hy : 0 < y) : -(x.fdiv y) * y + x = x.fmod y := by
 rw [Int.fdiv_eq_ediv_of_nonneg _ (Int.le_of_lt hy), Int.fmod_eq_emod_of_nonneg _ (Int.le_of_lt hy), Int.emod_def, Int.mul_comm y, Int.neg_mul]; omega
/-! settle. -/
def kz (ls : List Nat) (i : Nat) : Nat -> Nat -> List Hd -> List Hd
 | 0, _, R => R
 | f + 1, k, R => kz ls i f (k + 1) (iw R i k (-((aw R i (ls.getD k 0)).fdiv (aw R k (ls.getD k 0)))))
def vd (ls : List Nat) (n : Nat) : Nat -> List Hd -> List Hd
 | 0, R => R
 | m + 1, R => vd ls n m (kz ls m (n - (m + 1)) (m + 1) R)
theorem bj.add {n : Nat} {E F : Nat -> Nat -> Int} {i k : Nat} (hi : i < n) (hk : k < n) (hik : i ≠ k) (q : Int) (h : ∀ a b, F a b = if a = i then q * E k b + E i b else E a b) : bj n E n F := by
 refine ⟨fun a ha => ?_, fun a ha => ?_⟩
 . by_cases e : a = i
   . subst e;refine ((Sp.row F ha).add ((Sp.row F hk).smul (-q))).congr (fun j => ?_);rw [h a j, if_pos rfl, h k j, if_neg (fun e => hik e.symm), Int.neg_mul]; omega
   . exact (Sp.row F ha).congr (fun j => by rw [h, if_neg e])
 . by_cases e : a = i
   . subst e;refine (((Sp.row E hk).smul q).add (Sp.row E ha)).congr (fun j => ?_);rw [h, if_pos rfl]
   . exact (Sp.row E ha).congr (fun j => by rw [h, if_neg e])
structure yr (n c i k : Nat) (l : Nat -> Nat) (R R' : List Hd) : Prop where
 same : ∀ a, a ≠ i -> ∀ b, aw R' a b = aw R a b
 low : ∀ b, (∀ m, k <= m -> m < n -> b < l m) -> aw R' i b = aw R i b
 red : ∀ m, k <= m -> m < n -> 0 <= aw R' i (l m) /\ aw R' i (l m) < aw R m (l m)
 sh : Sh c R'
 len : R'.length = R.length
 aB : R'.map Hd.aB = R.map Hd.aB
 sp : bj n (aw R) n (aw R')
theorem Ech.add {n c : Nat} {E F : Nat -> Nat -> Int} {l : Nat -> Nat} (h : Ech n c E l) {i k : Nat} (hik : i < k) (hk : k < n) (q : Int) (e : ∀ a b, F a b = if a = i then q * E k b + E i b else E a b) : Ech n c F l := by
 refine ⟨h.inc, h.lt, fun a ha j hj => ?_, fun a ha => ?_⟩
 . rw [e]; split
   . rename_i e'; subst e';rw [h.zero k hk j (by have := h.inc a k hik hk; omega), h.zero a ha j hj]; simp
   . exact h.zero a ha j hj
 . rw [e]; split
   . rename_i e'; subst e';rw [h.zero k hk _ (h.inc a k hik hk)]; have := h.pos a ha; simpa using this
   . exact h.pos a ha
theorem r8 {n c i : Nat} {l : Nat -> Nat} {ls : List Nat} (hls : ∀ k, k < n -> ls.getD k 0 = l k) : ∀ (f k : Nat) (R : List Hd), k + f = n -> i < k -> Sh c R -> n <= R.length -> Ech n c (aw R) l -> yr n c i k l R (kz ls i f k R)
 | 0, k, R, hf, hik, hs, hn, hE => ⟨fun _ _ _ => rfl, fun _ _ => rfl, fun m h1 h2 => by omega, hs, rfl, rfl, bj.refl _ _⟩
 | f + 1, k, R, hf, hik, hs, hn, hE => by
  have hk : k < n := by omega
  have he := fun (a b : Nat) => nP hs (i := i) (j := k) (by omega) (by omega) (-((aw R i (ls.getD k 0)).fdiv (aw R k (ls.getD k 0)))) a b;have ih := r8 (i := i) hls f (k + 1) (iw R i k (-((aw R i (ls.getD k 0)).fdiv (aw R k (ls.getD k 0))))) (by omega) (by omega) (hs.vQ i k _) (by rw [dK]; exact hn) (hE.add hik hk _ he);rw [hls k hk] at he;have hp := hE.pos k hk;refine ⟨fun a ha b => ?_, fun b hb => ?_, fun m hm hmn => ?_, ih.sh, ih.len.trans (dK ..), ih.aB.trans (ly ..), (bj.add (by omega) hk (by omega) _ he).trans (by rw [<- hls k hk]; exact ih.sp)⟩
  . show aw (kz ls i f (k + 1) _) a b = _;rw [ih.same a ha b, hls k hk, he, if_neg ha]
  . show aw (kz ls i f (k + 1) _) i b = _;rw [ih.low b (fun m h1 h2 => hb m (by omega) h2), hls k hk, he, if_pos rfl, hE.zero k hk b (hb k (Nat.le_refl _) hk)]; omega
  . by_cases e : m = k
    . subst e;show 0 <= aw (kz ls i f (m + 1) _) i (l m) /\ aw (kz ls i f (m + 1) _) i (l m) < _;rw [ih.low (l m) (fun q h1 h2 => hE.inc m q (by omega) h2), hls m hk, he, if_pos rfl, qv hp];exact rD hp
    . have h1 := ih.red m (by omega) hmn;rw [hls k hk, he m, if_neg (by omega)] at h1;show 0 <= aw (kz ls i f (k + 1) _) i (l m) /\ aw (kz ls i f (k + 1) _) i (l m) < _;rw [hls k hk];exact h1
theorem Ech.congr {n c : Nat} {E F : Nat -> Nat -> Int} {l : Nat -> Nat} (h : Ech n c E l) (e : ∀ a, a < n -> ∀ b, F a b = E a b) : Ech n c F l :=
 ⟨h.inc, h.lt, fun a ha j hj => (e a ha j).trans (h.zero a ha j hj), fun a ha => by rw [e a ha]; exact h.pos a ha⟩
theorem yr.rT {n c i k : Nat} {l : Nat -> Nat} {R R' : List Hd} (h : yr n c i k l R R') (hE : Ech n c (aw R) l) (hik : i < k) (hin : i < n) : Ech n c (aw R') l := by
 have hlow : ∀ b, b <= l i -> aw R' i b = aw R i b := fun b hb => h.low b (fun m h1 h2 => by have := hE.inc i m (by omega) h2; omega);refine ⟨hE.inc, hE.lt, fun a ha j hj => ?_, fun a ha => ?_⟩
 . by_cases e : a = i
   . subst e; rw [hlow j (by omega)]; exact hE.zero a ha j hj
   . rw [h.same a e]; exact hE.zero a ha j hj
 . by_cases e : a = i
   . subst e; rw [hlow _ (Nat.le_refl _)]; exact hE.pos a ha
   . rw [h.same a e]; exact hE.pos a ha
structure yL (n c m : Nat) (l : Nat -> Nat) (R R' : List Hd) : Prop where
 same : ∀ a, m <= a -> ∀ b, aw R' a b = aw R a b
 herm : eU n c (aw R') l
 sh : Sh c R'
 len : R'.length = R.length
 aB : R'.map Hd.aB = R.map Hd.aB
 sp : bj n (aw R) n (aw R')
theorem lJ {n c : Nat} {l : Nat -> Nat} {ls : List Nat} (hls : ∀ k, k < n -> ls.getD k 0 = l k) : ∀ (m : Nat) (R : List Hd), m <= n -> Sh c R -> n <= R.length -> Ech n c (aw R) l -> (∀ i k, m <= i -> i < k -> k < n -> 0 <= aw R i (l k) /\ aw R i (l k) < aw R k (l k)) -> yL n c m l R (vd ls n m R)
 | 0, R, hm, hs, hn, hE, hr => ⟨fun _ _ _ => rfl, ⟨hE, fun i k => hr i k (Nat.zero_le _)⟩, hs, rfl, rfl, bj.refl _ _⟩
 | m + 1, R, hm, hs, hn, hE, hr => by
  have h1 := r8 (i := m) hls (n - (m + 1)) (m + 1) R (by omega) (by omega) hs hn hE;have h2 := lJ hls m (kz ls m (n - (m + 1)) (m + 1) R) (by omega) h1.sh (by rw [h1.len]; exact hn) (h1.rT hE (by omega) (by omega)) (fun i k hi hik hk => by
   by_cases e : i = m
   . subst e;rw [h1.same k (by omega)];exact h1.red k (by omega) hk
   . rw [h1.same i e, h1.same k (by omega)];exact hr i k (by omega) hik hk)
  exact ⟨fun a ha b => (h2.same a (by omega) b).trans (h1.same a (by omega) b), h2.herm, h2.sh, h2.len.trans h1.len, h2.aB.trans h1.aB, h1.sp.trans h2.sp⟩
theorem yk {n c i B δ : Nat} {l : Nat -> Nat} {ls : List Nat} (hls : ∀ k, k < n -> ls.getD k 0 = l k) : ∀ (f k u : Nat) (R : List Hd), k + f = n -> i < k -> Sh c R -> n <= R.length -> Ech n c (aw R) l ->
 (∀ a b, (aw R a b).natAbs < W ^ B) -> (∀ b, (aw R i b).natAbs < W ^ u) -> (∀ a, k <= a -> a < n -> ∀ b, (aw R a b).natAbs < W ^ δ) -> u + f * δ <= B -> qU7 B c ls i n k R (kz ls i f k R)
 | 0, k, u, R, hf, hik, hs, hn, hE, hB, hu, hd, hb => .done (by omega)
 | f + 1, k, u, R, hf, hik, hs, hn, hE, hB, hu, hd, hb => by
  have hk : k < n := by omega
  have he := fun (a b : Nat) => nP hs (i := i) (j := k) (by omega) (by omega) (-((aw R i (ls.getD k 0)).fdiv (aw R k (ls.getD k 0)))) a b;have hp := hE.pos k hk;have hq : ((aw R i (ls.getD k 0)).fdiv (aw R k (ls.getD k 0))).natAbs < W ^ u := by
   rw [hls k hk];exact Nat.lt_of_le_of_lt (vw hp) (hu _)
  have hrow : ∀ b, (aw (iw R i k (-((aw R i (ls.getD k 0)).fdiv (aw R k (ls.getD k 0))))) i b).natAbs < W ^ (u + δ) := by
   intro b;rw [he, if_pos rfl];refine Nat.lt_of_le_of_lt (ke _ _ _) ?_;rw [Int.natAbs_neg];exact pG hq (hd k (Nat.le_refl _) hk b) (hu b)
  have e1 : (f + 1) * δ = f * δ + δ := Nat.succ_mul ..;refine .step hk (Fit.of hs hB) (by rw [hls k hk]; exact hE.lt k hk) (by rw [hls k hk]; omega) ?_;refine yk (δ := δ) hls f (k + 1) (u + δ) _ (by omega) (by omega) (hs.vQ i k _) (by rw [dK]; exact hn) (hE.add hik hk _ he) (fun a b => ?_) hrow (fun a h1 h2 b => ?_) (by omega)
  . by_cases e : a = i
    . subst e; exact jD (hrow b) (by omega)
    . rw [he, if_neg e]; exact hB a b
  . rw [he, if_neg (by omega)]; exact hd a (by omega) h2 b
theorem vf {n c B δ u : Nat} {l : Nat -> Nat} {ls : List Nat} (hls : ∀ k, k < n -> ls.getD k 0 = l k) (hb : u + n * δ <= B) : ∀ (m : Nat) (R : List Hd), m <= n -> Sh c R -> n <= R.length -> Ech n c (aw R) l -> (∀ i k, m <= i -> i < k -> k < n -> 0 <= aw R i (l k) /\ aw R i (l k) < aw R k (l k)) ->
 (∀ a b, (aw R a b).natAbs < W ^ B) -> (∀ a, a < m -> ∀ b, (aw R a b).natAbs < W ^ u) -> (∀ a, a < n -> ∀ b, (aw (vd ls n m R) a b).natAbs < W ^ δ) -> iF B c ls n m R (vd ls n m R)
 | 0, R, hm, hs, hn, hE, hr, hB, hu, hd => .done
 | m + 1, R, hm, hs, hn, hE, hr, hB, hu, hd => by
  have hout := lJ hls (m + 1) R hm hs hn hE hr;have h1 := r8 (i := m) hls (n - (m + 1)) (m + 1) R (by omega) (by omega) hs hn hE;have hr1 : ∀ i k, m <= i -> i < k -> k < n -> 0 <= aw (kz ls m (n - (m + 1)) (m + 1) R) i (l k) /\ aw (kz ls m (n - (m + 1)) (m + 1) R) i (l k) < aw (kz ls m (n - (m + 1)) (m + 1) R) k (l k) := fun i k hi hik hk => by
   by_cases e : i = m
   . subst e;rw [h1.same k (by omega)];exact h1.red k (by omega) hk
   . rw [h1.same i e, h1.same k (by omega)];exact hr i k (by omega) hik hk
  have h2 := lJ hls m (kz ls m (n - (m + 1)) (m + 1) R) (by omega) h1.sh (by rw [h1.len]; exact hn) (h1.rT hE (by omega) (by omega)) hr1;have hmul : (n - (m + 1)) * δ <= n * δ := Nat.mul_le_mul_right _ (by omega);have hδ : δ <= n * δ := by have := Nat.mul_le_mul_right δ (show 1 <= n by omega); omega
  refine .step (yk (δ := δ) hls (n - (m + 1)) (m + 1) u R (by omega) (by omega) hs hn hE hB (fun b => hu m (by omega) b) (fun a h3 h4 b => ?_) (by omega)) ?_
  . rw [<- hout.same a h3 b]; exact hd a h4 b
  . refine vf hls hb m _ (by omega) h1.sh (by rw [h1.len]; exact hn) (h1.rT hE (by omega) (by omega)) hr1 (fun a b => ?_) (fun a ha b => ?_) hd
    . by_cases e : a = m
      . subst e;rw [<- h2.same a (Nat.le_refl _) b];exact jD (hd a (by omega) b) (by omega)
      . rw [h1.same a e]; exact hB a b
    . rw [h1.same a (by omega)]; exact hu a (by omega) b
/-! meet. -/
theorem BU (a b : Int) (hb : b ≠ 0) : a * fv a b + b * iQ a b = dz a b := by
 have h := kE a b;unfold fM at h;rw [if_neg hb] at h;exact h.2.2.2
theorem bj.two {N : Nat} {E F : Nat -> Nat -> Int} {k n : Nat} (hk : k < N) (hn : n < N) (hkn : k ≠ n) (hs : ∀ a, a ≠ k -> a ≠ n -> ∀ b, F a b = E a b)
 {x y z t x' y' z' t' : Int} (h1 : ∀ b, F k b = x * E k b + y * E n b) (h2 : ∀ b, F n b = z * E k b + t * E n b) (h3 : ∀ b, E k b = x' * F k b + y' * F n b) (h4 : ∀ b, E n b = z' * F k b + t' * F n b) : bj N E N F := by
 refine ⟨fun a ha => ?_, fun a ha => ?_⟩
 . by_cases e : a = k
   . subst e; exact (((Sp.row F hk).smul x').add ((Sp.row F hn).smul y')).congr h3
   . by_cases e' : a = n
     . subst e'; exact (((Sp.row F hk).smul z').add ((Sp.row F hn).smul t')).congr h4
     . exact (Sp.row F ha).congr (fun j => (hs a e e' j).symm)
 . by_cases e : a = k
   . subst e; exact (((Sp.row E hk).smul x).add ((Sp.row E hn).smul y)).congr h1
   . by_cases e' : a = n
     . subst e'; exact (((Sp.row E hk).smul z).add ((Sp.row E hn).smul t)).congr h2
     . exact (Sp.row E ha).congr (fun j => hs a e e' j)
structure CB (c k n j δ u : Nat) (R R' : List Hd) : Prop where
 same : ∀ a, a ≠ k -> a ≠ n -> ∀ b, aw R' a b = aw R a b
 low : ∀ b, b < j -> aw R' k b = 0
 piv : 0 < aw R' k j
 gone : ∀ b, b <= j -> aw R' n b = 0
 comb : ∃ t s : Int, t ≠ 0 /\ ∀ b, aw R' n b = t * aw R n b + s * aw R k b
 sp : ∀ N, k < N -> n < N -> bj N (aw R) N (aw R')
 bk : ∀ b, (aw R' k b).natAbs < W ^ (u + 2 * δ + 1)
 bn : ∀ b, (aw R' n b).natAbs < W ^ (u + 2 * δ + 1)
 sh : Sh c R'
 len : R'.length = R.length
 aB : R'.map Hd.aB = R.map Hd.aB
theorem me {c : Nat} {R : List Hd} (hs : Sh c R) {k n : Nat} (hk : k < R.length) (hn : n < R.length) (j a b : Nat) : aw (bI R k n j) a b = if a = n then -((aw R n j).fdiv (aw R k j)) * aw R k b + aw R n b else aw R a b :=
 nP hs hn hk _ a b
theorem BN {x y z t u d : Nat} (hx : x <= W ^ d) (hy : y < W ^ d) (hz : z <= W ^ d) (ht : t < W ^ (u + d)) : x * y + z * t < W ^ (u + 2 * d + 1) := by
 have h1 : x * y <= W ^ d * W ^ d := Nat.mul_le_mul hx (Nat.le_of_lt hy);have h2 : z * t <= W ^ d * W ^ (u + d) := Nat.mul_le_mul hz (Nat.le_of_lt ht);have e1 : W ^ d * W ^ d <= W ^ (u + 2 * d) := by rw [<- Nat.pow_add]; exact yd (by omega)
 have e2 : W ^ d * W ^ (u + d) = W ^ (u + 2 * d) := by rw [<- Nat.pow_add]; congr 1; omega
 have e3 : W ^ (u + 2 * d) * 2 < W ^ (u + 2 * d + 1) := by
  rw [Nat.pow_succ];exact Nat.mul_lt_mul_of_pos_left (by unfold W; omega) (gV _)
 omega
theorem mM {c : Nat} {R : List Hd} (hs : Sh c R) {k n j δ u : Nat} (hk : k < R.length) (hn : n < R.length) (hp : 0 < aw R k j) (hbk : ∀ b, (aw R k b).natAbs < W ^ δ) (hbn : ∀ b, (aw R n b).natAbs < W ^ u) (b : Nat) : (aw (bI R k n j) n b).natAbs < W ^ (u + δ) := by
 rw [me hs hk hn, if_pos rfl];refine Nat.lt_of_le_of_lt (ke _ _ _) ?_;rw [Int.natAbs_neg];exact pG (Nat.lt_of_le_of_lt (vw hp) (hbn j)) (hbk b) (hbn b)
theorem wP (R : List Hd) (k n j : Nat) : (dX R k n j).map Hd.aB = R.map Hd.aB := by
 unfold dX bI; split
 . exact ly ..
 . rw [yB]; exact ly ..
theorem Ak {c k n j δ u : Nat} {R : List Hd} (hs : Sh c R) (hk : k < R.length) (hn : n < R.length) (hkn : k ≠ n) (hp : 0 < aw R k j) (h0 : ∀ b, b < j -> aw R k b = 0) (h1 : ∀ b, b < j -> aw R n b = 0)
 (hbk : ∀ b, (aw R k b).natAbs < W ^ δ) (hbn : ∀ b, (aw R n b).natAbs < W ^ u) : CB c k n j δ u R (dX R k n j) := by
 have hA := me hs hk hn j;have hAn := fun b => (hA n b).trans (if_pos rfl);have hAk := fun b => (hA k b).trans (if_neg hkn);have hAs := fun a b (h : a ≠ n) => (hA a b).trans (if_neg h);have hsA : Sh c (bI R k n j) := hs.vQ n k _;have hlA : (bI R k n j).length = R.length := dK ..;have hbA := mM hs hk hn hp hbk hbn;have hr : aw (bI R k n j) n j = (aw R n j).fmod (aw R k j) := by rw [hAn, qv hp]
 have hrr := rD (x := aw R n j) hp;by_cases hz : (aw R n j).fmod (aw R k j) = 0
 . have e : dX R k n j = bI R k n j := by unfold dX; rw [if_pos hz]
   rw [e];refine ⟨fun a _ h b => hAs a b h, fun b hb => (hAk b).trans (h0 b hb), by rw [hAk]; exact hp, fun b hb => ?_, ⟨1, -((aw R n j).fdiv (aw R k j)), by omega, fun b => ?_⟩, fun N hkN hnN => bj.add hnN hkN (fun e => hkn e.symm) _ hA, fun b => ?_, fun b => jD (hbA b) (by omega), hsA, hlA, ly ..⟩
   . rcases Nat.lt_or_eq_of_le hb with h | h
     . rw [hAn, h0 b h, h1 b h]; simp
     . subst h; rw [hr, hz]
   . rw [hAn, Int.one_mul]; omega
   . rw [hAk]; exact jD (hbk b) (by omega)
 . obtain ⟨M, hM⟩ : ∃ M, bI R k n j = M := ⟨_, rfl⟩;rw [hM] at hAn hAk hAs hsA hlA hbA hr;have e : dX R k n j = kY M k n (fv (aw M k j) (aw M n j)) (iQ (aw M k j) (aw M n j)) (-(aw M n j / dz (aw M k j) (aw M n j))) (aw M k j / dz (aw M k j) (aw M n j)) := by
    unfold dX; rw [if_neg hz, hM]
   obtain ⟨p, hp'⟩ : ∃ p, aw M k j = p := ⟨_, rfl⟩;obtain ⟨r, hr'⟩ : ∃ r, aw M n j = r := ⟨_, rfl⟩;have hpp : p = aw R k j := hp'.symm.trans (hAk j);rw [hr'] at hr;rw [hp', hr'] at e;have hrne : r ≠ 0 := by rw [hr]; exact hz
   rw [<- hr, <- hpp] at hrr;have hrp : 0 < r := by omega
   have hg := jk p r;have hx := BU p r hrne;have hxl := qM p r;have hyl := vD p r;obtain ⟨g, hgd⟩ : ∃ g, dz p r = g := ⟨_, rfl⟩;obtain ⟨x, hxd⟩ : ∃ x, fv p r = x := ⟨_, rfl⟩;obtain ⟨y, hyd⟩ : ∃ y, iQ p r = y := ⟨_, rfl⟩;rw [hgd] at hg hx e;rw [hxd] at hx hxl e;rw [hyd] at hx hyl e;have hgp : 0 < g := by have := hg.2.2.1 (by omega); have := hg.2.2.2; omega
   obtain ⟨p', hp1⟩ := hg.1;obtain ⟨r', hr1⟩ := hg.2.1;have hpd : p / g = p' := by rw [hp1, Int.mul_ediv_cancel_left _ (by omega)]
   have hrd : r / g = r' := by rw [hr1, Int.mul_ediv_cancel_left _ (by omega)]
   rw [hpd, hrd] at e;have hk1 : p' * x + r' * y = 1 := by
    have : g * (p' * x + r' * y) = g * 1 := by
     rw [Int.mul_add, <- Int.mul_assoc, <- Int.mul_assoc, <- hp1, <- hr1, hx]; omega
    exact Int.eq_of_mul_eq_mul_left (by omega) this
   have ry : p' ≠ 0 := fun h => by rw [h, Int.mul_zero] at hp1; omega
   have hmix := xA hsA (by omega : k < M.length) (by omega : n < M.length) hkn x y (-r') p';rw [<- e] at hmix;have hmk := fun b => (hmix k b).trans (if_pos rfl);have hmn := fun b => ((hmix n b).trans (if_neg (fun h => hkn h.symm))).trans (if_pos rfl);have hms := fun a b (h : a ≠ k) (h' : a ≠ n) => ((hmix a b).trans (if_neg h)).trans (if_neg h');have hM0 : ∀ b, b < j -> aw M n b = 0 := fun b hb => by rw [hAn, h0 b hb, h1 b hb]; simp
   have hpD : p.natAbs < W ^ δ := by rw [hpp]; exact hbk j
   have hrD : r.natAbs < W ^ δ := by omega
   have hp'D : p'.natAbs <= W ^ δ := by
    have h2 : p'.natAbs <= p.natAbs := by
     rw [hp1, Int.natAbs_mul];have := Nat.mul_le_mul_right p'.natAbs (show 1 <= g.natAbs by omega);omega
    omega
   have hr'D : r'.natAbs <= W ^ δ := by
    have h2 : r'.natAbs <= r.natAbs := by
     rw [hr1, Int.natAbs_mul];have := Nat.mul_le_mul_right r'.natAbs (show 1 <= g.natAbs by omega);omega
    omega
   have bnd : ∀ (s t : Int) b, s.natAbs <= W ^ δ -> t.natAbs <= W ^ δ -> (s * aw M k b + t * aw M n b).natAbs < W ^ (u + 2 * δ + 1) := by
    intro s t b hs' ht';refine Nat.lt_of_le_of_lt (Int.natAbs_add_le _ _) ?_;rw [Int.natAbs_mul, Int.natAbs_mul];exact BN hs' (by rw [hAk]; exact hbk b) ht' (hbA b)
   have hspA : ∀ N, k < N -> n < N -> bj N (aw R) N (aw M) := fun N hkN hnN => by
    rw [<- hM]; exact bj.add hnN hkN (fun e => hkn e.symm) _ hA
   refine ⟨fun a h h' b => ?_, fun b hb => ?_, ?_, fun b hb => ?_, ?_, fun N hkN hnN => ?_, fun b => ?_, fun b => ?_, ?_, ?_, wP ..⟩
   . rw [hms a b h h', hAs a b h']
   . rw [hmk, hAk, h0 b hb, hM0 b hb]; simp
   . rw [hmk, hp', hr', Int.mul_comm x, Int.mul_comm y, hx]; exact hgp
   . rw [hmn];rcases Nat.lt_or_eq_of_le hb with h | h
     . rw [hAk, h0 b h, hM0 b h]; simp
     . subst h;rw [hp', hr', hp1, hr1, Int.neg_mul, Int.mul_left_comm r', Int.mul_left_comm p', Int.mul_comm r' p']; omega
   . refine ⟨p', -r' + p' * (-((aw R n j).fdiv (aw R k j))), ry, fun b => ?_⟩;rw [hmn, hAk, hAn, Int.mul_add, Int.add_mul, <- Int.mul_assoc]; omega
   . refine (hspA N hkN hnN).trans (bj.two hkN hnN hkn (fun a h h' b => hms a b h h') hmk hmn (x' := p') (y' := -y) (z' := r') (t' := x) (fun b => ?_) (fun b => ?_))
     . rw [hmk, hmn];have : p' * (x * aw M k b + y * aw M n b) + -y * (-r' * aw M k b + p' * aw M n b) = (p' * x + r' * y) * aw M k b := by
        simp only [Int.mul_add, Int.add_mul, Int.neg_mul, Int.mul_neg, Int.neg_neg];have a1 : p' * (y * aw M n b) = y * (p' * aw M n b) := Int.mul_left_comm ..;have a2 : y * (r' * aw M k b) = r' * y * aw M k b := by rw [<- Int.mul_assoc, Int.mul_comm y]
        have a3 : p' * (x * aw M k b) = p' * x * aw M k b := (Int.mul_assoc ..).symm;omega
       rw [this, hk1, Int.one_mul]
     . rw [hmk, hmn];have : r' * (x * aw M k b + y * aw M n b) + x * (-r' * aw M k b + p' * aw M n b) = (p' * x + r' * y) * aw M n b := by
        simp only [Int.mul_add, Int.add_mul, Int.neg_mul, Int.mul_neg];have a1 : r' * (x * aw M k b) = x * (r' * aw M k b) := Int.mul_left_comm ..;have a2 : r' * (y * aw M n b) = r' * y * aw M n b := (Int.mul_assoc ..).symm;have a3 : x * (p' * aw M n b) = p' * x * aw M n b := by rw [<- Int.mul_assoc, Int.mul_comm x]
        omega
       rw [this, hk1, Int.one_mul]
   . rw [hmk]; exact bnd x y b (by omega) (by omega)
   . rw [hmn]; exact bnd (-r') p' b (by rw [Int.natAbs_neg]; exact hr'D) hp'D
   . rw [e]; exact hsA.mixT_ k n _ _ _ _
   . exact iV ..
/-! put. -/
theorem tr (R : List Hd) {n k : Nat} (hk : k < n) : (eu R n).getD k 0 = aX R k := by
 unfold eu; simp [hk]
theorem pR {c n B δ u : Nat} {l : Nat -> Nat} {R : List Hd} (hs : Sh c R) (hn : n <= R.length) (hE : Ech n c (aw R) l) (hu : ∀ a b, (aw R a b).natAbs < W ^ u) (hb : u + n * δ <= B)
 (hD : ∀ E', eU n c E' l -> bj n (aw R) n E' -> ∀ i, i < n -> ∀ j, (E' i j).natAbs < W ^ δ) : ∃ R', iF B c (eu R n) n n R R' /\ yL n c n l R R' := by
 have hls : ∀ k, k < n -> (eu R n).getD k 0 = l k := fun k hk => by
  rw [tr R hk];exact pK (by omega) hs (hE.zero k hk) (by have := hE.pos k hk; omega)
 have h1 := lJ hls n R (Nat.le_refl _) hs hn hE (fun i k h1 h2 h3 => by omega);exact ⟨_, vf (δ := δ) (u := u) hls hb n R (Nat.le_refl _) hs hn hE (fun i k h1 h2 h3 => by omega) (fun a b => jD (hu a b) (by omega)) (fun a _ b => hu a b) (hD _ h1.herm h1.sp), h1⟩
theorem oJ {a : Nat} : ∀ (n : Nat) (R : List Hd), a <= n -> n < R.length -> ∀ i b, aw (bC a n R) i b = if i < a then aw R i b else if i = a then aw R n b else if i <= n then aw R (i - 1) b else aw R i b
 | 0, R, ha, hn, i, b => by
  obtain rfl : a = 0 := by omega
  unfold bC;by_cases h : i = 0
  . subst h; simp
  . rw [if_neg (by omega), if_neg h, if_neg (by omega)]
 | n + 1, R, ha, hn, i, b => by
  unfold bC;by_cases h : n + 1 <= a
  . obtain rfl : a = n + 1 := by omega
    rw [if_pos h];by_cases h1 : i < n + 1
    . rw [if_pos h1]
    . rw [if_neg h1];by_cases h2 : i = n + 1
      . subst h2; rw [if_pos rfl]
      . rw [if_neg h2, if_neg (by omega)]
  . rw [if_neg h, oJ n _ (by omega) (by rw [bQ]; omega)];have hsw := fun x => pS (R := R) (i := n + 1) (j := n) hn (by omega) x b;rw [hsw, hsw, hsw];by_cases h1 : i < a
    . rw [if_pos h1, if_pos h1];unfold swp; rw [if_neg (by omega), if_neg (by omega)]
    . rw [if_neg h1, if_neg h1];by_cases h2 : i = a
      . rw [if_pos h2, if_pos h2];unfold swp; rw [if_pos rfl]
      . rw [if_neg h2, if_neg h2];by_cases h3 : i <= n
        . rw [if_pos h3, if_pos (by omega)];unfold swp; rw [if_neg (by omega), if_neg (by omega)]
        . rw [if_neg h3];by_cases h4 : i = n + 1
          . subst h4; rw [if_pos (by omega)];unfold swp; rw [if_neg (by omega), if_pos rfl]; rfl
          . rw [if_neg (by omega : ¬ i <= n + 1)];unfold swp; rw [if_neg (by omega), if_neg h4]
theorem tx {c a : Nat} : ∀ (n : Nat) (R : List Hd), Sh c R -> Sh c (bC a n R)
 | 0, R, h => h
 | n + 1, R, h => by
  unfold bC; split
  . exact h
  . exact tx n _ (h.xN _ _)
structure PI (c n δ u s : Nat) (l : Nat -> Nat) (last : Int) (E0 : Nat -> Nat -> Int) (v0 : Nat -> Int) (Ro R : List Hd) : Prop where
 sh : Sh c R
 len : R.length = Ro.length
 rT : Ech n c (aw R) l
 sn : s <= n
 lo : ∀ i, i < s -> (l i : Int) <= last
 hi : ∀ i, s <= i -> i < n -> last < (l i : Int)
 un : ∀ i, s <= i -> i < n -> ∀ b, aw R i b = E0 i b
 z : ∀ b : Nat, (b : Int) <= last -> aw R n b = 0
 bd : ∀ a b, (aw R a b).natAbs < W ^ u
 cb : ∃ (t : Int) (w : Nat -> Int), t ≠ 0 /\ Sp n E0 w /\ ∀ b, aw R n b = t * v0 b + w b
 sp : bj (n + 1) (aw Ro) (n + 1) (aw R)
 oth : ∀ a, n < a -> ∀ b, aw R a b = aw Ro a b
structure xP (c n : Nat) (E0 : Nat -> Nat -> Int) (v0 : Nat -> Int) (Ro : List Hd) (b : Bool) (R' : List Hd) : Prop where
 sh : Sh c R'
 len : R'.length = Ro.length
 oth : ∀ a, n < a -> ∀ b, aw R' a b = aw Ro a b
 no : b = false -> (∃ l', eU n c (aw R') l') /\ (∀ b, aw R' n b = 0) /\ bj (n + 1) (aw Ro) n (aw R')
 yes : b = true -> (∃ l', eU (n + 1) c (aw R') l') /\ bj (n + 1) (aw Ro) (n + 1) (aw R') /\ ∀ s : Int, Sp n E0 (fun j => s * v0 j) -> s = 0
theorem yw {n s j : Nat} {l : Nat -> Nat} (h : s <= n) : ∃ a, s <= a /\ a <= n /\ (∀ i, s <= i -> i < a -> l i < j) /\ (a = n \/ (a < n /\ j <= l a)) := by
 obtain ⟨f, hf⟩ : ∃ f, n - s = f := ⟨_, rfl⟩;induction f generalizing s with
 | zero => exact ⟨s, Nat.le_refl _, h, fun i h1 h2 => by omega, .inl (by omega)⟩
 | succ f ih =>
  by_cases hj : j <= l s
  . exact ⟨s, Nat.le_refl _, h, fun i h1 h2 => by omega, .inr ⟨by omega, hj⟩⟩
  . obtain ⟨a, h1, h2, h3, h4⟩ := ih (s := s + 1) (by omega) (by omega);refine ⟨a, by omega, h2, fun i hi hia => ?_, h4⟩;by_cases e : i = s
    . subst e; omega
    . exact h3 i (by omega) hia
theorem uJ {c n a j : Nat} {l : Nat -> Nat} {E F : Nat -> Nat -> Int} (h : Ech n c E l) (ha : a <= n) (hlo : ∀ i, i < a -> l i < j) (hhi : ∀ i, a <= i -> i < n -> j < l i) (hj : j < c) (h0 : ∀ b, b < j -> E n b = 0) (hp : 0 < E n j)
 (hF : ∀ i b, i <= n -> F i b = if i < a then E i b else if i = a then E n b else E (i - 1) b) : Ech (n + 1) c F (fun i => if i < a then l i else if i = a then j else l (i - 1)) := by
 refine ⟨fun i k hik hk => ?_, fun i hi => ?_, fun i hi b hb => ?_, fun i hi => ?_⟩
 . show (if i < a then l i else if i = a then j else l (i - 1)) < (if k < a then l k else if k = a then j else l (k - 1));by_cases h1 : k < a
   . rw [if_pos h1, if_pos (by omega)]; exact h.inc i k hik (by omega)
   . rw [if_neg h1];by_cases h2 : k = a
     . rw [if_pos h2, if_pos (by omega)]; exact hlo i (by omega)
     . rw [if_neg h2];by_cases h3 : i < a
       . rw [if_pos h3]; exact h.inc i (k - 1) (by omega) (by omega)
       . rw [if_neg h3];by_cases h4 : i = a
         . rw [if_pos h4]; exact hhi (k - 1) (by omega) (by omega)
         . rw [if_neg h4]; exact h.inc (i - 1) (k - 1) (by omega) (by omega)
 . show (if i < a then l i else if i = a then j else l (i - 1)) < c;split
   . exact h.lt i (by omega)
   . split
     . exact hj
     . exact h.lt (i - 1) (by omega)
 . rw [hF i b (by omega)];have hb : b < (if i < a then l i else if i = a then j else l (i - 1)) := hb;split at hb
   . rename_i h1; rw [if_pos h1]; exact h.zero i (by omega) b hb
   . rename_i h1; rw [if_neg h1];split at hb
     . rename_i h2; rw [if_pos h2]; exact h0 b hb
     . rename_i h2; rw [if_neg h2]; exact h.zero (i - 1) (by omega) b hb
 . rw [hF i _ (by omega)];show 0 < (if i < a then E i (if i < a then l i else if i = a then j else l (i - 1)) else if i = a then E n (if i < a then l i else if i = a then j else l (i - 1)) else E (i - 1) (if i < a then l i else if i = a then j else l (i - 1)));split
   . exact h.pos i (by omega)
   . split
     . exact hp
     . exact h.pos (i - 1) (by omega)
theorem bj.perm {n a : Nat} {E F : Nat -> Nat -> Int} (ha : a <= n) (hF : ∀ i b, i <= n -> F i b = if i < a then E i b else if i = a then E n b else E (i - 1) b) : bj (n + 1) E (n + 1) F := by
 refine ⟨fun k hk => ?_, fun k hk => ?_⟩
 . by_cases h1 : k < a
   . exact (Sp.row F hk).congr (fun b => by rw [hF k b (by omega), if_pos h1])
   . by_cases h2 : k = n
     . subst h2;exact (Sp.row F (show a < k + 1 by omega)).congr (fun b => by rw [hF a b (by omega), if_neg (by omega), if_pos rfl])
     . exact (Sp.row F (show k + 1 < n + 1 by omega)).congr (fun b => by rw [hF (k + 1) b (by omega), if_neg (by omega), if_neg (by omega)]; rfl)
 . by_cases h1 : k < a
   . exact (Sp.row E hk).congr (fun b => by rw [hF k b (by omega), if_pos h1])
   . by_cases h2 : k = a
     . exact (Sp.row E (show n < n + 1 by omega)).congr (fun b => by rw [hF k b (by omega), if_neg h1, if_pos h2])
     . exact (Sp.row E (show k - 1 < n + 1 by omega)).congr (fun b => by rw [hF k b (by omega), if_neg h1, if_neg h2])
theorem bj.neg {N n : Nat} {E F : Nat -> Nat -> Int} (hn : n < N) (hs : ∀ a, a ≠ n -> ∀ b, F a b = E a b) (h : ∀ b, F n b = - E n b) : bj N E N F := by
 refine ⟨fun k hk => ?_, fun k hk => ?_⟩
 . by_cases e : k = n
   . subst e; exact ((Sp.row F hk).smul (-1)).congr (fun b => by rw [h]; omega)
   . exact (Sp.row F hk).congr (fun b => (hs k e b).symm)
 . by_cases e : k = n
   . subst e; exact ((Sp.row E hk).smul (-1)).congr (fun b => by rw [h]; omega)
   . exact (Sp.row E hk).congr (fun b => hs k e b)
theorem my {c n δ B U : Nat} {l : Nat -> Nat} {E0 : Nat -> Nat -> Int} {v0 : Nat -> Int} {Ro : List Hd} (hn : n < Ro.length) (hH0 : Ech n c E0 l) (hδ : ∀ a, a < n -> ∀ b, (E0 a b).natAbs < W ^ δ) (hUB : U + (n + 1) * δ <= B)
 (hZ : ∀ E' l', eU n c E' l' -> bj (n + 1) (aw Ro) n E' -> ∀ i, i < n -> ∀ j, (E' i j).natAbs < W ^ δ)
 (hS : (∀ s : Int, Sp n E0 (fun j => s * v0 j) -> s = 0) -> ∀ E' l', eU (n + 1) c E' l' -> bj (n + 1) (aw Ro) (n + 1) E' -> ∀ i, i < n + 1 -> ∀ j, (E' i j).natAbs < W ^ δ)
 (s u at_ : Nat) (last : Int) (R : List Hd) (hI : PI c n δ u s l last E0 v0 Ro R) (hat : at_ <= s) (hu : u + (n - s) * (2 * δ + 1) <= U)
 (hnext : ∀ a, s <= a -> a < n -> ∀ R1 u1, PI c n δ u1 (a + 1) l (l a) E0 v0 Ro R1 -> u1 + (n - (a + 1)) * (2 * δ + 1) <= U -> ∃ b R', jY B c n a (l a) R1 b R' /\ xP c n E0 v0 Ro b R') :
 ∃ b R', jY B c n at_ last R b R' /\ xP c n E0 v0 Ro b R' := by
 have hnR : n < R.length := by rw [hI.len]; exact hn
 have hle := sy hnR hI.sh;have huB : u <= B := by have := Nat.zero_le ((n - s) * (2 * δ + 1)); have := Nat.zero_le ((n + 1) * δ); omega
 have hFit : Fit B c R := Fit.of hI.sh (fun a b => jD (hI.bd a b) huB);have hnδ : n * δ <= (n + 1) * δ := Nat.mul_le_mul_right _ (by omega);have huU : u <= U := by have := Nat.zero_le ((n - s) * (2 * δ + 1)); omega
 by_cases hc : aX R n = c
 . -- nothing is left
   have hz : ∀ b, aw R n b = 0 := fun b => by
    by_cases h : b < c
    . exact hle.2.1 b (by omega)
    . exact hI.sh.wide n (by omega)
   have hspz : bj (n + 1) (aw R) n (aw R) := by
    refine ⟨fun k hk => ?_, fun k hk => Sp.row _ (by omega)⟩;by_cases e : k = n
    . subst e; exact (Sp.zero _ _).congr hz
    . exact Sp.row _ (by omega)
   obtain ⟨R', h1, h2⟩ := pR (B := B) (δ := δ) hI.sh (by omega : n <= R.length) hI.rT hI.bd (by omega) (fun E' hE' hsp => hZ E' l hE' (hI.sp.trans (hspz.trans hsp)));exact ⟨false, R', .zero hFit (.inl hc) h1, h2.sh, h2.len.trans hI.len, fun a ha b => (h2.same a (by omega) b).trans (hI.oth a ha b), fun _ => ⟨⟨l, h2.herm⟩, fun b => (h2.same n (Nat.le_refl _) b).trans (hz b), hI.sp.trans (hspz.trans h2.sp)⟩, fun h => by cases h⟩
 . have hjc : aX R n < c := by have := hle.1; omega
   obtain ⟨j, hj⟩ : ∃ j, aX R n = j := ⟨_, rfl⟩;rw [hj] at hjc hc hle;have hvj := hle.2.2 hjc;have hlast : last < (j : Int) := by
    by_cases h : last < (j : Int)
    . exact h
    . exact absurd (hI.z j (by omega)) hvj
   obtain ⟨a, hsa, han, hlt, hend⟩ := yw (l := l) (j := j) hI.sn;have hlead : ∀ i, i < n -> aX R i = l i := fun i hi => pK (by omega) hI.sh (hI.rT.zero i hi) (by have := hI.rT.pos i hi; omega);have hlo : ∀ i, i < a -> l i < j := fun i hi => by
    by_cases h : s <= i
    . exact hlt i h hi
    . have := hI.lo i (by omega); omega
   by_cases hm : a < n /\ l a = j
   . obtain ⟨ha, hla⟩ := hm;have hrow : ∀ b, (aw R a b).natAbs < W ^ δ := fun b => by rw [hI.un a hsa ha]; exact hδ a ha b
     have hp : 0 < aw R a j := by rw [<- hla]; exact hI.rT.pos a ha
     have h0a : ∀ b, b < j -> aw R a b = 0 := fun b hb => hI.rT.zero a ha b (by omega);have hok := Ak (j := j) hI.sh (by omega : a < R.length) hnR (by omega) hp h0a hle.2.1 hrow (hI.bd n);have hA := me hI.sh (by omega : a < R.length) hnR j;have hbA := mM (j := j) hI.sh (by omega : a < R.length) hnR hp hrow (hI.bd n);have h2n : (n - s) * (2 * δ + 1) = (n - (a + 1)) * (2 * δ + 1) + (a + 1 - s) * (2 * δ + 1) := by rw [<- Nat.add_mul]; congr 1; omega
     have h2a : 2 * δ + 1 <= (a + 1 - s) * (2 * δ + 1) := by have := Nat.mul_le_mul_right (2 * δ + 1) (show 1 <= a + 1 - s by omega); omega
     have hbud : u + 2 * δ + 1 + (n - (a + 1)) * (2 * δ + 1) <= U := by omega
     have hudB : u + 2 * δ + 1 <= B := by
      have := Nat.zero_le ((n - (a + 1)) * (2 * δ + 1)); have := Nat.zero_le ((n + 1) * δ); omega
     have hFitA : Fit B c (bI R a n j) := Fit.of (hI.sh.vQ n a _) (fun x b => by
      by_cases e : x = n
      . subst e; exact jD (hbA b) (by omega)
      . rw [hA, if_neg e]; exact jD (hI.bd x b) huB)
     have hpA : aw (bI R a n j) a j ≠ 0 := by rw [hA, if_neg (by omega)]; omega
     have hPI : PI c n δ (u + 2 * δ + 1) (a + 1) l (l a) E0 v0 Ro (dX R a n j) := by
      refine ⟨hok.sh, hok.len.trans hI.len, ?_, by omega, ?_, ?_, ?_, ?_, ?_, ?_, hI.sp.trans (hok.sp (n + 1) (by omega) (by omega)), ?_⟩
      . refine ⟨hI.rT.inc, hI.rT.lt, fun i hi b hb => ?_, fun i hi => ?_⟩
        . by_cases e : i = a
          . subst e; exact hok.low b (by omega)
          . rw [hok.same i e (by omega)]; exact hI.rT.zero i hi b hb
        . by_cases e : i = a
          . subst e; rw [hla]; exact hok.piv
          . rw [hok.same i e (by omega)]; exact hI.rT.pos i hi
      . intro i hi;by_cases e : i = a
        . subst e; exact Int.le_refl _
        . have := hI.rT.inc i a (by omega) ha; omega
      . intro i hi hin;have := hI.rT.inc a i (by omega) hin; omega
      . intro i hi hin b;rw [hok.same i (by omega) (by omega)]; exact hI.un i (by omega) hin b
      . intro b hb;exact hok.gone b (by omega)
      . intro x b;by_cases e : x = a
        . subst e; exact hok.bk b
        . by_cases e' : x = n
          . subst e'; exact hok.bn b
          . rw [hok.same x e e']; exact jD (hI.bd x b) (by omega)
      . obtain ⟨t, w, ht, hw, hv⟩ := hI.cb;obtain ⟨t', s', ht', hv'⟩ := hok.comb;refine ⟨t' * t, fun b => t' * w b + s' * E0 a b, fun e => ?_, (hw.smul t').add ((Sp.row E0 ha).smul s'), fun b => ?_⟩
        . rcases Int.mul_eq_zero.1 e with e | e
          . exact ht' e
          . exact ht e
        . show aw (dX R a n j) n b = t' * t * v0 b + (t' * w b + s' * E0 a b);rw [hv', hv, hI.un a hsa ha, Int.mul_add, Int.mul_assoc]; omega
      . intro x hx b;rw [hok.same x (by omega) (by omega)]; exact hI.oth x hx b
     obtain ⟨b, R', h1, h2⟩ := hnext a hsa ha (dX R a n j) (u + 2 * δ + 1) hPI hbud;refine ⟨b, R', .meet hFit (by rw [hj]; exact hjc) (by rw [hj]; exact hlast) a (by omega) ha (fun i h3 h4 => ?_) ?_ ?_ ?_ ?_ ?_, h2⟩
     . rw [hj, hlead i (by omega)]; exact hlo i h4
     . rw [hj, hlead a ha, hla]
     . rw [hj]; omega
     . rw [hj]; exact hFitA
     . rw [hj]; exact hpA
     . rw [hj]; rw [hla] at h1; exact h1
   . have hhi : ∀ i, a <= i -> i < n -> j < l i := fun i h1 h2 => by
      rcases hend with h3 | ⟨h3, h4⟩
      . omega
      . by_cases e : i = a
        . subst e;have : l i ≠ j := fun h => hm ⟨h3, h⟩;omega
        . have := hI.rT.inc a i (by omega) h2; omega
     obtain ⟨R1, hR1⟩ : ∃ R1, (if aw R n (aX R n) < 0 then bZ R n else R) = R1 := ⟨_, rfl⟩;have hR1e : ∀ x, x ≠ n -> ∀ b, aw R1 x b = aw R x b := fun x hx b => by
      rw [<- hR1]; split
      . rw [pH hnR, if_neg hx]
      . rfl
     have hR1n : (∀ b, (aw R1 n b).natAbs = (aw R n b).natAbs) /\ 0 < aw R1 n j /\ ((∀ b, aw R1 n b = aw R n b) \/ (∀ b, aw R1 n b = - aw R n b)) := by
      rw [<- hR1]; split
      . rename_i h;rw [hj] at h;have h1 := fun b => (pH hnR n b).trans (if_pos rfl);exact ⟨fun b => by rw [h1, Int.natAbs_neg], by rw [h1]; omega, .inr h1⟩
      . rename_i h;rw [hj] at h;exact ⟨fun b => rfl, by omega, .inl (fun b => rfl)⟩
     have hR1s : Sh c R1 := by
      rw [<- hR1]; split
      . exact hI.sh.Ca n
      . exact hI.sh
     have hR1l : R1.length = R.length := by
      rw [<- hR1]; split
      . exact gm ..
      . rfl
     have hR1b : ∀ x b, (aw R1 x b).natAbs < W ^ u := fun x b => by
      by_cases e : x = n
      . subst e; rw [hR1n.1]; exact hI.bd x b
      . rw [hR1e x e]; exact hI.bd x b
     have hsp1 : bj (n + 1) (aw R) (n + 1) (aw R1) := by
      rcases hR1n.2.2 with h | h
      . exact bj.of_eq (fun k hk b => by
         by_cases e : k = n
         . subst e; exact (h b).symm
         . exact (hR1e k e b).symm)
      . exact bj.neg (by omega) hR1e h
     have hsw := oJ (a := a) n R1 han (by omega);obtain ⟨R2, hR2⟩ : ∃ R2, bC a n R1 = R2 := ⟨_, rfl⟩;have hs2 : Sh c R2 := hR2 ▸ tx n R1 hR1s;have hl2 : R2.length = R.length := by rw [<- hR2, ic, hR1l]
     rw [hR2] at hsw;have hsw2 : ∀ i b, i <= n -> aw R2 i b = if i < a then aw R1 i b else if i = a then aw R1 n b else aw R1 (i - 1) b := fun i b hi => by
      rw [hsw];by_cases h1 : i < a
      . rw [if_pos h1, if_pos h1]
      . rw [if_neg h1, if_neg h1];by_cases h2 : i = a
        . rw [if_pos h2, if_pos h2]
        . rw [if_neg h2, if_neg h2, if_pos hi]
     have hb2 : ∀ x b, (aw R2 x b).natAbs < W ^ u := fun x b => by
      rw [hsw]; split
      . exact hR1b ..
      . split
        . exact hR1b ..
        . split <;> exact hR1b ..
     have hE1 : Ech n c (aw R1) l := hI.rT.congr (fun x hx b => hR1e x (by omega) b);have h10 : ∀ b, b < j -> aw R1 n b = 0 := fun b hb => by
      have h1 := hR1n.1 b;rw [hle.2.1 b hb] at h1; omega
     have hE2 := uJ hE1 han hlo hhi hjc h10 hR1n.2.1 hsw2;have hsp2 := bj.perm han hsw2;have hind : ∀ t : Int, Sp n E0 (fun b => t * v0 b) -> t = 0 := by
      intro t ht;obtain ⟨t', w, ht', hw, hv⟩ := hI.cb;by_cases h0 : t = 0
      . exact h0
      . exfalso;have hin : Sp n E0 (fun b => t * aw R n b) := ((ht.smul t').add (hw.smul t)).congr (fun b => by
         rw [hv, Int.mul_add, <- Int.mul_assoc, <- Int.mul_assoc, Int.mul_comm t' t])
        obtain ⟨k, hk, hlk, _⟩ := hH0.lead hin (q := j) (fun e => by
         rcases Int.mul_eq_zero.1 e with e | e
         . exact h0 e
         . exact hvj e) (fun b hb => by
           show t * aw R n b = 0;rw [hle.2.1 b hb, Int.mul_zero])
        by_cases hka : k < a
        . have := hlo k hka; omega
        . have := hhi k (by omega) hk; omega
     obtain ⟨R', h1, h2⟩ := pR (B := B) (δ := δ) (n := n + 1) hs2 (by omega) hE2 hb2 (by omega) (fun E' hE' hsp => hS hind E' _ hE' (hI.sp.trans (hsp1.trans (hsp2.trans hsp))));refine ⟨true, R', .stop hFit (by rw [hj]; exact hjc) (by rw [hj]; exact hlast) a (by omega) han (fun i h3 h4 => ?_) ?_ ?_ ?_, h2.sh, h2.len.trans (hl2.trans hI.len), fun x hx b => ?_, fun h => (by cases h), fun _ => ⟨⟨_, h2.herm⟩, hI.sp.trans (hsp1.trans (hsp2.trans h2.sp)), hind⟩⟩
     . rw [hj, hlead i (by omega)]; exact hlo i h4
     . rcases Nat.lt_or_eq_of_le han with h | h
       . refine .inr ?_;rw [hj, hlead a h]; exact hhi a (Nat.le_refl _) h
       . exact .inl h
     . rw [hR1, hR2]; exact Fit.of hs2 (fun a b => jD (hb2 a b) huB)
     . rw [hR1, hR2]; exact h1
     . rw [h2.same x (by omega), hsw, if_neg (by omega), if_neg (by omega), if_neg (by omega), hR1e x (by omega)];exact hI.oth x hx b
theorem AR {c n δ B U : Nat} {l : Nat -> Nat} {E0 : Nat -> Nat -> Int} {v0 : Nat -> Int} {Ro : List Hd} (hn : n < Ro.length) (hH0 : Ech n c E0 l) (hδ : ∀ a, a < n -> ∀ b, (E0 a b).natAbs < W ^ δ) (hUB : U + (n + 1) * δ <= B)
 (hZ : ∀ E' l', eU n c E' l' -> bj (n + 1) (aw Ro) n E' -> ∀ i, i < n -> ∀ j, (E' i j).natAbs < W ^ δ)
 (hS : (∀ s : Int, Sp n E0 (fun j => s * v0 j) -> s = 0) -> ∀ E' l', eU (n + 1) c E' l' -> bj (n + 1) (aw Ro) (n + 1) E' -> ∀ i, i < n + 1 -> ∀ j, (E' i j).natAbs < W ^ δ) :
 ∀ (f s u at_ : Nat) (last : Int) (R : List Hd), n - s <= f -> PI c n δ u s l last E0 v0 Ro R -> at_ <= s -> u + (n - s) * (2 * δ + 1) <= U -> ∃ b R', jY B c n at_ last R b R' /\ xP c n E0 v0 Ro b R' := by
 intro f;induction f with
 | zero =>
  intro s u at_ last R hf hI hat hu;exact my hn hH0 hδ hUB hZ hS s u at_ last R hI hat hu (fun a ha1 ha2 => by omega)
 | succ f ih =>
  intro s u at_ last R hf hI hat hu;refine my hn hH0 hδ hUB hZ hS s u at_ last R hI hat hu (fun a ha1 ha2 R1 u1 hI1 hu1 => ?_);exact ih (a + 1) u1 a (l a) R1 (by omega) hI1 (by omega) hu1
/-! Reduce. -/
def fz (N m : Nat) : Nat := 2 * (m + 1) * N + 1
theorem lq {n N m : Nat} (hn : n <= N) (hN : N <= 1048576) : uY n (W ^ m) < W ^ fz N m := by
 unfold uY fz;rcases Nat.eq_zero_or_pos n with h | h
 . subst h; simp; exact gV _
 . have h1 : 2 * n * W ^ m + 1 <= W ^ (m + 1) := by
    rw [Nat.pow_succ, Nat.mul_comm (W ^ m)];have h2 : (2 * n + 1) * W ^ m <= W * W ^ m := Nat.mul_le_mul_right _ (by unfold W; omega);have h3 : (2 * n + 1) * W ^ m = 2 * n * W ^ m + W ^ m := by rw [Nat.add_mul, Nat.one_mul]
    have := gV m;omega
   have h2 : (2 * n * W ^ m + 1) ^ (n - 1) <= W ^ ((m + 1) * (n - 1)) := by
    rw [Nat.pow_mul]; exact Nat.pow_le_pow_left h1 _
   have h3 : n * ((2 * n * W ^ m + 1) ^ (n - 1) * W ^ m) <= W ^ ((m + 1) * n) := by
    have h4 : (2 * n * W ^ m + 1) ^ (n - 1) * W ^ m <= W ^ ((m + 1) * (n - 1)) * W ^ m := Nat.mul_le_mul_right _ h2;have h5 : n * ((2 * n * W ^ m + 1) ^ (n - 1) * W ^ m) <= W * (W ^ ((m + 1) * (n - 1)) * W ^ m) := Nat.mul_le_mul (by unfold W; omega) h4;refine Nat.le_trans h5 ?_;have e : W * (W ^ ((m + 1) * (n - 1)) * W ^ m) = W ^ ((m + 1) * (n - 1) + m + 1) := by
     rw [<- Nat.pow_add, Nat.mul_comm W, <- Nat.pow_succ]
    rw [e];have e2 : (m + 1) * (n - 1) + m + 1 = (m + 1) * n := by
     have : n = n - 1 + 1 := by omega
     rw [Nat.add_assoc]
     conv => rhs; rw [this, Nat.mul_add, Nat.mul_one]
    rw [e2]; exact Nat.le_refl _
   obtain ⟨D, hD⟩ : ∃ D, n * ((2 * n * W ^ m + 1) ^ (n - 1) * W ^ m) = D := ⟨_, rfl⟩;rw [hD] at h3 |-;have h6 : D * D <= W ^ (2 * (m + 1) * n) := by
    have := Nat.mul_le_mul h3 h3;rw [<- Nat.pow_add] at this;have e : (m + 1) * n + (m + 1) * n = 2 * (m + 1) * n := by rw [Nat.mul_assoc]; omega
    rwa [e] at this
   have h7 : n * D * D < W * W ^ (2 * (m + 1) * n) := by
    rw [Nat.mul_assoc];refine Nat.lt_of_le_of_lt (Nat.mul_le_mul_left n h6) ?_;exact Nat.mul_lt_mul_of_pos_right (by unfold W; omega) (gV _)
   refine Nat.lt_of_lt_of_le h7 ?_;rw [Nat.mul_comm W, <- Nat.pow_succ];refine yd ?_;have : 2 * (m + 1) * n <= 2 * (m + 1) * N := Nat.mul_le_mul_left _ hn;omega
def tS (N m : Nat) : Nat := fz N m + N * (2 * fz N m + 1) + (N + 1) * fz N m
theorem rU.snoc {n : Nat} {a E0 : Nat -> Nat -> Int} {v : Nat -> Int} (h : rU n a) (ha : ∀ k, k < n -> Sp n E0 (a k)) (hv : ∀ s : Int, Sp n E0 (fun j => s * v j) -> s = 0) : rU (n + 1) (fun k => if k < n then a k else v) := by
 intro x hx k hk;have e : ∀ j, sm n (fun k => x k * a k j) + x n * v j = 0 := fun j => by
  have := hx j;unfold sm at this;rw [aE (g := fun k => x k * a k j) (fun k hk => by simp [hk])] at this;simpa using this
 have h0 : x n = 0 := by
  refine hv _ (((Sp.sm (x := fun k => - x k) ha)).congr (fun j => ?_));have h1 := e j;have h2 : sm n (fun k => - x k * a k j) = - sm n (fun k => x k * a k j) := by
   have := eX n (-1) (fun k => x k * a k j);rw [Int.neg_one_mul] at this;rw [<- this]; exact aE (fun k _ => by rw [Int.neg_mul, Int.neg_one_mul])
  rw [h2]; omega
 by_cases hkn : k = n
 . subst hkn; exact h0
 . refine h x (fun j => ?_) k (by omega);have := e j;rw [h0] at this; simpa using this
theorem rF : ∀ (k i : Nat) (R : List Hd), i + k < R.length -> ∀ a b, aw (n4 k i R) a b = if a < i then aw R a b else if a < i + k then aw R (a + 1) b else if a = i + k then aw R i b else aw R a b
 | 0, i, R, h, a, b => by
  unfold n4;by_cases h1 : a < i
  . rw [if_pos h1]
  . rw [if_neg h1, if_neg (by omega)];by_cases h2 : a = i + 0
    . rw [if_pos h2]; subst h2; rfl
    . rw [if_neg h2]
 | k + 1, i, R, h, a, b => by
  unfold n4;rw [rF k (i + 1) _ (by rw [bQ]; omega)];have hsw := fun x => pS (R := R) (i := i) (j := i + 1) (by omega) (by omega) x b;rw [hsw, hsw, hsw];by_cases h1 : a < i
  . rw [if_pos (by omega), if_pos h1];unfold swp; rw [if_neg (by omega), if_neg (by omega)]
  . rw [if_neg h1];by_cases h2 : a = i
    . rw [if_pos (by omega), if_pos (by omega)];unfold swp; rw [if_neg (by omega), if_pos h2, h2]
    . rw [if_neg (by omega)];by_cases h3 : a < i + (k + 1)
      . rw [if_pos (by omega), if_pos h3];unfold swp; rw [if_neg (by omega), if_neg (by omega)]
      . rw [if_neg (by omega), if_neg h3];by_cases h4 : a = i + (k + 1)
        . rw [if_pos (by omega), if_pos h4];unfold swp; rw [if_pos rfl]
        . rw [if_neg (by omega), if_neg h4];unfold swp; rw [if_neg (by omega), if_neg (by omega)]
theorem yS {c : Nat} : ∀ (k i : Nat) (R : List Hd), Sh c R -> Sh c (n4 k i R)
 | 0, i, R, h => h
 | k + 1, i, R, h => yS k (i + 1) _ (h.xN _ _)
theorem mH : ∀ (k i : Nat) (R : List Hd), (n4 k i R).length = R.length
 | 0, i, R => rfl
 | k + 1, i, R => (mH k (i + 1) _).trans (bQ ..)
theorem eU.congr {n c : Nat} {E F : Nat -> Nat -> Int} {l : Nat -> Nat} (h : eU n c E l) (e : ∀ a, a < n -> ∀ b, F a b = E a b) : eU n c F l :=
 ⟨h.toEch.congr e, fun i k hik hk => by rw [e i (by omega), e k hk]; exact h.red i k hik hk⟩
structure RI (c m : Nat) (Ro : List Hd) (d e : Nat) (R : List Hd) : Prop where
 sh : Sh c R
 len : R.length = Ro.length
 de : d <= e
 el : e <= Ro.length
 herm : ∃ l, eU d c (aw R) l
 raw : ∀ i, d <= i -> i < e -> ∀ b, (aw R i b).natAbs < W ^ m
 zero : ∀ i, e <= i -> ∀ b, aw R i b = 0
 sp : bj Ro.length (aw Ro) e (aw R)
 ind : ∃ a : Nat -> Nat -> Int, (∀ k, k < d -> Sp d (aw R) (a k)) /\ rU d a /\ ∀ k b, k < d -> (a k b).natAbs <= W ^ m
structure vu (c D : Nat) (Ro : List Hd) (k : Nat) (R' : List Hd) : Prop where
 sh : Sh c R'
 len : R'.length = Ro.length
 kl : k <= Ro.length
 herm : ∃ l, eU k c (aw R') l
 zero : ∀ i, k <= i -> ∀ b, aw R' i b = 0
 sp : bj Ro.length (aw Ro) k (aw R')
 bd : ∀ i b, (aw R' i b).natAbs < W ^ D
theorem RI.done {c m N d : Nat} {Ro R : List Hd} (hI : RI c m Ro d d R) (hN : Ro.length <= N) (hN1 : N <= 1048576) : vu c (fz N m) Ro d R := by
 refine ⟨hI.sh, hI.len, hI.el, hI.herm, hI.zero, hI.sp, fun i b => ?_⟩;obtain ⟨l, hH⟩ := hI.herm;obtain ⟨a, ha1, ha2, ha3⟩ := hI.ind;by_cases h : i < d
 . exact Nat.lt_of_le_of_lt (hH.bound ha1 ha2 (fun k j hk => ha3 k j hk) i b h) (lq (by have := hI.el; omega) hN1)
 . rw [hI.zero i (by omega)]; simpa using gV _
theorem uo {c m N B : Nat} {Ro : List Hd} (hN : Ro.length <= N) (hN1 : N <= 1048576) (hB : tS N m <= B) : ∀ (f d e : Nat) (R : List Hd), e - d <= f -> RI c m Ro d e R -> ∃ k R', mX B c d e R k R' /\ vu c (fz N m) Ro k R'
 | 0, d, e, R, hf, hI => by
  have : d = e := by have := hI.de; omega
  subst this;exact ⟨d, R, .fin (Nat.le_refl _), hI.done hN hN1⟩
 | f + 1, d, e, R, hf, hI => by
  by_cases hde : d < e
  . obtain ⟨δ, hδ⟩ : ∃ δ, fz N m = δ := ⟨_, rfl⟩;unfold tS at hB;rw [hδ] at hB;obtain ⟨l, hH⟩ := hI.herm;obtain ⟨a, ha1, ha2, ha3⟩ := hI.ind;have hdl : d < Ro.length := by have := hI.el; omega
    have hmδ : m <= δ := by
     have h1 : (m + 1) * 1 <= (m + 1) * (2 * N) := Nat.mul_le_mul_left _ (by omega);rw [<- hδ]; unfold fz;have h2 : 2 * (m + 1) * N = (m + 1) * (2 * N) := by rw [Nat.mul_comm 2, Nat.mul_assoc]
     omega
    have hbnd : ∀ i, i < d -> ∀ b, (aw R i b).natAbs < W ^ δ := fun i hi b => by
     have := hH.bound ha1 ha2 (fun k j hk => ha3 k j hk) i b hi;exact Nat.lt_of_le_of_lt this (hδ ▸ lq (by omega) hN1)
    have hall : ∀ x b, (aw R x b).natAbs < W ^ δ := fun x b => by
     by_cases h1 : x < d
     . exact hbnd x h1 b
     . by_cases h2 : x < e
       . exact jD (hI.raw x (by omega) h2 b) hmδ
       . rw [hI.zero x (by omega)]; simpa using gV δ
    have hsub : ∀ {M : Nat} {E' : Nat -> Nat -> Int}, bj (d + 1) (aw R) M E' -> ∀ k, k < d -> Sp M E' (a k) := fun hsp k hk =>
     (ha1 k hk).trans (fun i hi => hsp.1 i (by omega))
    have hZ : ∀ E' l', eU d c E' l' -> bj (d + 1) (aw R) d E' -> ∀ i, i < d -> ∀ j, (E' i j).natAbs < W ^ δ := fun E' l' hE' hsp i hi j =>
     Nat.lt_of_le_of_lt (hE'.bound (hsub hsp) ha2 (fun k j hk => ha3 k j hk) i j hi) (hδ ▸ lq (by omega) hN1)
    have hS : (∀ s : Int, Sp d (aw R) (fun j => s * aw R d j) -> s = 0) -> ∀ E' l', eU (d + 1) c E' l' -> bj (d + 1) (aw R) (d + 1) E' -> ∀ i, i < d + 1 -> ∀ j, (E' i j).natAbs < W ^ δ := fun hv E' l' hE' hsp i hi j => by
     have hb := hE'.bound (a := fun k => if k < d then a k else aw R d) (M := W ^ m) (fun k hk => by
      by_cases h : k < d
      . simp only [if_pos h]; exact hsub hsp k h
      . simp only [if_neg h]; exact hsp.1 d (by omega)) (ha2.snoc ha1 hv) (fun k j hk => by
      by_cases h : k < d
      . simp only [if_pos h]; exact ha3 k j h
      . simp only [if_neg h]; exact Nat.le_of_lt (hI.raw d (Nat.le_refl _) hde j)) i j hi
     exact Nat.lt_of_le_of_lt hb (hδ ▸ lq (by omega) hN1)
    have hmulN : (d - 0) * (2 * δ + 1) <= N * (2 * δ + 1) := Nat.mul_le_mul_right _ (by omega);have hmulN2 : (d + 1) * δ <= (N + 1) * δ := Nat.mul_le_mul_right _ (by omega);obtain ⟨b, R1, hput, hok⟩ := AR (δ := δ) (B := B) (U := δ + N * (2 * δ + 1)) (v0 := aw R d) (by rw [hI.len]; exact hdl : d < R.length) hH.toEch hbnd (by omega) hZ hS d 0 δ 0 (-1) R (by omega)
     ⟨hI.sh, rfl, hH.toEch, Nat.zero_le _, fun i hi => by omega, fun i _ _ => by omega, fun i _ _ _ => rfl, fun b hb => by omega, hall, ⟨1, fun _ => 0, by omega, Sp.zero _ _, fun b => by simp⟩, bj.refl _ _, fun _ _ _ => rfl⟩ (Nat.le_refl _) (by omega)
    cases b
    . obtain ⟨⟨l', hH'⟩, hz, hsp⟩ := hok.no rfl;have hl1 : R1.length = R.length := hok.len;have hrot := rF (e - 1 - d) d R1 (by rw [hl1, hI.len]; have := hI.el; omega);have e1 : d + (e - 1 - d) = e - 1 := by omega
      rw [e1] at hrot;obtain ⟨R2, hR2⟩ : ∃ R2, n4 (e - 1 - d) d R1 = R2 := ⟨_, rfl⟩;have hlo : ∀ i, i < d -> ∀ b, aw R2 i b = aw R1 i b := fun i hi b => by rw [<- hR2, hrot, if_pos hi]
      have hmid : ∀ i, d <= i -> i < e - 1 -> ∀ b, aw R2 i b = aw R (i + 1) b := fun i h1 h2 b => by
       rw [<- hR2, hrot, if_neg (by omega), if_pos h2, hok.oth (i + 1) (by omega)]
      have hsp2 : bj Ro.length (aw Ro) (e - 1) (aw R2) := by
       refine hI.sp.trans ⟨fun k hk => ?_, fun k hk => ?_⟩
       . by_cases h1 : k <= d
         . refine (hsp.1 k (by omega)).trans (fun i hi => ?_);exact (Sp.row (aw R2) (by omega : i < e - 1)).congr (fun b => (hlo i hi b).symm)
         . refine (Sp.row (aw R2) (by omega : k - 1 < e - 1)).congr (fun b => ?_);rw [hmid (k - 1) (by omega) (by omega)]; congr 1; omega
       . by_cases h1 : k < d
         . refine ((hsp.2 k h1).congr (hlo k h1)).trans (fun i hi => Sp.row _ (by omega))
         . exact (Sp.row (aw R) (by omega : k + 1 < e)).congr (hmid k (by omega) hk)
      have hRI : RI c m Ro d (e - 1) R2 := by
       refine ⟨hR2 ▸ yS _ _ _ hok.sh, by rw [<- hR2, mH, hl1, hI.len], by omega, by have := hI.el; omega, ⟨l', hH'.congr hlo⟩, fun i h3 h4 b => ?_, fun i h3 b => ?_, hsp2, ⟨a, fun k hk => ?_, ha2, ha3⟩⟩
       . rw [hmid i h3 h4]; exact hI.raw (i + 1) (by omega) (by omega) b
       . rw [<- hR2, hrot, if_neg (by omega), if_neg (by omega)];by_cases h4 : i = e - 1
         . rw [if_pos h4]; exact hz b
         . rw [if_neg h4, hok.oth i (by omega)]; exact hI.zero i (by omega) b
       . refine (hsub hsp k hk).trans (fun i hi => ?_);exact (Sp.row (aw R2) hi).congr (fun b => (hlo i hi b).symm)
      obtain ⟨k, R', h1, h2⟩ := uo hN hN1 (by unfold tS; rw [hδ]; exact hB) f d (e - 1) R2 (by omega) hRI;exact ⟨k, R', .zero hde hput (by rw [hR2]; exact h1), h2⟩
    . obtain ⟨⟨l', hH'⟩, hsp, hv⟩ := hok.yes rfl;have hl1 : R1.length = R.length := hok.len;have hsp2 : bj Ro.length (aw Ro) e (aw R1) := by
       refine hI.sp.trans ⟨fun k hk => ?_, fun k hk => ?_⟩
       . by_cases h1 : k < d + 1
         . exact (hsp.1 k h1).trans (fun i hi => Sp.row _ (by omega))
         . exact (Sp.row (aw R1) hk).congr (fun b => (hok.oth k (by omega) b).symm)
       . by_cases h1 : k < d + 1
         . exact (hsp.2 k h1).trans (fun i hi => Sp.row _ (by omega))
         . exact (Sp.row (aw R) hk).congr (fun b => hok.oth k (by omega) b)
      have hRI : RI c m Ro (d + 1) e R1 := by
       refine ⟨hok.sh, hl1.trans hI.len, by omega, hI.el, ⟨l', hH'⟩, fun i h3 h4 b => ?_, fun i h3 b => ?_, hsp2, ⟨fun k => if k < d then a k else aw R d, fun k hk => ?_, ha2.snoc ha1 hv, fun k b hk => ?_⟩⟩
       . rw [hok.oth i (by omega)]; exact hI.raw i (by omega) h4 b
       . rw [hok.oth i (by omega)]; exact hI.zero i h3 b
       . by_cases h : k < d
         . simp only [if_pos h]; exact hsub hsp k h
         . simp only [if_neg h]; exact hsp.1 d (by omega)
       . by_cases h : k < d
         . simp only [if_pos h]; exact ha3 k b h
         . simp only [if_neg h]; exact Nat.le_of_lt (hI.raw d (Nat.le_refl _) hde b)
      obtain ⟨k, R', h1, h2⟩ := uo hN hN1 (by unfold tS; rw [hδ]; exact hB) f (d + 1) e R1 (by omega) hRI;exact ⟨k, R', .ok hde hput h1, h2⟩
  . have : d = e := by have := hI.de; omega
    subst this;exact ⟨d, R, .fin (Nat.le_refl _), hI.done hN hN1⟩
theorem wm {c m N B : Nat} {Ro : List Hd} (hs : Sh c Ro) (hm : ∀ i b, (aw Ro i b).natAbs < W ^ m) (hN : Ro.length <= N) (hN1 : N <= 1048576) (hB : tS N m <= B) : ∃ k R', mX B c 0 Ro.length Ro k R' /\ vu c (fz N m) Ro k R' :=
 uo hN hN1 hB Ro.length 0 Ro.length Ro (by omega)
  ⟨hs, rfl, Nat.zero_le _, Nat.le_refl _, ⟨fun _ => 0, ⟨fun i k _ h => by omega, fun i h => by omega, fun i h => by omega, fun i h => by omega⟩, fun i k _ h => by omega⟩, fun i _ _ b => hm i b, fun i hi b => gP hi b, bj.refl _ _, ⟨fun _ _ => 0, fun k h => by omega, fun x _ k h => by omega, fun k b h => by omega⟩⟩
end Go.Proofs.YtbgecfleamckcaaGreat
namespace Go.Proofs.YtbgecfleamckcaaGreat
open Go.RowKit
structure ee (B : Nat) (S : Nat -> Prop) (w w' : World) : Prop where
 os : w'.os = w.os
 tape : w'.tape = w.tape
 output : w'.output = w.output
 size : w.heap.size <= w'.heap.size
 block : ∀ k, k < B -> ¬ S k -> w'.heap[k]? = w.heap[k]?
theorem ee.trans {B : Nat} {S : Nat -> Prop} {a b c : World} (h : ee B S a b) (k : ee B S b c) : ee B S a c :=
 ⟨k.os.trans h.os, k.tape.trans h.tape, k.output.trans h.output, Nat.le_trans h.size k.size, fun i hi hs => (k.block i hi hs).trans (h.block i hi hs)⟩
theorem ee.putObj {B : Nat} {S : Nat -> Prop} (w : World) {l : Nat} (o : Obj) (hl : B <= l) : ee B S w (w.putObj l o) :=
 ⟨rfl, rfl, rfl, by simp, fun k hk _ => World.putObj_heap_other (by omega)⟩
theorem ee.bF {B : Nat} {S : Nat -> Prop} {w w' : World} (h : Below B w w') : ee B S w w' := ⟨h.os, h.tape, h.output, h.size, fun k hk _ => h.block k hk⟩
def rO {α : Type} (B : Nat) (S : Nat -> Prop) (I : List α -> World -> Prop) (xs : List α) (W : World) : Exit -> Act -> World -> Prop
 | .normal, _, W' => KeepsOthers W W' /\ ee B S W W' /\ I xs W'
 | _, _, _ => False
theorem tZ {α : Type} {P : Program} {n : Nat} {g : Operand} {ps : Array Tmp} {assign body : Code} {Q : Exit -> Act -> World -> Prop} {a : Act} {w : World}
 {gf : Nat} {lb : Array Value} (hg : a.eval g = .func (.func gf) #[] lb) (eg : ∀ args w, (callFunc gf args).run P w = .ok (.enter gf args) w)
 {encs : α -> Array Value} (hps : ∀ x, (encs x).size = ps.size) (S : Nat -> Prop) (N : Nat) (Sx : List α -> Prop)
 (E : List α -> α -> World -> Prop) (I : List α -> World -> Prop)
 (hE : ∀ s x W l o o', E s x W -> w.heap.size <= l -> W.heap[l]? = some o -> o.isCells = false -> E s x (W.putObj l o'))
 (hIl : ∀ s W l o o', I s W -> w.heap.size <= l -> W.heap[l]? = some o -> o.isCells = false -> I s (W.putObj l o'))
 (hIb : ∀ s A B, I s A -> Below A.heap.size A B -> I s B) (h0 : I [] w) (a₁ : α -> Act)
 (hseq : ∀ (l : Nat) (J : List α -> World -> Prop) (W : World), Below w.heap.size w W -> (∀ s A B, J s A -> Below A.heap.size A B -> J s B) ->
  (∀ pre x W1, J pre W1 -> E pre x W1 -> pre.length < N -> YieldAt Fence.wide (n - 1 - 1) P l (encs x) W1 fun e W' => e = .returned (.bool true) /\ J (pre ++ [x]) W' /\ ee w.heap.size S W1 W') ->
  J [] W -> CallsIn Fence.wide (n - 1) P gf (#[.func (.yield l) #[] #[]] ++ lb) W fun e W' => (∃ v, e = .returned v) /\ ∃ xs, Sx xs /\ J xs W')
 (hassign : ∀ (l : Nat) (x : α) (W : World) (K : Act -> World -> Prop), K (a₁ x) W ->
  assign.wpIn (Fence.wide.inRound l) (n - 1 - 1) P (Exit.then K (fun _ _ _ => False)) { tmps := (ps.zip (encs x)).foldl (fun t (p, v) => t.setIfInBounds p v) a.tmps, defers := [] } W)
 (hbody : ∀ (l : Nat) (pre : List α) (x : α) (W : World), I pre W -> E pre x W -> pre.length < N -> body.wpIn (Fence.wide.inRound l) (n - 1 - 1) P (rO w.heap.size S I (pre ++ [x]) W) (a₁ x) W)
 (hdone : ∀ (D : Nat) (xs : List α) (W : World), w.heap.size <= D -> Sx xs -> I xs W -> W.heap[D]? = some (.deferred (some [])) -> Q .normal { a with defers := { target := .collected D, args := #[] } :: a.defers } W) :
 (Code.rangeFunc g ps assign body).wpIn Fence.wide n P Q a w := by
 refine wpIn_rangeFunc ?_;intro fn hfn;obtain ⟨R, hR⟩ : ∃ R : LoopState -> Option Code -> Loop, R = fun st pe => { state := st, pending := pe, fn, tmps := a.tmps, params := ps, assign, body, defers := w.heap.size } := ⟨_, rfl⟩;have hz0 : (w.alloc (.deferred (some []))).heap.size = w.heap.size + 1 := by simp
 have hbA : Below w.heap.size w (w.alloc (.deferred (some []))) := (Below.refl _ _).alloc (Nat.le_refl _) _;have hbB : Below (w.heap.size + 1) (w.alloc (.deferred (some []))) ((w.alloc (.deferred (some []))).alloc (.loop (R .ready none))) := (Below.refl _ _).alloc (by simp) _;have hl0 : ((w.alloc (.deferred (some []))).alloc (.loop (R .ready none))).heap[w.heap.size + 1]? = some (.loop (R .ready none)) := by
  have := World.alloc_heap_new (w.alloc (.deferred (some []))) (.loop (R .ready none)); rwa [World.size_alloc] at this
 have hd0 : ((w.alloc (.deferred (some []))).alloc (.loop (R .ready none))).heap[w.heap.size]? = some (.deferred (some [])) :=
  (hbB.block _ (by omega)).trans (World.alloc_heap_new w _)
 have hen := run_enterLoop_outer (P := P) (w := w) fn a.tmps ps assign body;have hI1 : I [] ((w.alloc (.deferred (some []))).alloc (.loop (R .ready none))) := hIb _ _ _ (hIb _ _ _ h0 hbA) (by rw [hz0]; exact hbB);have hbw : Below w.heap.size w ((w.alloc (.deferred (some []))).alloc (.loop (R .ready none))) := hbA.trans (hbB.mono (by omega));rw [show ({ state := .ready, pending := none, fn, tmps := a.tmps, params := ps, assign, body, defers := w.heap.size } : Loop) = R .ready none by rw [hR]] at hen;generalize (w.alloc (.deferred (some []))).alloc (.loop (R .ready none)) = W0 at *;refine ⟨w.heap.size + 1, [{ target := .collected w.heap.size, args := #[] }], W0, { target := .fn (.func gf) lb, args := #[.func (.yield (w.heap.size + 1)) #[] #[]] }, W0, gf,
  #[.func (.yield (w.heap.size + 1)) #[] #[]] ++ lb, W0, hen, ?_, fun _ _ => trivial, by simp [invoke, go_sem, eg], fun h => absurd h (by decide), ?_⟩
 . simp only [resolve, hg];simp [go_sem]
 have hlp : ∀ st pe, (Obj.loop (R st pe)).isCells = false := fun _ _ => rfl;refine (hseq (w.heap.size + 1) (fun pre W => I pre W /\ W.heap[w.heap.size + 1]? = some (.loop (R .ready none)) /\ W.heap[w.heap.size]? = some (.deferred (some []))) W0 hbw ?_ ?_ ⟨hI1, hl0, hd0⟩).mono ?_
 . rintro s A B ⟨h1, h2, h3⟩ hb;exact ⟨hIb _ _ _ h1 hb, (hb.block _ (Array.getElem?_eq_some_iff.1 h2).1).trans h2, (hb.block _ (Array.getElem?_eq_some_iff.1 h3).1).trans h3⟩
 . rintro pre x W ⟨hi, hl, hd⟩ hx hlen;have hlt : w.heap.size + 1 < W.heap.size := (Array.getElem?_eq_some_iff.1 hl).1;have hy := run_yield (P := P) (args := encs x) hl (by rw [hR]; exact hps x);have hbg := run_beginRound (P := P) hl (by rw [hR]);have hle : w.heap.size <= w.heap.size + 1 := by omega
   rw [hR] at hy hbg;refine ⟨fn, _, assign, body, hy, roundIn_of_wpIn hfn (hassign _ x W _ ⟨_, hbg, ?_⟩)⟩;have hl2 : (W.putObj (w.heap.size + 1) (.loop (R .busy none))).heap[w.heap.size + 1]? = some (.loop (R .busy none)) := World.putObj_heap_same hlt;have hd2 : (W.putObj (w.heap.size + 1) (.loop (R .busy none))).heap[w.heap.size]? = some (.deferred (some [])) := (World.putObj_heap_other (by omega)).trans hd;have hk2 : ee w.heap.size S W (W.putObj (w.heap.size + 1) (.loop (R .busy none))) := ee.putObj W _ hle;have hi2 := hIl pre W (w.heap.size + 1) _ (.loop (R .busy none)) hi hle hl rfl;have hx2 := hE pre x W (w.heap.size + 1) _ (.loop (R .busy none)) hx hle hl rfl;rw [show ({ state := .busy, pending := none, fn, tmps := a.tmps, params := ps, assign, body, defers := w.heap.size } : Loop) = R .busy none by rw [hR]];generalize W.putObj (w.heap.size + 1) (.loop (R .busy none)) = W2 at *;refine wpIn_mono (hbody (w.heap.size + 1) pre x W2 hi2 hx2 hlen) ?_;intro e a3 W3 hp;cases e with
   | normal =>
    obtain ⟨hk3, hkp3, hi3⟩ := hp;have hl3 := hk3.same _ _ hl2 rfl;have hd3 := hk3.same _ _ hd2 rfl;have hend := run_endRound (P := P) none hl3;rw [hR] at hend;refine ⟨_, _, hend, rfl, ⟨hIl _ _ _ _ _ hi3 hle hl3 rfl, ?_, ?_⟩, ?_⟩
    . rw [World.putObj_heap_same (Array.getElem?_eq_some_iff.1 hl3).1, hR]; rfl
    . exact (World.putObj_heap_other (by omega)).trans hd3
    . exact hk2.trans (hkp3.trans (ee.putObj _ _ hle))
   | ret => exact hp.elim
   | exit id => exact hp.elim
   | goto t => exact hp.elim
   | panic ch => exact hp.elim
   | outgrown => exact hp.elim
 . rintro e W2 ⟨⟨v, rfl⟩, xs, hS, hi, hl, hd⟩;have hle : w.heap.size <= w.heap.size + 1 := by omega
   have hend := run_endLoop (P := P) hl (by rw [hR]; simp);rw [hR] at hend;exact ⟨none, _, hend, hdone _ xs _ (Nat.le_refl _) hS (hIl _ _ _ _ _ hi hle hl rfl) ((World.putObj_heap_other (by omega)).trans hd)⟩
attribute [local go_sem] Oper.semAt_some
abbrev NR := Nat × Hd
def NR.enc (x : NR) : Array Value := #[.int .i64 (x.1 : Int), .slice (some ⟨x.2.aB, 0, none⟩) x.2.xs.length x.2.cap]
def vE (B : Nat) (pre : List NR) (x : NR) (W : World) : Prop := aJ W x.2.aB x.2.xs /\ B <= x.2.aB /\ ∀ y ∈ pre, y.2.aB ≠ x.2.aB
def vK (r c : Nat) (xs : List Int) (zs : List NR) : Prop := zs.length = r /\ ∀ k (h : k < zs.length), zs[k] = (k, ⟨(zs[k]).2.aB, c, rowOf xs c k⟩)
theorem bc.piece {w : World} {b : Nat} {xs : List Int} (h : aJ w b xs) (L : Nat) (hL : ∀ x ∈ xs, aa x.natAbs <= L) (k c : Nat) : bc w L (some ⟨b, k * c * 2, none⟩) (rowOf xs c k) := by
 intro hp;refine ⟨b, k * c * 2, rfl, h.lt, fun i hi => ?_⟩;have h0 : i < c := by simp [rowOf] at hi; omega
 have h1 : k * c + i < xs.length := by simp [rowOf] at hi; omega
 obtain ⟨p, h2, h3, h4⟩ := h.get h1;have e : (k * c + i) * 2 = k * c * 2 + i * 2 := by omega
 rw [e] at h2 h3;refine ⟨p, h2, h3, ?_⟩;have e2 : (rowOf xs c k)[i] = xs[k * c + i] := by simp [rowOf]
 rw [e2];exact h4.int (hL _ (List.getElem_mem _))
theorem lh (n g b r c : Nat) (xs : List Int) (w : World) (S : Nat -> Prop) (hS : dC S w) (hg : a6 w g 24 [.int .i64 (r : Int), .int .i64 (c : Int), .slice (some ⟨b, 0, none⟩) xs.length xs.length]) (hgS : ¬ S g) (hb : aJ w b xs) (hbS : ¬ S b) (hl : xs.length = r * c) (hr : r <= 100000) (hc : c <= 100000)
 (hL : ∀ x ∈ xs, aa x.natAbs <= 17592186044415)
 (l : Nat) (J : List NR -> World -> Prop) (W : World) (hW : Below w.heap.size w W) (hJ : ∀ s A B, J s A -> Below A.heap.size A B -> J s B)
 (hY : ∀ pre x Wp W1, J pre Wp -> Below Wp.heap.size Wp W1 -> Wp.heap.size <= x.2.aB -> vE w.heap.size pre x W1 -> x = (pre.length, ⟨x.2.aB, c, rowOf xs c pre.length⟩) -> pre.length < r -> YieldAt Fence.wide (n - 1) Tryz.prog l (NR.enc x) W1 fun e W' => e = .returned (.bool true) /\ J (pre ++ [x]) W' /\ ee w.heap.size S W1 W')
 (h0 : J [] W) (hn : 1 <= n) :
 CallsIn Fence.wide n Tryz.prog 89 (#[.func (.yield l) #[] #[]] ++ #[.pointer (some ⟨g, 0, none⟩)]) W fun e W' => (∃ v, e = .returned v) /\ ∃ zs, vK r c xs zs /\ J zs W' := by
 have HG := H5 hg; clear hg;have HB := H5 hb; clear hb;have HL := H5 hl; clear hl;have HW := H5 hW; clear hW;have HY := H5 hY; clear hY;have HWL := H5 hS; clear hS;have g0 := (HG.out.below HW.out HG.out.lt).cell 0;refine callsIn_of_wp Tryz.func89 rfl trivial ?_ rfl;simp only [Tryz.ntmps89, List.size_toArray, List.length_cons, List.length_nil, Nat.reduceAdd, Nat.reduceSub, Array.replicate_succ, Array.replicate_zero, List.push_toArray, List.append_toArray, List.nil_append, List.cons_append];simp only [List.getElem?_cons_zero] at g0
 gi_wp2
 clear g0
 gi_loopw [6] (fun i wr => ∃ (k : Nat) (zs : List NR), k <= r /\ i = .int .i64 (k : Int) /\ Hid (zs.length = k /\ (∀ j (h : j < zs.length), zs[j] = (j, ⟨(zs[j]).2.aB, c, rowOf xs c j⟩)) /\ (∀ y ∈ zs, y.2.aB < wr.heap.size) /\ J zs wr /\ aO S w wr))
  (fun i _ => r - (intOf i).toNat)
 case atStart => exact ⟨0, [], Nat.zero_le _, rfl, H5 ⟨rfl, fun j h => absurd h (by simp), fun y h => absurd h (by simp), h0, aO.bF HW.out⟩⟩
 case round =>
  obtain ⟨k, zs, hk, rfl, HI⟩ := hrel;by_cases hlt : k < r
  . have hlt' : (k : Int) < (r : Int) := by omega
    have g0 := (HI.out.2.2.2.2.row HG.out hgS).cell 0;have g1 := (HI.out.2.2.2.2.row HG.out hgS).cell 1;have g2 := (HI.out.2.2.2.2.row HG.out hgS).cell 2;simp only [List.getElem?_cons_zero, List.getElem?_cons_succ] at g0 g1 g2;obtain ⟨q, hq⟩ : ∃ q, k * c = q := ⟨_, rfl⟩;have hq2 : (k + 1) * c = q + c := by rw [Nat.succ_mul, hq]
    have hq3 : q + c <= xs.length := by rw [<- hq2, HL.out]; exact Nat.mul_le_mul_right _ hlt
    have hxl : xs.length <= 10000000000 := by rw [HL.out]; exact Nat.mul_le_mul hr hc
    have hw1 : wrap64 ((k : Int) * (c : Int)) = (q : Int) := by
     rw [<- Int.natCast_mul, hq]; unfold wrap64; omega
    have hw2 : wrap64 (((k : Int) + 1) * (c : Int)) = (q : Int) + (c : Int) := by
     have : ((k : Int) + 1) * (c : Int) = ((q + c : Nat) : Int) := by rw [<- hq2]; push_cast; rfl
     rw [this]; push_cast; unfold wrap64; omega
    have hpc : bc wr 17592186044415 (some ⟨b, q * 2, none⟩) (rowOf xs c k) := by
     rw [<- hq]; exact bc.piece (HI.out.2.2.2.2.yK HWL.out HB.out hbS) _ hL k c
    have hrl : (rowOf xs c k).length = c := gh HL.out hlt;have HP := H5 hpc; clear hpc;have HQ := H5 hq; clear hq;have HQ2 := H5 hq2; clear hq2;have hle1 : (q : Int) + (c : Int) <= (xs.length : Int) := by omega
    have hle2 : (q : Int) <= (q : Int) + (c : Int) := by omega
    have hcap : xs.length - q ≠ 0 \/ c = 0 := by omega
    gi_wp2_with fail
    . refine ⟨trivial, ?_⟩;have hE := jn (some ⟨b, 0, none⟩) 0 (rowOf xs c k) wr (fun h => by rw [hrl] at h; omega) (by rw [hrl]; omega);rw [hrl] at hE;refine (callsIn_wide.2 hE).mono ?_;rintro e w3 ⟨⟨bn, rfl, hbn, hrow⟩, hb3⟩;have hs3 := hb3.size;have hJ3 : J zs w3 := hJ _ _ _ HI.out.2.2.2.1 hb3;have hlt3 : bn < w3.heap.size := hrow.lt;obtain ⟨fn, tmps, assign, body, hy, hR⟩ := HY.out zs (k, ⟨bn, c, rowOf xs c k⟩) wr w3 HI.out.2.2.2.1 hb3 hbn ⟨hrow, by have := HI.out.2.2.2.2.size; show w.heap.size <= bn; omega, fun y hy => by have := HI.out.2.2.1 y hy; show y.2.aB ≠ bn; omega⟩ (by rw [HI.out.1]) (by rw [HI.out.1]; exact hlt);simp only [NR.enc] at hy;rw [hrl] at hy;have HI3 : Hid (aO S w w3) := H5 (HI.out.2.2.2.2.below hb3);have HZ := H5 (And.intro HI.out.1 (And.intro HI.out.2.1 HI.out.2.2.1));have HB3 := H5 hb3;clear hb3 HI HP hrow hJ3 g0 g1 g2
      gi_wp2
      refine hR.mono ?_;rintro e W' ⟨rfl, hJ', hk'⟩;have HJ' := H5 hJ';have HK' := H5 hk';clear hJ' hk' hy hR
      gi_wp2
      go_roundw
      case rel =>
       refine ⟨k + 1, zs ++ [(k, ⟨bn, c, rowOf xs c k⟩)], by omega, by go_num, H5 ⟨by simp [HZ.out.1], fun j hj => ?_, fun y hy => ?_, HJ'.out, ?_⟩⟩
       . by_cases hjk : j < zs.length
         . rw [List.getElem_append_left hjk];exact HZ.out.2.1 j hjk
         . have hjl : j = zs.length := by simp at hj; omega
           subst hjl;simp [HZ.out.1]
       . have hsz := HK'.out.size;rcases List.mem_append.1 hy with hy | hy
         . have := HZ.out.2.2 y hy; have := HB3.out.size; omega
         . simp only [List.mem_singleton] at hy; subst hy; show bn < _; omega
       . exact ⟨HK'.out.os.trans HI3.out.os, HK'.out.tape.trans HI3.out.tape, HK'.out.output.trans HI3.out.output, Nat.le_trans HI3.out.size HK'.out.size, fun i hi hs => (HK'.out.block i hi hs).trans (HI3.out.block i hi hs)⟩
      case measure => simp [intOf]; omega
    . refine ⟨trivial, ?_⟩;have hE := jn (some ⟨b, q * 2, none⟩) (xs.length - q) (rowOf xs c k) wr HP.out (by rw [hrl]; omega);rw [hrl] at hE;refine (callsIn_wide.2 hE).mono ?_;rintro e w3 ⟨⟨bn, rfl, hbn, hrow⟩, hb3⟩;have hs3 := hb3.size;have hJ3 : J zs w3 := hJ _ _ _ HI.out.2.2.2.1 hb3;have hlt3 : bn < w3.heap.size := hrow.lt;obtain ⟨fn, tmps, assign, body, hy, hR⟩ := HY.out zs (k, ⟨bn, c, rowOf xs c k⟩) wr w3 HI.out.2.2.2.1 hb3 hbn ⟨hrow, by have := HI.out.2.2.2.2.size; show w.heap.size <= bn; omega, fun y hy => by have := HI.out.2.2.1 y hy; show y.2.aB ≠ bn; omega⟩ (by rw [HI.out.1]) (by rw [HI.out.1]; exact hlt);simp only [NR.enc] at hy;rw [hrl] at hy;have HI3 : Hid (aO S w w3) := H5 (HI.out.2.2.2.2.below hb3);have HZ := H5 (And.intro HI.out.1 (And.intro HI.out.2.1 HI.out.2.2.1));have HB3 := H5 hb3;clear hb3 HI HP hrow hJ3 g0 g1 g2
      gi_wp2
      refine hR.mono ?_;rintro e W' ⟨rfl, hJ', hk'⟩;have HJ' := H5 hJ';have HK' := H5 hk';clear hJ' hk' hy hR
      gi_wp2
      go_roundw
      case rel =>
       refine ⟨k + 1, zs ++ [(k, ⟨bn, c, rowOf xs c k⟩)], by omega, by go_num, H5 ⟨by simp [HZ.out.1], fun j hj => ?_, fun y hy => ?_, HJ'.out, ?_⟩⟩
       . by_cases hjk : j < zs.length
         . rw [List.getElem_append_left hjk];exact HZ.out.2.1 j hjk
         . have hjl : j = zs.length := by simp at hj; omega
           subst hjl;simp [HZ.out.1]
       . have hsz := HK'.out.size;rcases List.mem_append.1 hy with hy | hy
         . have := HZ.out.2.2 y hy; have := HB3.out.size; omega
         . simp only [List.mem_singleton] at hy; subst hy; show bn < _; omega
       . exact ⟨HK'.out.os.trans HI3.out.os, HK'.out.tape.trans HI3.out.tape, HK'.out.output.trans HI3.out.output, Nat.le_trans HI3.out.size HK'.out.size, fun i hi hs => (HK'.out.block i hi hs).trans (HI3.out.block i hi hs)⟩
      case measure => simp [intOf]; omega
  . obtain rfl : k = r := by omega
    gi_wp2
    go_end0
    exact ⟨⟨_, rfl⟩, zs, ⟨HI.out.1, HI.out.2.1⟩, HI.out.2.2.2.1⟩
theorem sE (n g b r c : Nat) (xs : List Int) (w : World) (S : Nat -> Prop) (hS : dC S w) (hg : a6 w g 24 [.int .i64 (r : Int), .int .i64 (c : Int), .slice (some ⟨b, 0, none⟩) xs.length xs.length]) (hgS : ¬ S g) (hb : aJ w b xs) (hbS : ¬ S b) (hl : xs.length = r * c) (hr : r <= 100000) (hc : c <= 100000)
 (hL : ∀ x ∈ xs, aa x.natAbs <= 17592186044415)
 (l : Nat) (J : List NR -> World -> Prop) (W : World) (hW : Below w.heap.size w W) (hJ : ∀ s A B, J s A -> Below A.heap.size A B -> J s B)
 (hY : ∀ pre x W1, J pre W1 -> vE w.heap.size pre x W1 -> pre.length < r -> YieldAt Fence.wide (n - 1) Tryz.prog l (NR.enc x) W1 fun e W' => e = .returned (.bool true) /\ J (pre ++ [x]) W' /\ ee w.heap.size S W1 W')
 (h0 : J [] W) (hn : 1 <= n) :
 CallsIn Fence.wide n Tryz.prog 89 (#[.func (.yield l) #[] #[]] ++ #[.pointer (some ⟨g, 0, none⟩)]) W fun e W' => (∃ v, e = .returned v) /\ ∃ zs, vK r c xs zs /\ J zs W' :=
 lh n g b r c xs w S hS hg hgS hb hbS hl hr hc hL l J W hW hJ (fun pre x Wp W1 hj hb _ hx _ hl => hY pre x W1 (hJ _ _ _ hj hb) hx hl) h0 hn
end Go.Proofs.YtbgecfleamckcaaGreat
namespace Go.Proofs.YtbgecfleamckcaaGreat
def aY (xs : List Int) (r c i j : Nat) : Int := if i < r /\ j < c then xs.getD (i * c + j) 0 else 0
theorem Cl {r c i j : Nat} (hi : i < r) (hj : j < c) : i * c + j < r * c := by
 have h1 : (i + 1) * c <= r * c := Nat.mul_le_mul_right _ hi;have h2 : (i + 1) * c = i * c + c := Nat.succ_mul i c;omega
theorem yM {r c n : Nat} (h : n < r * c) : ∃ i j, i < r /\ j < c /\ n = i * c + j := by
 have hc : 0 < c := by
  rcases Nat.eq_zero_or_pos c with h0 | h0
  . subst h0; simp at h
  . exact h0
 exact ⟨n / c, n % c, (Nat.div_lt_iff_lt_mul hc).2 h, Nat.mod_lt _ hc, by have := Nat.div_add_mod n c; rw [Nat.mul_comm] at this; omega⟩
theorem fq {xs : List Int} {r c i j : Nat} (hi : i < r) (hj : j < c) : aY xs r c i j = xs.getD (i * c + j) 0 := by
 unfold aY; rw [if_pos ⟨hi, hj⟩]
theorem rC {xs : List Int} {r c i : Nat} (hi : r <= i) (j : Nat) : aY xs r c i j = 0 := by
 unfold aY; rw [if_neg (by omega)]
theorem lv {xs : List Int} {r c j : Nat} (i : Nat) (hj : c <= j) : aY xs r c i j = 0 := by
 unfold aY; rw [if_neg (by omega)]
theorem sA {xs ys : List Int} {r c : Nat} (hx : xs.length = r * c) (hy : ys.length = r * c) (h : ∀ i j, i < r -> j < c -> aY xs r c i j = aY ys r c i j) : xs = ys := by
 refine List.ext_getElem (by omega) fun n h1 h2 => ?_;obtain ⟨i, j, hi, hj, e⟩ := yM (by omega : n < r * c);have := h i j hi hj;rw [fq hi hj, fq hi hj, <- e, iJ _ _ h1, iJ _ _ h2] at this;exact this
theorem kO {xs : List Int} {r c B : Nat} (hB : 0 < B) (h : ∀ x ∈ xs, x.natAbs < B) (i j : Nat) : (aY xs r c i j).natAbs < B := by
 unfold aY;split
 . by_cases hl : i * c + j < xs.length
   . rw [iJ _ _ hl]; exact h _ (List.getElem_mem _)
   . rw [lM _ _ (by omega)]; simpa using hB
 . simpa using hB
theorem ux {xs : List Int} {r c B : Nat} (hx : xs.length = r * c) (h : ∀ i j, i < r -> j < c -> (aY xs r c i j).natAbs < B) : ∀ x ∈ xs, x.natAbs < B := by
 intro x hm;obtain ⟨n, hn, rfl⟩ := List.getElem_of_mem hm;obtain ⟨i, j, hi, hj, e⟩ := yM (by omega : n < r * c);have := h i j hi hj;rw [fq hi hj, <- e, iJ _ _ hn] at this;exact this
theorem oB (xs : List Int) (c k j : Nat) (hj : j < c) : (rowOf xs c k).getD j 0 = xs.getD (k * c + j) 0 := by
 unfold rowOf;simp [hj]
theorem ld : ∀ (xss : List (List Int)) (c : Nat), (∀ x ∈ xss, x.length = c) -> ∀ i j, (hi : i < xss.length) -> j < c -> xss.flatten.getD (i * c + j) 0 = (xss[i]).getD j 0
 | [], c, h, i, j, hi, hj => by simp at hi
 | x :: xss, c, h, 0, j, hi, hj => by
  have hx := h x (List.mem_cons_self ..);rw [List.flatten_cons, Nat.zero_mul, Nat.zero_add, List.getElem_cons_zero];rw [iJ _ _ (by rw [List.length_append]; omega), iJ _ _ (by omega), List.getElem_append_left]
 | x :: xss, c, h, i + 1, j, hi, hj => by
  have hx := h x (List.mem_cons_self ..);rw [List.flatten_cons, List.getElem_cons_succ, <- ld xss c (fun y hy => h y (List.mem_cons_of_mem _ hy)) i j (by simpa using hi) hj];have e : (i + 1) * c + j = x.length + (i * c + j) := by rw [Nat.succ_mul, hx]; omega
  rw [e, List.getD_eq_getElem?_getD, List.getElem?_append_right (by omega), List.getD_eq_getElem?_getD];congr 2; omega
structure bP (r c : Nat) (xs hs : List Int) (k : Nat) (l : Nat -> Nat) : Prop where
 len : hs.length = r * c
 kr : k <= r
 herm : eU k c (aY hs r c) l
 zero : ∀ i, k <= i -> ∀ b, aY hs r c i b = 0
 sp : bj r (aY xs r c) k (aY hs r c)
theorem bP.unique {r c : Nat} {xs hs hs' : List Int} {k k' : Nat} {l l' : Nat -> Nat} (h : bP r c xs hs k l) (h' : bP r c xs hs' k' l') : hs = hs' /\ k = k' /\ ∀ i, i < k -> l i = l' i := by
 obtain ⟨h1, h2, h3⟩ := h.herm.unique h'.herm (h.sp.symm.trans h'.sp);refine ⟨sA h.len h'.len fun i j hi hj => ?_, h1, h2⟩;by_cases hk : i < k
 . exact h3 i hk j
 . rw [h.zero i (by omega), h'.zero i (by omega)]
theorem xw {R : List Hd} {xs : List Int} {r c : Nat} (hl : R.length = r) (hx : xs.length = r * c) (h : ∀ k (hk : k < R.length), R[k].xs = rowOf xs c k) : Sh c R /\ ∀ i j, aw R i j = aY xs r c i j := by
 have hlen : ∀ k, k < r -> (rowOf xs c k).length = c := fun k hk => by
  have := Cl (c := c + 1) hk (Nat.lt_succ_self c);unfold rowOf;have h1 : (k + 1) * c <= r * c := Nat.mul_le_mul_right _ hk;have h2 : (k + 1) * c = k * c + c := Nat.succ_mul k c;simp [hx]; omega
 have hsh : Sh c R := fun q hq => by
  obtain ⟨k, hk, rfl⟩ := List.getElem_of_mem hq;rw [h k hk]; exact hlen k (by omega)
 refine ⟨hsh, fun i j => ?_⟩;by_cases hi : i < r
 . by_cases hj : j < c
   . rw [dq (by omega), h i (by omega), oB _ _ _ _ hj, fq hi hj]
   . rw [hsh.wide i (by omega), lv _ (by omega)]
 . rw [gP (by omega), rC (by omega)]
theorem wj {R : List Hd} {r c : Nat} (hl : R.length = r) (hs : Sh c R) : (R.map Hd.xs).flatten.length = r * c /\ ∀ i j, aY (R.map Hd.xs).flatten r c i j = aw R i j := by
 have hc : ∀ x ∈ R.map Hd.xs, x.length = c := fun x hx => by
  obtain ⟨q, hq, rfl⟩ := List.mem_map.1 hx; exact hs q hq
 refine ⟨?_, fun i j => ?_⟩
 . have : ∀ (xss : List (List Int)), (∀ x ∈ xss, x.length = c) -> xss.flatten.length = xss.length * c := by
    intro xss;induction xss with
    | nil => intro _; simp
    | cons x xs ih =>
     intro h;rw [List.flatten_cons, List.length_append, ih (fun y hy => h y (List.mem_cons_of_mem _ hy)), h x (List.mem_cons_self ..), List.length_cons, Nat.succ_mul]; omega
   rw [this _ hc, List.length_map, hl]
 . by_cases hi : i < r
   . by_cases hj : j < c
     . rw [fq hi hj, ld _ c hc i j (by simp; omega) hj, List.getElem_map, dq (by omega)]
     . rw [hs.wide i (by omega), lv _ (by omega)]
   . rw [gP (by omega), rC (by omega)]
theorem bj.left {n m : Nat} {E E' F : Nat -> Nat -> Int} (h : bj n E m F) (e : ∀ i j, E' i j = E i j) : bj n E' m F :=
 (bj.of_eq (fun k _ j => e k j)).trans h
theorem bj.right {n m : Nat} {E F F' : Nat -> Nat -> Int} (h : bj n E m F) (e : ∀ i j, F' i j = F i j) : bj n E m F' :=
 h.trans (bj.of_eq (fun k _ j => (e k j).symm))
theorem BI {R R' : List Hd} {xs : List Int} {r c D k : Nat} (hl : R.length = r) (he : ∀ i j, aw R i j = aY xs r c i j) (h : vu c D R k R') : ∃ l, bP r c xs (R'.map Hd.xs).flatten k l /\ ∀ x ∈ (R'.map Hd.xs).flatten, x.natAbs < W ^ D := by
 obtain ⟨l, hH⟩ := h.herm;have hm := wj (h.len.trans hl) h.sh;refine ⟨l, ⟨hm.1, hl ▸ h.kl, hH.congr (fun a _ b => hm.2 a b), fun i hi b => (hm.2 i b).trans (h.zero i hi b), ?_⟩, ux hm.1 (fun i j _ _ => by rw [hm.2]; exact h.bd i j)⟩;have := h.sp;rw [hl] at this;exact (this.left (fun i j => (he i j).symm)).right hm.2
end Go.Proofs.YtbgecfleamckcaaGreat
namespace Go.Proofs.YtbgecfleamckcaaGreat
open Go.RowKit
attribute [local go_sem] Oper.semAt_some
theorem sZ {w : World} {l : Nat} {o o' : Obj} (hl : w.heap[l]? = some o) (hn : o.isCells = false) {p : Addr} {v : Value} (h : w.cell? p = some v) : (w.putObj l o').cell? p = some v := by
 by_cases e : p.block = l
 . exfalso;unfold World.cell? at h;rw [e, hl] at h;cases o <;> simp_all [Obj.isCells]
 . exact (World.cell?_of_block (World.putObj_heap_other e)).trans h
theorem gG {w : World} {l : Nat} {o o' : Obj} (hl : w.heap[l]? = some o) (hn : o.isCells = false) {b : Nat} {t : TypeId} {cs : List Value} (h : a6 w b t cs) : a6 (w.putObj l o') b t cs := by
 by_cases e : b = l
 . exfalso;unfold a6 at h;rw [e, hl] at h;injection h with h
   subst h;simp [Obj.isCells] at hn
 . unfold a6 at *;rw [World.putObj_heap_other e]; exact h
theorem rQ (w : World) (l : Nat) (o : Obj) : (w.putObj l o).heap.size = w.heap.size := by simp
theorem u4 {w : World} {l : Nat} {o o' : Obj} (hl : w.heap[l]? = some o) (hn : o.isCells = false) {ao : Option Addr} {ws : List Nat} (h : cU w ao ws) : cU (w.putObj l o') ao ws := by
 refine ⟨h.1, fun hp => ?_⟩;obtain ⟨b, q, e, hb, hc⟩ := h.2 hp;exact ⟨b, q, e, by rw [rQ]; exact hb, fun i hi => sZ hl hn (hc i hi)⟩
theorem tQ {w : World} {l : Nat} {o o' : Obj} (hl : w.heap[l]? = some o) (hn : o.isCells = false) {L : Nat} {v : Value} {x : Int} (h : a8 w L v x) : a8 (w.putObj l o') L v x := by
 obtain ⟨n, ao, len, cap, ws, e, hW, r⟩ := h;exact ⟨n, ao, len, cap, ws, e, u4 hl hn hW, r⟩
theorem jt {w : World} {l : Nat} {o o' : Obj} (hl : w.heap[l]? = some o) (hn : o.isCells = false) {b : Nat} {xs : List Int} (h : aJ w b xs) : aJ (w.putObj l o') b xs := by
 obtain ⟨ps, tl, nt, hr, hl', hN⟩ := h;exact ⟨ps, tl, nt, gG hl hn hr, hl', fun i h1 h2 => ⟨tQ hl hn (hN i h1 h2).1, (hN i h1 h2).2⟩⟩
theorem rZ : (Tryz.prog.info? 22).map (fun i => (i.zero, i.size, i.bytes)) = some (some (.slice none 0 0), 1, 24) := by kernel_rfl
def fS (r : Nat) (zs : List NR) : List Value := zs.map (fun z => z.2.dk) ++ List.replicate (r - zs.length) (.slice none 0 0)
structure yl (w : World) (B g o r : Nat) (zs : List NR) (W : World) : Prop where
 box : a6 W g 76 [.slice (some ⟨o, 0, none⟩) zs.length r]
 row : a6 W o 22 (fS r zs)
 nums : ∀ z ∈ zs, aJ W z.2.aB z.2.xs /\ B <= z.2.aB
 nd : (zs.map (fun z => z.2.aB)).Nodup
 r5 : aO (fun k => k = g \/ k = o) w W
theorem ru {F : Fence} {n : Nat} {P : Program} {w : World} {ops : Array Oper} {rest : List Oper} {o : Oper} {a : Act} {Q : Exit -> Act -> World -> Prop}
 (hg : o.guard = none) (s x : Operand) (t : TypeId) (hop : o.op = Op.call { callee := Callee.builtin Builtin.append, args := #[s, x], argTypes := #[t, t] })
 (e : TypeId) (z : Value) (size bytes : Nat) (h1 : P.underlying t = some (.slice e)) (h2 : (P.info? e).map (fun i => (i.zero, i.size, i.bytes)) = some (some z, size, bytes))
 (b off sLen sCap : Nat) (ad : Addr) (m c : Nat) (news : List Value) (hs : a.eval s = .slice (some ⟨b, off, none⟩) sLen sCap) (hx : a.eval x = .slice (some ad) m c)
 (hl : news.length = m * size) (hnews : ∀ j u, news[j]? = some u -> w.cell? (ad.add j) = some u) (h1c : ∀ u ∈ news, u.oneCell' = true) (hroom : sLen + m <= sCap)
 (hc : ∀ j, j < news.length -> (w.cell? ⟨b, off + sLen * size + j, none⟩).isSome = true) (hf : ∀ j, j < news.length -> w.frozen? ⟨b, off + sLen * size + j, none⟩ = false)
 (hK : wpListIn F n P ops Q rest (a.put o.dst (.slice (some ⟨b, off, none⟩) (sLen + m) sCap)) (w.setCells b (off + sLen * size) news)) :
 wpListIn F n P ops Q (o :: rest) a w := by
 refine wpListIn_plain hg fun K hK' => ?_;obtain ⟨i, hi, hz, hsz, hb⟩ := info_parts h2;subst hsz;have hrun := run_append_room_cells (P := P) (w := w) t o.type e i h1 hi b off sLen sCap ad m c news hl hnews h1c hroom hc hf;unfold Oper.wpIn;refine ⟨?_, ?_⟩
 . simp [Oper.about, hop, resolve, Target.leads, Sem.run_pure]
 . rw [Oper.semAt_plain F _ _ (by rw [hop]; intro c hc'; cases hc')];simp [execOp, hop, resolve, invoke, builtin, hs, hx, hrun, Result.andThen];exact hK' _ _ hK
theorem wU (n : Nat) : (madeCells (Value.slice none 0 0).cells (n * 1)).toList = List.replicate n (.slice none 0 0) := by
 rw [ib _ rfl]
theorem zJ {w : World} {ops : Array Oper} {rest : List Oper} {o : Oper} {a : Act} {Q : Exit -> Act -> World -> Prop}
 (hg : o.guard = none) (l c : Operand) (hop : o.op = Op.makeSlice 76 l c)
 {kl kc : IntKind} {L C : Int} (n m : Nat) (hl : a.eval l = .int kl L) (hc : a.eval c = .int kc C) (hL : L = (n : Int)) (hC : C = (m : Int)) (hnm : n <= m) (b2 : m <= 1000000)
 (hK : ∀ b w', Made w w' b 22 (List.replicate m (.slice none 0 0)) -> wpList Tryz.prog ops Q rest (a.put o.dst (.slice (some ⟨b, 0, none⟩) n m)) w') :
 wpList Tryz.prog ops Q (o :: rest) a w :=
 eR hg l c 76 hop 22 (.slice none 0 0) 1 24 Tryz.underlying76 rZ n m hl hc hL hC hnm (by omega) (by unfold maxLen; omega)
  (fun b w' h => hK b w' (by rw [wU] at h; exact h))
theorem Az (r c : Nat) (ao : Option Addr) (len cap : Nat) (xs : List Int) (w : World) (hr : r <= 64) (hc : c <= 64) (h : bc w 17592186044415 ao xs) (hL : ∀ x ∈ xs, aa x.natAbs <= 17592186044415) (hl : len = xs.length) (hs : xs.length = r * c) :
 CallsIn Fence.wide 6 Tryz.prog 73 #[.agg #[.int .i64 (r : Int), .int .i64 (c : Int), .slice ao len cap]] w fun e w' => (∃ o R, e = .returned (.slice (some ⟨o, 0, none⟩) R.length r) /\ er w' o R /\ R.length = r /\ (∀ k (h : k < R.length), R[k].xs = rowOf xs c k) /\ w.heap.size <= o /\ (∀ x ∈ R, w.heap.size <= x.aB) /\ a6 w' o 22 (R.map Hd.dk) /\ ∀ k (h : k < R.length), R[k].cap = c) /\ Below w.heap.size w w' := by
 subst hl;have HX := H5 h; clear h;have HS := H5 hs; clear hs;refine callsIn_of_wp_marks Tryz.func73 rfl trivial ?_ rfl;simp only [Tryz.ntmps73, List.size_toArray, List.length_cons, List.length_nil, Nat.reduceAdd, Nat.reduceSub, Array.replicate_succ, Array.replicate_zero, List.push_toArray, List.append_toArray, List.nil_append, List.cons_append];refine wpIn_wide.2 ?_;have hb0 : Below w.heap.size w (w.alloc (.cells #[.int .i64 (r : Int), .int .i64 (c : Int), .slice ao xs.length cap] 24)) := (Below.refl _ _).alloc (Nat.le_refl _) _;have hr0 := a6.new w #[.int .i64 (r : Int), .int .i64 (c : Int), .slice ao xs.length cap] 24;have HB0 := H5 hb0; clear hb0;have HR0 := H5 hr0; clear hr0;go_wp2_with (at_make; refine zJ rfl _ _ rfl 0 r rfl rfl rfl rfl (Nat.zero_le _) (by omega) ?_; intro o w1 hm1; have hr1 := (HR0.out.below hm1.below HR0.out.lt).alloc (.cells #[.slice (some ⟨o, 0, none⟩) 0 r] 76); have c0 := hr1.cell 0; have c1 := hr1.cell 1; have c2 := hr1.cell 2; have hm := H5 hm1; clear hm1 hr1; simp only [List.getElem?_cons_zero, List.getElem?_cons_succ] at c0 c1 c2)
 have hr2 := hm.out.row.alloc (.cells #[.slice (some ⟨o, 0, none⟩) 0 r] 76);have hr3 := a6.new w1 #[.slice (some ⟨o, 0, none⟩) 0 r] 76;have hb2 : Below w.heap.size w (w1.alloc (.cells #[.slice (some ⟨o, 0, none⟩) 0 r] 76)) := (HB0.out.trans (hm.out.below.mono HB0.out.size)).alloc (by have := HB0.out.size; have := hm.out.below.size; omega) _;have hg1 : w.heap.size < w1.heap.size := Nat.lt_of_lt_of_le HR0.out.lt hm.out.below.size;have ho1 : w.heap.size < o /\ o < w1.heap.size := by
  have h1 := hm.out.at_;have h2 := HR0.out.lt;have h3 := hm.out.size;omega
 generalize hw2 : w1.alloc (.cells #[.slice (some ⟨o, 0, none⟩) 0 r] 76) = w2 at *;have hs2 : w2.heap.size = w1.heap.size + 1 := by rw [<- hw2]; simp
 have HR2 := H5 hr2; clear hr2;have HR3 := H5 hr3; clear hr3;have HB2 := H5 hb2; clear hb2;clear hm hw2 HB0 HR0 c0 c1 c2;have hsnd : aU (r : Int) (c : Int) xs.length = true := by
  unfold aU cP;rw [HS.out];simp; omega
 refine (sU (r : Int) (c : Int) ao xs.length cap xs w2 (by omega) (by omega) (HX.out.below HB2.out) rfl hsnd (by rw [HS.out]; have := Nat.mul_le_mul hr hc; omega)).mono ?_;rintro e w3 ⟨⟨g, b, rfl, hg, hb, hRg, hRb⟩, hb3⟩;have hs3 := hb3.size;have HG := H5 hRg; clear hRg;have HRB := H5 hRb; clear hRb;have HR2' := H5 (HR2.out.below hb3 HR2.out.lt);have HR3' := H5 (HR3.out.below hb3 HR3.out.lt);have HB3 : Hid (Below w.heap.size w w3) := H5 (HB2.out.trans (hb3.mono HB2.out.size));clear hb3 HR2 HR3 HB2;go_wp2_with fail
 refine (wpIn_wide (n := 6)).1 ?_;have hne : w1.heap.size ≠ o := by omega
 have hI0 : yl w3 w3.heap.size w1.heap.size o r [] w3 := ⟨HR3'.out, by simpa [fS] using HR2'.out, fun z hz => by simp at hz, by simp, aO.refl _ _⟩;have HI0 := H5 hI0; clear hI0;refine tZ (S := fun k => k = w1.heap.size \/ k = o) (N := r) (Sx := vK r c xs) (E := vE w3.heap.size) (I := yl w3 w3.heap.size w1.heap.size o r) (gf := 89) (lb := #[.pointer (some ⟨g, 0, none⟩)]) (encs := NR.enc) rfl (enters_of Tryz.func89 (by kernel_rfl) rfl) (fun _ => rfl) ?hE ?hIl ?hIb HI0.out
  (fun x => { tmps := #[.agg #[.int .i64 (r : Int), .int .i64 (c : Int), .slice ao xs.length cap], .pointer (some ⟨w.heap.size, 0, none⟩), .slice none 0 0, .pointer (some ⟨w1.heap.size, 0, none⟩), undef, .slice (some ⟨x.2.aB, 0, none⟩) x.2.xs.length x.2.cap, .pointer (some ⟨w.heap.size, 0, none⟩), .int .i64 (r : Int), .slice (some ⟨o, 0, none⟩) 0 r, .agg #[.int .i64 (r : Int), .int .i64 (c : Int), .slice ao xs.length cap], .func (.func 89) #[] #[.pointer (some ⟨g, 0, none⟩)], .int .i64 (x.1 : Int), .slice (some ⟨x.2.aB, 0, none⟩) x.2.xs.length x.2.cap, undef, undef, undef, undef, undef], defers := [] })
  ?hseq ?assign ?body ?done
 case hE =>
  intro s x W l o1 o2 h hl ho hn;exact ⟨jt ho hn h.1, h.2⟩
 case hIl =>
  intro s W l o1 o2 h hl ho hn;exact ⟨gG ho hn h.box, gG ho hn h.row, fun z hz => ⟨jt ho hn (h.nums z hz).1, (h.nums z hz).2⟩, h.nd, ⟨h.r5.os, h.r5.tape, h.r5.output, by have := h.r5.size; simpa using this, fun k hk hs => (World.putObj_heap_other (by omega)).trans (h.r5.block k hk hs)⟩⟩
 case hIb =>
  intro s A B h hb;exact ⟨h.box.below hb h.box.lt, h.row.below hb h.row.lt, fun z hz => ⟨(h.nums z hz).1.below hb, (h.nums z hz).2⟩, h.nd, h.r5.below hb⟩
 case hseq =>
  intro l J W hW hJ hY hJ0;refine (sE 5 g b r c xs w3 (fun k => k = w1.heap.size \/ k = o) ?_ HG.out (by omega) HRB.out (by omega) HS.out (by omega) (by omega) hL l J W hW hJ hY hJ0 (by omega));rintro q (rfl | rfl)
  . exact ⟨_, _, HR3'.out, aK.slice aK.nil⟩
  . exact ⟨_, _, HR2'.out, fun v hv n => by simp at hv; simp [hv.2]⟩
 case assign =>
  intro l x W K hK;simp only [NR.enc]
  gi_wp2
  exact hK
 case body =>
  rintro l pre x W hI hE hlen;have hoW := hI.row.lt;have hbW := hI.box.lt;have hlenR : (fS r pre).length = r := by simp [fS]; omega
  have hA : ∀ X : Obj, a6 (W.alloc X) o 22 (fS r pre) := fun X => hI.row.alloc X;have hAb : ∀ X : Obj, a6 (W.alloc X) w1.heap.size 76 [.slice (some ⟨o, 0, none⟩) pre.length r] := fun X => hI.box.alloc X;have c0 : W.cell? ⟨w1.heap.size, 0, none⟩ = some (.slice (some ⟨o, 0, none⟩) pre.length r) := hI.box.cell 0;have f0 : W.frozen? ⟨w1.heap.size, 0, none⟩ = false := hI.box.free 0;have HI := H5 hI; clear hI;have HE := H5 hE; clear hE
  gi_wp2_with (gi_at_builtin; refine ru rfl _ _ 76 rfl 22 (.slice none 0 0) 1 24 Tryz.underlying76 rZ o 0 pre.length r ⟨W.heap.size, 0, none⟩ 1 1 [x.2.dk] rfl rfl rfl (cell_one_new _ _ _) (by simp [Value.oneCell', Hd.dk]) (by omega) (fun j hj => by simp at hj; subst hj; rw [(hA _).cell]; simp [hlenR, hlen]) (fun j hj => by simp at hj; subst hj; exact (hA _).free _) ?_; simp only [Nat.zero_add, Nat.mul_one, World.setCells]; have hrW := (hA (.cells #[x.2.dk] 22)).set pre.length x.2.dk; have hrB := (hAb (.cells #[x.2.dk] 22)).other (p := ⟨o, pre.length, none⟩) hne x.2.dk; skip)
  have hI := HI.out;have hE := HE.out;have hsw := hI.r5.size;have hrW' := hI.row.set pre.length x.2.dk;have hrB' := hI.box.other (p := ⟨o, pre.length, none⟩) hne x.2.dk;have hNo : aK (fS r pre) := fun v hv n => by
   simp only [fS, List.mem_append, List.mem_map, List.mem_replicate] at hv;rcases hv with ⟨z, _, rfl⟩ | ⟨_, rfl⟩ <;> simp [Hd.dk]
  obtain ⟨Wf, hWf⟩ : ∃ Wf, (W.setCell ⟨o, pre.length, none⟩ x.2.dk).setCell ⟨w1.heap.size, 0, none⟩ (.slice (some ⟨o, 0, none⟩) (pre.length + 1) r) = Wf := ⟨_, rfl⟩;rw [hWf];have hsf : Wf.heap.size = W.heap.size := by rw [<- hWf]; simp
  have hbl : Below Wf.heap.size Wf (Wf.alloc (.cells #[.slice (some ⟨x.2.aB, 0, none⟩) x.2.xs.length x.2.cap] 22)) := (Below.refl _ _).alloc (Nat.le_refl _) _;have hnum : ∀ y : NR, aJ W y.2.aB y.2.xs -> aJ Wf y.2.aB y.2.xs := by
   intro y hy;rw [<- hWf];exact (hy.kF hI.row (by decide) hNo pre.length x.2.dk).kF hrB' (by decide) (aK.slice aK.nil) 0 _
  refine ⟨?_, ?_, ?_⟩
  . rw [<- hWf]; exact ((KeepsOthers.setCell _ _ _).trans (KeepsOthers.setCell _ _ _)).trans (KeepsOthers.alloc _ _)
  . refine ee.trans (b := Wf) ?_ (ee.bF (hbl.mono (by omega)));rw [<- hWf];refine ⟨rfl, rfl, rfl, by simp, fun k hk hs => ?_⟩;exact (Below.heap_setCell _ _ _ _ (fun e => hs (.inl e))).trans (Below.heap_setCell _ _ _ _ (fun e => hs (.inr e)))
  . have hbx : a6 Wf w1.heap.size 76 [.slice (some ⟨o, 0, none⟩) (pre.length + 1) r] := by
     rw [<- hWf]; exact hrB'.set 0 (.slice (some ⟨o, 0, none⟩) (pre.length + 1) r)
    have hrw : a6 Wf o 22 (fS r (pre ++ [x])) := by
     have h1 := hrW'.other (p := ⟨w1.heap.size, 0, none⟩) (fun e => hne e.symm) (.slice (some ⟨o, 0, none⟩) (pre.length + 1) r);have e : (fS r pre).set pre.length x.2.dk = fS r (pre ++ [x]) := by
      unfold fS;obtain ⟨q, hq⟩ : ∃ q, r - pre.length = q + 1 := ⟨r - pre.length - 1, by omega⟩;have hq2 : r - (pre ++ [x]).length = q := by simp; omega
      rw [hq, hq2, List.replicate_succ, List.set_append_right _ _ (by simp)];simp
     rw [<- e, <- hWf]; exact h1
    refine ⟨?_, hrw.below hbl hrw.lt, ?_, ?_, ?_⟩
    . have := hbx.below hbl hbx.lt;simpa using this
    . intro z hz;rcases List.mem_append.1 hz with hz | hz
      . exact ⟨(hnum z (hI.nums z hz).1).below hbl, (hI.nums z hz).2⟩
      . simp only [List.mem_singleton] at hz; subst hz;exact ⟨(hnum z hE.1).below hbl, hE.2.1⟩
    . rw [List.map_append, List.nodup_append];refine ⟨hI.nd, by simp, fun u hu v hv => ?_⟩;simp only [List.map_cons, List.map_nil, List.mem_singleton] at hv;obtain ⟨y, hy, rfl⟩ := List.mem_map.1 hu;subst hv;exact hE.2.2 y hy
    . refine aO.below ?_ hbl;rw [<- hWf];exact (hI.r5.set (p := ⟨o, pre.length, none⟩) (.inr rfl) _).set (p := ⟨w1.heap.size, 0, none⟩) (.inl rfl) _
 case done =>
  rintro D zs W hD hS hI hK;have hl : zs.length = r := hS.1;have c0 : W.cell? ⟨w1.heap.size, 0, none⟩ = some (.slice (some ⟨o, 0, none⟩) zs.length r) := hI.box.cell 0;have HI := H5 hI; clear hI;simp only [Exit.inBlock];go_wp2;refine ⟨by simp, .inl ⟨_, _, rfl, run_takeDeferred hK, ?_⟩⟩;refine ⟨_, results_tmp rfl _ _ _, ?_⟩;have hI := HI.out;have hS2 := hS.2;have hrow : a6 W o 22 (zs.map (fun z => z.2.dk)) := by
   have := hI.row;unfold fS at this;rw [hl, Nat.sub_self] at this;simpa using this
  refine ⟨⟨o, zs.map (fun z => z.2), ?_, ⟨?_, ?_, ?_⟩, by simp [hl], ?_, by omega, ?_, by rw [List.map_map]; exact gG hK rfl hrow, fun k hk => by rw [List.getElem_map, hS2 k (by simpa using hk)]⟩, ?_⟩
  . simp [hl]
  . rw [List.map_map]; exact (gG hK rfl hrow).pre
  . intro h hh;obtain ⟨z, hz, rfl⟩ := List.mem_map.1 hh;exact jt hK rfl (hI.nums z hz).1
  . rw [List.map_map]; exact hI.nd
  . intro k hk;have hk' : k < zs.length := by simpa using hk
    have := hS2 k hk';rw [List.getElem_map, this]
  . intro x hx;obtain ⟨z, hz, rfl⟩ := List.mem_map.1 hx;have := (hI.nums z hz).2;have := HB3.out.size;omega
  . refine HB3.out.trans ?_;refine (hI.r5.ot (B := w.heap.size) ?_ HB3.out.size).trans ⟨rfl, rfl, rfl, by simp, fun k hk => World.putObj_heap_other (by have := HB3.out.size; omega)⟩;rintro k (rfl | rfl) <;> omega
theorem B9 (r c : Nat) (ao : Option Addr) (len cap : Nat) (xs : List Int) (w : World) (hr : r <= 64) (hc : c <= 64) (h : bc w 17592186044415 ao xs) (hL : ∀ x ∈ xs, aa x.natAbs <= 17592186044415) (hl : len = xs.length) (hs : xs.length = r * c) :
 CallsIn Fence.wide 6 Tryz.prog 73 #[.agg #[.int .i64 (r : Int), .int .i64 (c : Int), .slice ao len cap]] w fun e w' => (∃ o R, e = .returned (.slice (some ⟨o, 0, none⟩) R.length r) /\ er w' o R /\ R.length = r /\ (∀ k (h : k < R.length), R[k].xs = rowOf xs c k) /\ w.heap.size <= o /\ (∀ x ∈ R, w.heap.size <= x.aB)) /\ Below w.heap.size w w' :=
 (Az r c ao len cap xs w hr hc h hL hl hs).mono (fun e w' ⟨⟨o, R, h1, h2, h3, h4, h5, h6, _⟩, hb⟩ => ⟨⟨o, R, h1, h2, h3, h4, h5, h6⟩, hb⟩)
theorem wu (o cap B c k : Nat) (R R' : List Hd) (w : World) (h : er w o R) (hB : B <= 4000000000000) (hP : mX B c 0 R.length R k R') (hR : R.length <= 100000) (hc : c <= 1000000) :
 Calls Tryz.prog 72 #[.slice (some ⟨o, 0, none⟩) R.length cap] w fun e w' => e = .returned (.tuple #[.slice (some ⟨o, 0, none⟩) R'.length cap, .int .i64 (k : Int)]) /\ er w' o R' /\ aO (fun q => q = o \/ ∃ r ∈ R, r.aB = q) w w' := by
 have HM := H5 h; clear h;have HP := H5 hP; clear hP;go_enter Tryz.func72, Tryz.ntmps72;go_wp2_with fail
 refine (New_c o cap R _ HM.out).mono ?_;rintro e w2 ⟨⟨lb, sb, g, rfl, hL, h1, h2, h3⟩, hb2⟩;have HL := H5 hL; clear hL;have HB2 := H5 hb2; clear hb2;go_wp2_with fail
 refine (xx ⟨lb, o, sb, g, cap, R, none⟩ B c k R' _ HL.out hB HP.out hR hc (fun t h => by cases h)).mono ?_;rintro e w3 ⟨rfl, hL3, hC3⟩;have L3 := H5 hL3;have C3 : Hid (aO (fun q => q = o \/ ∃ r ∈ R, r.aB = q) w w3) := H5 ((aO.bF HB2.out).trans (hC3.mono (fun q _ e => by rcases e with e | ⟨t, ht, _⟩; exact e; cases ht)));have cb : w3.cell? ⟨lb, 0, none⟩ = some (.slice (some ⟨o, 0, none⟩) R'.length cap) := L3.out.lad.cell 0;clear hL3 hC3;go_wp2;refine bodyPost_ret (results_tmp2 (t := 2) (u := 3) (by kernel_rfl) _ _ _) rfl ?_;exact ⟨rfl, L3.out.dF, C3.out⟩
theorem sH {fn : Func} {p : Tmp} (h : fn.results = #[.cell p 24]) (tmps : Array Value) (w : World) (g : Nat) (a b c : Value) (hp : tmps.getD p undef = .pointer (some ⟨g, 0, none⟩)) (hr : a6 w g 24 [a, b, c]) :
 (results fn tmps).run Tryz.prog w = .ok (.agg #[a, b, c]) w :=
 results_cell_row h tmps w g 24 #[a, b, c] (0, 0) _ hp hr Tryz.underlying24 rfl (by kernel_rfl)
structure yO (w : World) (L o : Nat) (xss : List (List Int)) : Prop where
 lt : o < w.heap.size
 row : ∀ i (h : i < xss.length), ∃ ao cap, w.cell? ⟨o, i, none⟩ = some (.slice ao xss[i].length cap) /\ bc w L ao xss[i]
structure pw (w : World) (b m n c N : Nat) (cu : List Int) (W : World) : Prop where
 box : a6 W m 24 [.int .i64 (n : Int), .int .i64 (c : Int), .slice (some ⟨b, 0, none⟩) cu.length N]
 row : aJ W b (cu ++ List.replicate (N - cu.length) 0)
 res : a6 W w.heap.size 24 [.int .i64 0, .int .i64 0, .slice none 0 0]
 bel : Below w.heap.size w W
theorem pw.app {w : World} {b m n c N k : Nat} {cu : List Int} {W : World} (h : pw w b m n c N cu W) (hb : w.heap.size < b /\ b < m) (hk : cu.length = k) (hkN : k + 1 <= N) {p : P4} {x : Int} (hx : aN W (av p) x) (W2 : World)
 (e : (W.alloc (.cells #[.bool p.1, .slice p.2.1 p.2.2.1 p.2.2.2] 40)).setCells b (k * 2) [.bool p.1, .slice p.2.1 p.2.2.1 p.2.2.2] = W2) :
 a6 W2 m 24 [.int .i64 (n : Int), .int .i64 (c : Int), .slice (some ⟨b, 0, none⟩) k N] /\ pw w b m n c N (cu ++ [x]) (W2.setCell ⟨m, 2, none⟩ (.slice (some ⟨b, 0, none⟩) (k + 1) N)) := by
 have hb1 : Below W.heap.size W (W.alloc (.cells #[.bool p.1, .slice p.2.1 p.2.2.1 p.2.2.2] 40)) := (Below.refl _ _).alloc (Nat.le_refl _) _;generalize W.alloc (.cells #[.bool p.1, .slice p.2.1 p.2.2.1 p.2.2.2] 40) = W1 at *;subst hk;have hx1 := hx.below hb1;have hr1 := h.row.below hb1;have hm1 := h.box.below hb1 h.box.lt;have hs1 := h.res.below hb1 h.res.lt;have hB1 := h.bel.trans (hb1.mono h.bel.size);have e2 : (W1.setCell ⟨b, cu.length * 2, none⟩ (.bool p.1)).setCell ⟨b, cu.length * 2 + 1, none⟩ (.slice p.2.1 p.2.2.1 p.2.2.2) = W2 := by rw [<- e]; rfl
 have hr2 : aJ W2 b ((cu ++ List.replicate (N - cu.length) 0).set cu.length x) := by rw [<- e2]; exact hr1.set cu.length hx1
 have hne : m ≠ b := by omega
 have hm2 : a6 W2 m 24 [.int .i64 (n : Int), .int .i64 (c : Int), .slice (some ⟨b, 0, none⟩) cu.length N] := by
  rw [<- e2]; exact (hm1.other (p := ⟨b, cu.length * 2, none⟩) hne _).other (p := ⟨b, cu.length * 2 + 1, none⟩) hne _
 have hs2 : a6 W2 w.heap.size 24 [.int .i64 0, .int .i64 0, .slice none 0 0] := by
  rw [<- e2]; exact (hs1.other (p := ⟨b, cu.length * 2, none⟩) (by show w.heap.size ≠ b; omega) _).other (p := ⟨b, cu.length * 2 + 1, none⟩) (by show w.heap.size ≠ b; omega) _
 have hB2 : Below w.heap.size w W2 := by
  rw [<- e2]; exact (hB1.setCell (p := ⟨b, cu.length * 2, none⟩) (Nat.le_of_lt hb.1) _).setCell (p := ⟨b, cu.length * 2 + 1, none⟩) (Nat.le_of_lt hb.1) _
 refine ⟨hm2, ?_, ?_, ?_, ?_⟩
 . have := hm2.set 2 (.slice (some ⟨b, 0, none⟩) (cu.length + 1) N);simpa using this
 . have e3 : (cu ++ List.replicate (N - cu.length) 0).set cu.length x = (cu ++ [x]) ++ List.replicate (N - (cu ++ [x]).length) 0 := by
    obtain ⟨q, hq⟩ : ∃ q, N - cu.length = q + 1 := ⟨N - cu.length - 1, by omega⟩;have hq2 : N - (cu ++ [x]).length = q := by simp; omega
    rw [hq, hq2, List.replicate_succ, List.set_append_right _ _ (Nat.le_refl _)];simp
   rw [<- e3];exact hr2.kF hm2 (by decide) (aK.dF (n : Int) (c : Int) _ _ _) 2 _
 . exact hs2.other (p := ⟨m, 2, none⟩) (by show w.heap.size ≠ m; omega) _
 . exact hB2.setCell (p := ⟨m, 2, none⟩) (by show w.heap.size <= m; omega) _
theorem x6 (w : World) (x y : Value) (t : TypeId) : ∀ j u, [x, y][j]? = some u -> (w.alloc (.cells #[x, y] t)).cell? ((⟨w.heap.size, 0, none⟩ : Addr).add j) = some u := by
 intro j u hj;have := (a6.new w #[x, y] t).cell j;have e : ((⟨w.heap.size, 0, none⟩ : Addr).add j) = ⟨w.heap.size, j, none⟩ := by unfold Addr.add; simp; omega
 rw [e, this]; exact hj
theorem pw.spare {w : World} {b m n c N k : Nat} {cu : List Int} {W : World} (h : pw w b m n c N cu W) (hk : cu.length = k) (hkN : k + 1 <= N) (X : Obj) (j : Nat) (hj : j < 2) : ((W.alloc X).cell? ⟨b, 0 + k * 2 + j, none⟩).isSome = true /\ (W.alloc X).frozen? ⟨b, 0 + k * 2 + j, none⟩ = false := by
 have hb1 : Below W.heap.size W (W.alloc X) := (Below.refl _ _).alloc (Nat.le_refl _) _;have hr1 := h.row.below hb1;refine ⟨?_, hr1.free _⟩;obtain ⟨q, h0, h1, _⟩ := hr1.get (i := k) (by simp [hk]; omega);have hj2 : j = 0 \/ j = 1 := by omega
 rcases hj2 with rfl | rfl
 . rw [Nat.zero_add, Nat.add_zero, h0]; rfl
 . rw [Nat.zero_add, h1]; rfl
theorem jr {xss : List (List Int)} {c : Nat} (hc : ∀ x ∈ xss, x.length = c) : xss.flatten.length = xss.length * c := by
 induction xss with
 | nil => simp
 | cons x xs ih =>
  rw [List.flatten_cons, List.length_append, ih (fun y hy => hc y (List.mem_cons_of_mem _ hy)), hc x (List.mem_cons_self ..), List.length_cons, Nat.succ_mul]; omega
theorem lU {xss : List (List Int)} {c i : Nat} (hc : ∀ x ∈ xss, x.length = c) (hi : i <= xss.length) : (xss.take i).flatten.length = i * c := by
 rw [jr (fun x hx => hc x (List.mem_of_mem_take hx)), List.length_take, Nat.min_eq_left hi]
theorem lC {xss : List (List Int)} {i : Nat} (hi : i < xss.length) : (xss.take (i + 1)).flatten = (xss.take i).flatten ++ xss[i] := by
 rw [List.take_succ_eq_append_getElem hi, List.flatten_append]; simp
theorem xH (o cap n c : Nat) (xss : List (List Int)) (w : World) (h : yO w 17592186044415 o xss) (hn : xss.length = n) (hc : ∀ x ∈ xss, x.length = c) (hn1 : n <= 10000) (hc1 : c <= 10000) :
 Calls Tryz.prog 74 #[.slice (some ⟨o, 0, none⟩) n cap, .int .i64 (c : Int)] w fun e w' => (∃ b, e = .returned (.agg #[.int .i64 (n : Int), .int .i64 (c : Int), .slice (some ⟨b, 0, none⟩) (n * c) (n * c)]) /\ w.heap.size <= b /\ aJ w' b xss.flatten) /\ Below w.heap.size w w' := by
 have hnc : n * c <= 100000000 := Nat.mul_le_mul hn1 hc1;have hw1 : wrap64 ((n : Int) * (c : Int)) = ((n * c : Nat) : Int) := by
  rw [<- Int.natCast_mul]; unfold wrap64; omega
 obtain ⟨N, hN⟩ : ∃ N, n * c = N := ⟨_, rfl⟩;rw [hN] at hw1 hnc |-;have HN := H5 hN; clear hN;have HX := H5 h; clear h;go_enter Tryz.func74, Tryz.ntmps74;go_wp2_with (at_make; refine v7 rfl _ _ rfl 0 N rfl rfl rfl (by omega) (Nat.zero_le _) (by omega) ?_; intro b w1 hm1)
 have hI : pw w b w1.heap.size n c N [] (w1.alloc (.cells #[.int .i64 (n : Int), .int .i64 (c : Int), .slice (some ⟨b, 0, none⟩) 0 N] 24)) := by
  have h0 := a6.new w #[.int .i64 0, .int .i64 0, .slice none 0 0] 24;have hb0 : Below w.heap.size w (w.alloc (.cells #[.int .i64 0, .int .i64 0, .slice none 0 0] 24)) := (Below.refl _ _).alloc (Nat.le_refl _) _;have hb1 : Below w1.heap.size w1 (w1.alloc (.cells #[.int .i64 (n : Int), .int .i64 (c : Int), .slice (some ⟨b, 0, none⟩) 0 N] 24)) := (Below.refl _ _).alloc (Nat.le_refl _) _;refine ⟨a6.new _ _ _, ?_, ?_, ?_⟩
  . simpa using (aJ.tj hm1.row).below hb1
  . exact (h0.below hm1.below h0.lt).alloc _
  . exact (hb0.trans (hm1.below.mono hb0.size)).trans (hb1.mono (Nat.le_trans hb0.size hm1.below.size))
 have hbl : w.heap.size < b /\ b < w1.heap.size := by
  have h1 := hm1.at_; have h2 := hm1.size; rw [World.size_alloc] at h1 h2; omega
 have HI := H5 hI; clear hI;clear hm1;generalize w1.alloc (.cells #[.int .i64 (n : Int), .int .i64 (c : Int), .slice (some ⟨b, 0, none⟩) 0 N] 24) = w2 at *;obtain ⟨m, hm⟩ : ∃ m, w1.heap.size = m := ⟨_, rfl⟩;rw [hm] at hbl HI |-;clear hm;have HC := H5 hc; clear hc;go_loopw [21] (fun i_ wr => ∃ (i : Nat), i <= n /\ i_ = .int .i64 (i : Int) /\ Hid (pw w b m n c N (xss.take i).flatten wr)) (fun i_ _ => n - (intOf i_).toNat)
 case atStart => exact ⟨0, Nat.zero_le _, rfl, H5 (by simpa using HI.out)⟩
 case round =>
  obtain ⟨i, hi, rfl, hIr⟩ := hrel;by_cases hin : i < n
  . have hix : i < xss.length := by omega
    have hin1 : (i : Int) < (n : Int) := by omega
    obtain ⟨ra, rc, hroww, hls⟩ := HX.out.row i hix;have hrow0 := (hIr.out.bel.cell (p := ⟨o, i, none⟩) HX.out.lt).trans hroww;clear hroww;have hxl : xss[i].length = c := HC.out _ (List.getElem_mem hix);rw [hxl] at hrow0;have HXL := H5 hxl; clear hxl;have HLS := H5 hls; clear hls;have hmul : (i + 1) * c <= N := by rw [<- HN.out]; exact Nat.mul_le_mul_right _ hin
    have hmul2 : (i + 1) * c = i * c + c := Nat.succ_mul i c;have hfl : (xss.take i).flatten.length = i * c := lU HC.out (by omega);have HFL := H5 hfl; clear hfl;have HM := H5 (And.intro hmul hmul2); clear hmul hmul2;go_wp2;go_loopw [27] (fun j_ wq => ∃ (j : Nat), j <= c /\ j_ = .int .i64 (j : Int) /\ Hid (pw w b m n c N ((xss.take i).flatten ++ xss[i].take j) wq)) (fun j_ _ => c - (intOf j_).toNat)
    case atStart => exact ⟨0, Nat.zero_le _, rfl, H5 (by simpa using hIr.out)⟩
    case round =>
     obtain ⟨j, hj, rfl, hIq⟩ := hrel;by_cases hjc : j < c
     . have hjc1 : (j : Int) < (c : Int) := by omega
       have hjx : j < xss[i].length := by rw [HXL.out]; exact hjc
       obtain ⟨k, hk⟩ : ∃ k, i * c + j = k := ⟨_, rfl⟩;have hkN : k + 1 <= N := by have := HM.out; omega
       obtain ⟨cu, hcu⟩ : ∃ cu, (xss.take i).flatten ++ xss[i].take j = cu := ⟨_, rfl⟩;rw [hcu] at hIq;have hcl : cu.length = k := by rw [<- hcu, List.length_append, HFL.out, List.length_take, Nat.min_eq_left (by omega)]; exact hk
       have hcu2 : (xss.take i).flatten ++ xss[i].take (j + 1) = cu ++ [xss[i][j]] := by
        rw [List.take_succ_eq_append_getElem hjx, <- List.append_assoc, hcu]
       obtain ⟨x, hx⟩ : ∃ x, xss[i][j] = x := ⟨_, rfl⟩;obtain ⟨ab, aoff, hra, hab, hcells⟩ := (HLS.out.below hIq.out.bel) (by omega);subst hra;obtain ⟨px, cx0, cx1, hnx⟩ := hcells j hjx;rw [hx] at hnx hcu2;have HCU := H5 hcu2; clear hcu2 hcu hcells hx;have HK := H5 hk; clear hk;have hb1 : Below wr.heap.size wr (wr.alloc (.cells #[.bool px.1, .slice px.2.1 px.2.2.1 px.2.2.2] 40)) := (Below.refl _ _).alloc (Nat.le_refl _) _;have Hnx := H5 (hnx.below hb1); clear hnx;have hIa : pw w b m n c N cu (wr.alloc (.cells #[.bool px.1, .slice px.2.1 px.2.2.1 px.2.2.2] 40)) :=
        ⟨hIq.out.box.below hb1 hIq.out.box.lt, hIq.out.row.below hb1, hIq.out.res.below hb1 hIq.out.res.lt, hIq.out.bel.trans (hb1.mono hIq.out.bel.size)⟩
       have HIa := H5 hIa; clear hIa;have hxr := a6.new wr #[.bool px.1, .slice px.2.1 px.2.2.1 px.2.2.2] 40;have HXR := H5 hxr; clear hxr;have hsm : m < wr.heap.size := hIq.out.box.lt;clear hIq hb1;go_wp2;generalize wr.alloc (.cells #[.bool px.1, .slice px.2.1 px.2.2.1 px.2.2.2] 40) = w5 at *;obtain ⟨xb, hxb⟩ : ∃ xb, wr.heap.size = xb := ⟨_, rfl⟩;rw [hxb] at HXR hsm |-;have q0 : w5.cell? ⟨xb, 0, none⟩ = some (.bool px.1) := HXR.out.cell 0;have q1 : w5.cell? ⟨xb, 1, none⟩ = some (.slice px.2.1 px.2.2.1 px.2.2.2) := HXR.out.cell 1;have c2 : w5.cell? ⟨m, 2, none⟩ = some (.slice (some ⟨b, 0, none⟩) k N) := by have := HIa.out.box.cell 2; rw [hcl] at this; exact this
       clear cx0 cx1 hrow0;obtain ⟨i0, hi0, hz0, hsz0, hby0⟩ := info_parts kW;have hrl : (cu ++ List.replicate (N - cu.length) 0).length = N := by rw [List.length_append, List.length_replicate, hcl]; omega
       go_region_law (first
        | (refine step_append_room rfl (.tmp 32) (.tmp 35) 22 rfl 40 i0 2 Tryz.underlying22 hi0 hsz0 b 0 k N rfl ⟨w6.heap.size, 0, none⟩ 1 1 [.bool pz.1, .slice pz.2.1 pz.2.2.1 pz.2.2.2] rfl rfl (x6 w6 _ _ _) (by simp [Value.oneCell']) (by omega) (fun j hj => HI6.out.spare hcl hkN _ j hj) ?_; obtain ⟨w7, hw7⟩ : ∃ w7, (w6.alloc (.cells #[.bool pz.1, .slice pz.2.1 pz.2.2.1 pz.2.2.2] 40)).setCells b (k * 2) [.bool pz.1, .slice pz.2.1 pz.2.2.1 pz.2.2.2] = w7 := ⟨_, rfl⟩; have hI7 := HI6.out.app hbl hcl hkN HZ6.out w7 hw7; simp only [Nat.zero_add]; rw [hw7]; have g2 := hI7.1.cell 2; have gf2 := hI7.1.free 2; simp only [List.getElem?_cons_zero, List.getElem?_cons_succ] at g2; have HI7 := H5 hI7; clear hI7 hw7)
        | (go_simp; go_at_call 40; refine (gJ (av px) x _ (a8.below (w := w5) Hnx.out (Below.refl _ _).drew)).mono ?_; rintro e w6 ⟨⟨vz, rfl, hvz⟩, hb6⟩; obtain ⟨pz, rfl⟩ := aN.parts hvz.num; have HZ6 := H5 hvz.num; unfold av at *; have hI6 : pw w b m n c N cu w6 := ⟨a6.below (w := w5.drew) HIa.out.box hb6 HIa.out.box.lt, aJ.below (w := w5.drew) HIa.out.row hb6, a6.below (w := w5.drew) HIa.out.res hb6 HIa.out.res.lt, HIa.out.bel.drew.trans (hb6.mono HIa.out.bel.size)⟩; have HI6 := H5 hI6; clear hI6; have k2 := HI6.out.box.cell 2; rw [hcl] at k2; have k3 := (HI6.out.box.alloc (.cells #[.bool pz.1, .slice pz.2.1 pz.2.2.1 pz.2.2.2] 40)).cell 2; rw [hcl] at k3; simp only [List.getElem?_cons_zero, List.getElem?_cons_succ] at k2 k3; clear hb6 hvz))
       all_goals go_wp2
       all_goals refine ⟨⟨j + 1, by omega, by go_num, H5 ?_⟩, ?_⟩
       all_goals first
        | (rw [HCU.out]; exact HI7.out.2)
        | (simp [intOf]; omega)
     . obtain rfl : j = c := by omega
       go_wp2;go_roundw
       case rel =>
        refine ⟨i + 1, by omega, by go_num, H5 ?_⟩;rw [lC hix];have h9 := hIq.out;rw [List.take_of_length_le (l := xss[i]) (by rw [HXL.out]; exact Nat.le_refl _)] at h9;exact h9
       case measure => simp [intOf]; omega
  . obtain rfl : i = n := by omega
    have hce : (xss.take i).flatten = xss.flatten := by rw [List.take_of_length_le (by omega)]
    have HCE := H5 hce; clear hce;have hcl : (xss.take i).flatten.length = N := by rw [HCE.out, jr HC.out, hn]; exact HN.out
    have c0 := hIr.out.box.cell 0;have c1 := hIr.out.box.cell 1;have c2 := hIr.out.box.cell 2;have d0 := hIr.out.res.cell 0;have d1 := hIr.out.res.cell 1;have d2 := hIr.out.res.cell 2;have f0 := hIr.out.res.free 0;have f1 := hIr.out.res.free 1;have f2 := hIr.out.res.free 2;rw [hcl] at c2;simp only [List.getElem?_cons_zero, List.getElem?_cons_succ] at c0 c1 c2 d0 d1 d2;clear hcl;go_wp2;have hrm := hIr.out.row;rw [HCE.out, jr HC.out, hn, HN.out, Nat.sub_self] at hrm;simp only [List.replicate_zero, List.append_nil] at hrm;refine bodyPost_ret (sH (p := 4) (by kernel_rfl) _ _ w.heap.size _ _ _ rfl (hIr.out.res.Ch (.int .i64 (i : Int)) (.int .i64 (c : Int)) (.slice (some ⟨b, 0, none⟩) N N))) rfl ?_;exact ⟨⟨b, rfl, by omega, hrm.ua hIr.out.res (i : Int) (c : Int) _ _ _⟩, ((hIr.out.bel.setCell (p := ⟨w.heap.size, 0, none⟩) (Nat.le_refl _) _).setCell (p := ⟨w.heap.size, 1, none⟩) (Nat.le_refl _) _).setCell (p := ⟨w.heap.size, 2, none⟩) (Nat.le_refl _) _⟩
theorem mV {fn : Func} {p q : Tmp} (h : fn.results = #[.cell p 24, .tmp q]) (tmps : Array Value) (w : World) (g : Nat) (a b c : Value) (hp : tmps.getD p undef = .pointer (some ⟨g, 0, none⟩)) (hr : a6 w g 24 [a, b, c]) :
 (results fn tmps).run Tryz.prog w = .ok (.tuple #[.agg #[a, b, c], tmps.getD q undef]) w := je h tmps w g a b c hp hr
theorem aJ.gW {w : World} {b : Nat} {xs : List Int} (h : aJ w b xs) {L : Nat} (hL : ∀ x ∈ xs, aa x.natAbs <= L) : bc w L (some ⟨b, 0, none⟩) xs := by
 intro _;refine ⟨b, 0, rfl, h.lt, fun i hi => ?_⟩;obtain ⟨p, h0, h1, hn⟩ := h.get hi;exact ⟨p, by simpa using h0, by simpa using h1, hn.int (hL _ (List.getElem_mem hi))⟩
theorem er.CN {w : World} {o : Nat} {R : List Hd} (h : er w o R) {L : Nat} (hL : ∀ r ∈ R, ∀ x ∈ r.xs, aa x.natAbs <= L) (k : Nat) (hk : k <= R.length) : yO w L o ((R.take k).map Hd.xs) := by
 refine ⟨h.lt, fun i hi => ?_⟩;have hi' : i < R.length := by simp at hi; omega
 have hm : R[i] ∈ R := List.getElem_mem hi';refine ⟨some ⟨R[i].aB, 0, none⟩, R[i].cap, ?_, ?_⟩
 . rw [h.dk hi'];simp [Hd.dk]
 . have := (h.row _ hm).gW (hL _ hm);simpa using this
theorem wV {R : List Hd} {D : Nat} (h : ∀ i b, (aw R i b).natAbs < W ^ D) : ∀ r ∈ R, ∀ x ∈ r.xs, aa x.natAbs <= D := by
 intro r hr x hx;obtain ⟨i, hi, rfl⟩ := List.getElem_of_mem hr;obtain ⟨j, hj, rfl⟩ := List.getElem_of_mem hx;have := h i j;rw [dq hi, iJ _ _ hj] at this;exact an this
abbrev hW (m : Nat) : Nat := fz 66 m
theorem yt (r c m : Nat) (ao : Option Addr) (len cap : Nat) (xs : List Int) (w : World) (hr : r <= 64) (hc : c <= 64) (h : bc w 17592186044415 ao xs) (hm : ∀ x ∈ xs, x.natAbs < W ^ m) (hm1 : m <= 140000000) (hl : len = xs.length) (hs : xs.length = r * c) :
 Calls Tryz.prog 60 #[.agg #[.int .i64 (r : Int), .int .i64 (c : Int), .slice ao len cap]] w fun e w' => (∃ b hs k l, e = .returned (.tuple #[.agg #[.int .i64 (r : Int), .int .i64 (c : Int), .slice (some ⟨b, 0, none⟩) (r * c) (r * c)], .int .i64 0]) /\ w.heap.size <= b /\ aJ w' b hs /\ bP r c xs hs k l /\ ∀ x ∈ hs, x.natAbs < W ^ hW m) /\ Below w.heap.size w w' := by
 subst hl;have hlad : tS 66 m <= 4000000000000 := by unfold tS fz; omega
 have hhw : hW m <= 17592186044415 := by unfold hW fz; omega
 have hwl : ∀ x ∈ xs, aa x.natAbs <= 17592186044415 := fun x hx => Nat.le_trans (an (hm x hx)) (by omega);have HXS := H5 h; clear h;have HLad := H5 (And.intro hlad (And.intro hhw hwl)); clear hlad hhw hwl;have HMM := H5 hm; clear hm;have hsnd : aU (r : Int) (c : Int) xs.length = true := by
  unfold aU cP;rw [hs]; simp; omega
 have HS := H5 hs; clear hs;have HCK := H5 (fp hsnd); clear hsnd;go_enter Tryz.func60, Tryz.ntmps60;go_wp2_with fail
 obtain ⟨r1, r2, hb⟩ := gg w #[.int .i64 (r : Int), .int .i64 (c : Int), .slice ao xs.length cap] #[.int .i64 0, .int .i64 0, .slice none 0 0] 24 24;generalize (w.alloc (.cells #[.int .i64 (r : Int), .int .i64 (c : Int), .slice ao xs.length cap] 24)).alloc (.cells #[.int .i64 0, .int .i64 0, .slice none 0 0] 24) = w2 at *;refine (cY (r : Int) (c : Int) ao xs.length cap _ (by omega) (by omega)).mono ?_;rintro e w3 ⟨rfl, hb3⟩;rw [HCK.out];have R1 := H5 (r1.below hb3 r1.lt);have R2 := H5 (r2.below hb3 r2.lt);have L3 := H5 ((HXS.out.below hb).below hb3);have B3 := H5 (hb.trans (hb3.mono hb.size));have hs2 : w.heap.size + 1 < w3.heap.size := R2.out.lt;have e0 : w3.cell? ⟨w.heap.size, 0, none⟩ = some (.int .i64 (r : Int)) := R1.out.cell 0;have e1 : w3.cell? ⟨w.heap.size, 1, none⟩ = some (.int .i64 (c : Int)) := R1.out.cell 1;have e2 : w3.cell? ⟨w.heap.size, 2, none⟩ = some (.slice ao xs.length cap) := R1.out.cell 2;clear r1 r2 hb hb3;go_wp2_with fail
 refine (callsIn_wide.1 (B9 r c ao xs.length cap xs w3 hr hc L3.out HLad.out.2.2 rfl HS.out)).mono ?_;rintro e w4 ⟨⟨o, R, rfl, hM, hRl, hRx, hob, hRb⟩, hb4⟩;obtain ⟨hSh, hE⟩ := xw hRl HS.out hRx;obtain ⟨k, R', hRed, hOk⟩ := wm (N := 66) (B := 4000000000000) (m := m) hSh (fun i b => by rw [hE]; exact kO (gV m) HMM.out i b) (by omega) (by omega) HLad.out.1;have hlR' : R'.length = r := hOk.len.trans hRl;obtain ⟨l, hH, hHb⟩ := BI hRl hE hOk;have hred := wu o r 4000000000000 c k R R' w4 hM (Nat.le_refl _) hRed (by omega) (by omega);rw [hRl] at hred;have HRed := H5 hred; clear hred;have HOk := H5 hOk; clear hOk;have HH := H5 (And.intro hH hHb); clear hH hHb;have R14 := H5 (R1.out.below hb4 R1.out.lt);have R24 := H5 (R2.out.below hb4 R2.out.lt);have B4 := H5 (B3.out.trans (hb4.mono B3.out.size));have HRb := H5 (And.intro hob hRb);clear hRed hM hb4 e0 e1 e2 hSh hE hRx hob hRb R1 R2 L3 B3;rw [hRl];go_wp2_with fail
 refine HRed.out.mono ?_;rintro e w5 ⟨rfl, hM5, hC5⟩;rw [hlR'];have hown : ∀ q, (q = o \/ ∃ x ∈ R, x.aB = q) -> w3.heap.size <= q := by
  rintro q (rfl | ⟨x, hx, rfl⟩)
  . exact HRb.out.1
  . exact HRb.out.2 x hx
 have hns : ∀ q, q < w3.heap.size -> ¬ (q = o \/ ∃ x ∈ R, x.aB = q) := fun q hq h => by have := hown q h; omega
 have R15 := H5 (hC5.row R14.out (hns _ (by omega)));have R25 := H5 (hC5.row R24.out (hns _ hs2));have B5 : Hid (Below w.heap.size w w5) := H5 (B4.out.trans (hC5.ot (B := w.heap.size) (fun q hq => by have := hown q hq; omega) B4.out.size));have hrows := hM5.CN (L := 17592186044415) (fun x hx y hy => Nat.le_trans (wV HOk.out.bd x hx y hy) HLad.out.2.1) r (by omega);rw [List.take_of_length_le (by omega)] at hrows;have HRows := H5 hrows; clear hrows;have c1 : w5.cell? ⟨w.heap.size, 1, none⟩ = some (.int .i64 (c : Int)) := R15.out.cell 1;have hsh5 : ∀ x ∈ R'.map Hd.xs, x.length = c := fun x hx => by
  obtain ⟨q, hq, rfl⟩ := List.mem_map.1 hx; exact HOk.out.sh q hq
 clear hM5 hC5 R14 R24 B4 HRed hown hns;go_wp2_with fail
 refine (xH o r r c (R'.map Hd.xs) w5 HRows.out (by rw [List.length_map, hlR']) hsh5 (by omega) (by omega)).mono ?_;rintro e w6 ⟨⟨b, rfl, hbb, hRb6⟩, hb6⟩;have R26 := H5 (R25.out.below hb6 R25.out.lt);have B6 := H5 (B5.out.trans (hb6.mono B5.out.size));have HR6 := H5 hRb6;have hs5 : w.heap.size <= w5.heap.size := B5.out.size;clear hRb6 hb6 c1;have z0 := R26.out.cell 0;have z1 := R26.out.cell 1;have z2 := R26.out.cell 2;have y0 := R26.out.free 0;have y1 := R26.out.free 1;have y2 := R26.out.free 2;go_wp2;refine bodyPost_ret (mV (p := 2) (q := 3) (by kernel_rfl) _ _ (w.heap.size + 1) _ _ _ rfl (R26.out.Ch (.int .i64 (r : Int)) (.int .i64 (c : Int)) (.slice (some ⟨b, 0, none⟩) (r * c) (r * c)))) rfl ?_;exact ⟨⟨b, _, k, l, rfl, by omega, HR6.out.ua R26.out (r : Int) (c : Int) _ _ _, HH.out.1, HH.out.2⟩, ((B6.out.setCell (p := ⟨w.heap.size + 1, 0, none⟩) (Nat.le_succ _) _).setCell (p := ⟨w.heap.size + 1, 1, none⟩) (Nat.le_succ _) _).setCell (p := ⟨w.heap.size + 1, 2, none⟩) (Nat.le_succ _) _⟩
end Go.Proofs.YtbgecfleamckcaaGreat
namespace Go.Proofs.YtbgecfleamckcaaGreat
end Go.Proofs.YtbgecfleamckcaaGreat
namespace Go.Proofs.YtbgecfleamckcaaGreat
open Go.RowKit
def aT (c k : Nat) (xs : List Int) : List Nat := (dh c k xs).map Int.natAbs
theorem As (r c m : Nat) (ao : Option Addr) (cap : Nat) (xs : List Int) (w : World) (hr : r <= 64) (hc : c <= 64) (h : bc w 17592186044415 ao xs) (hm : ∀ x ∈ xs, x.natAbs < W ^ m) (hm1 : m <= 140000000) (hs : xs.length = r * c) (hd : ∀ hs k l, bP r c xs hs k l -> fy r c hs) :
 Calls Tryz.prog 31 #[.agg #[.int .i64 (r : Int), .int .i64 (c : Int), .slice ao xs.length cap]] w fun e w' => (∃ p : List Int × Option Addr × Nat, e = .returned (.tuple #[.agg #[.int .i64 (r : Int), .int .i64 (c : Int), .slice p.2.1 (r * c) p.2.2], .int .i64 0]) /\ dw w' p.2.1 (bD c (aS (nt (aC (aT c (min r c) p.1)))) (r * c)) /\ (∃ k l, bP r c xs p.1 k l) /\ ∀ b o, p.2.1 = some ⟨b, o, none⟩ -> w.heap.size <= b) /\ Below w.heap.size w w' := by
 have HF0 : Hid (∀ w', bc w' 17592186044415 ao xs -> Calls Tryz.prog 60 #[.agg #[.int .i64 (r : Int), .int .i64 (c : Int), .slice ao xs.length cap]] w' fun e w'' => (∃ p : Nat × List Int, e = .returned (.tuple #[.agg #[.int .i64 (r : Int), .int .i64 (c : Int), .slice (some ⟨p.1, 0, none⟩) (r * c) (r * c)], .int .i64 0]) /\ dw w'' (some ⟨p.1, 0, none⟩) p.2 /\ ((∃ k l, bP r c xs p.2 k l) /\ p.2.length = r * c /\ ∀ x ∈ p.2, x.natAbs < W ^ hW m) /\ ∀ b o, some (⟨p.1, 0, none⟩ : Addr) = some ⟨b, o, none⟩ -> w'.heap.size <= b) /\ Below w'.heap.size w' w'') :=
  H5 fun w' h' => (yt r c m ao xs.length cap xs w' hr hc h' hm (by omega) rfl hs).mono fun e w'' ⟨⟨b, hs', k, l, he, hb, hR, hH, hB⟩, hbl⟩ => ⟨⟨(b, hs'), he, hR.x4, ⟨⟨k, l, hH⟩, hH.len, hB⟩, fun b' o e => by cases e; exact hb⟩, hbl⟩
 have hhw : hW m * 64 + 1 <= 8796093022207 := by unfold hW fz; omega
 obtain ⟨M, hM⟩ : ∃ M, hW m = M := ⟨_, rfl⟩;rw [hM] at HF0 hhw;have HD : Hid (∀ hs k l, bP r c xs hs k l -> fy r c hs) := H5 hd;have hrc : r * c <= 4096 := Nat.mul_le_mul hr hc;clear hs hd hm hM;refine bJ (S0 := fun _ => False) Tryz.func31 ((Fr.nil _ w).l h (by simp)) ?_;refine ak ?_;refine aW fun g1 => ?_;refine aW fun g2 => ?_;refine az ?_;refine c9 ?_;refine jc (α := Nat × List Int) (mk := fun p => .tuple #[.agg #[.int .i64 (r : Int), .int .i64 (c : Int), .slice (some ⟨p.1, 0, none⟩) (r * c) (r * c)], .int .i64 0]) (ao := fun p => some ⟨p.1, 0, none⟩) (xs := fun p => p.2) (A := fun p => (∃ k l, bP r c xs p.2 k l) /\ p.2.length = r * c /\ ∀ x ∈ p.2, x.natAbs < W ^ M) (fun w' H => HF0.out w' H.m2) fun p => ?_;obtain ⟨b, hs⟩ := p;refine aI ?_;refine aW fun g4 => ?_;refine sG ?_;refine dW ?_;refine eW ?_;refine u5 (A := ((∃ k l, bP r c xs hs k l) /\ hs.length = r * c /\ ∀ x ∈ hs, x.natAbs < W ^ M) /\ ∀ b' o, some (⟨b, 0, none⟩ : Addr) = some ⟨b', o, none⟩ -> w.heap.size <= b') (by simp) fun hA => ?_;obtain ⟨⟨hH, hl, hB⟩, _⟩ := hA;have hdg : fy r c hs := by obtain ⟨k, l, h⟩ := hH; exact HD.out _ _ _ h
 have HH : Hid ((∃ k l, bP r c xs hs k l) /\ fy r c hs /\ hs.length = r * c /\ ∀ x ∈ hs, x.natAbs < W ^ M) := H5 ⟨hH, hdg, hl, hB⟩;have hwl : ∀ x ∈ hs, aa x.natAbs <= 17592186044415 := fun x hx => Nat.le_trans (an (hB x hx)) (by omega);have HWL : Hid (∀ x ∈ hs, aa x.natAbs <= 17592186044415) := H5 hwl;clear hH hl hB hdg hwl;refine ak ?_;refine dW ?_;refine az ?_;refine gM ?_;refine ak ?_;refine az ?_;refine di (X := Unit) (fun _ => True) (fun _ => 0) (fun _ => [(6, .bool false), (4, .pointer (some ⟨g4, 0, none⟩)), (2, .pointer (some ⟨g2, 0, none⟩)), (1, .pointer (some ⟨g1, 0, none⟩))])
  (fun _ => [.row g4 24 [.int .i64 (r : Int), .int .i64 (c : Int), .slice (some ⟨b, 0, none⟩) (r * c) (r * c)], .row g2 24 [.int .i64 0, .int .i64 0, .slice none 0 0], .row g1 24 [.int .i64 (r : Int), .int .i64 (c : Int), .slice ao xs.length cap], .jL (some ⟨b, 0, none⟩) hs]) () trivial fun _ _ => ?_
 refine ak ?_;refine dW ?_;refine cV (v := .bool true) (fun w' H => by
  have h1 : dw w' (some ⟨b, 0, none⟩) hs := H.m3;have := qH (cap := r * c) true hr hc (h1.gW HWL.out) (by omega) HH.out.2.2.1 ⟨fun _ => HH.out.2.1, fun _ => rfl⟩;rw [HH.out.2.2.1] at this; exact this) ?_
 refine az ?_;refine gM ?_;refine kR ?_;have hkr : min r c <= 64 := Nat.le_trans (Nat.min_le_left ..) hr;have HDN : Hid (∀ w', dw w' (some ⟨b, 0, none⟩) hs -> Calls Tryz.prog 32 #[.agg #[.int .i64 (r : Int), .int .i64 (c : Int), .slice (some ⟨b, 0, none⟩) (r * c) (r * c)]] w' fun e w'' => (∃ q : Nat, e = .returned (.slice (some ⟨q, 0, none⟩) (min r c) (min r c)) /\ dw w'' (some ⟨q, 0, none⟩) (dh c (min r c) hs) /\ True /\ ∀ b o, some (⟨q, 0, none⟩ : Addr) = some ⟨b, o, none⟩ -> w'.heap.size <= b) /\ Below w'.heap.size w' w'') := H5 fun w' h1 => by
  have := lL r c (some ⟨b, 0, none⟩) (r * c) 17592186044415 hs w' hr hc (h1.gW HWL.out) (by omega) HH.out.2.2.1;rw [HH.out.2.2.1] at this;exact this.mono fun e w'' ⟨⟨q, he, hq, hR⟩, hb⟩ => ⟨⟨q, he, hR.x4, trivial, fun b' o e => by cases e; exact hq⟩, hb⟩
 have hdl : ∀ x ∈ dh c (min r c) hs, x.natAbs < W ^ M := fun x hx => by
  unfold dh at hx;obtain ⟨i, hi, rfl⟩ := List.mem_map.1 hx;have hi := List.mem_range.1 hi;refine HH.out.2.2.2 _ (gX ?_);rw [HH.out.2.2.1];exact sf (by have := Nat.min_le_left r c; omega) (by have := Nat.min_le_right r c; omega)
 have hP : aa (du (aT c (min r c) hs)) <= 8796093022207 := by
  have h1 := jU M (aT c (min r c) hs) (fun x hx => by
   unfold aT at hx;obtain ⟨y, hy, rfl⟩ := List.mem_map.1 hx;exact hdl y hy)
  have h2 : (aT c (min r c) hs).length = min r c := by rw [aT, List.length_map, aQ]
  rw [h2] at h1;have h3 : M * min r c <= M * 64 := Nat.mul_le_mul_left _ hkr;have h4 := an (Nat.lt_of_le_of_lt h1 (Nat.pow_lt_pow_right (by decide : 1 < W) (Nat.lt_succ_self (M * min r c))));omega
 have hcl : (aC (aT c (min r c) hs)).length = min r c := by rw [fB, fZ, aT, List.length_map, aQ]
 have HCH : Hid (∀ w' q, dw w' (some ⟨q, 0, none⟩) (dh c (min r c) hs) -> Calls Tryz.prog 63 #[.slice (some ⟨q, 0, none⟩) (min r c) (min r c)] w' fun e w'' => (∃ q2 : Nat, e = .returned (.slice (some ⟨q2, 0, none⟩) (min r c) (min r c)) /\ dw w'' (some ⟨q2, 0, none⟩) (nt (aC (aT c (min r c) hs))) /\ True /\ ∀ b o, some (⟨q2, 0, none⟩ : Addr) = some ⟨b, o, none⟩ -> w'.heap.size <= b) /\ Below w'.heap.size w' w'') := H5 fun w' q h1 => by
  have := o0 (some ⟨q, 0, none⟩) (min r c) 17592186044415 (dh c (min r c) hs) w' (h1.gW fun x hx => Nat.le_trans (an (hdl x hx)) (by omega)) (Nat.le_refl _) (by rw [aQ]; omega) hP;rw [aQ] at this;exact this.mono fun e w'' ⟨⟨q2, he, hq, hR⟩, hb⟩ => ⟨⟨q2, he, hR.x4, trivial, fun b' o e => by cases e; exact hq⟩, hb⟩
 have hnl : ∀ x ∈ nt (aC (aT c (min r c) hs)), aa x.natAbs <= 17592186044415 := fun x hx => by
  unfold nt at hx;obtain ⟨y, hy, rfl⟩ := List.mem_map.1 hx;have := lO (P := du (aT c (min r c) hs)) (fun z hz => Dv.oD hz) y hy;exact Nat.le_trans (aF (this.le (gE _))) (Nat.le_trans hP (by omega))
 have HDG : Hid (∀ w' q, dw w' (some ⟨q, 0, none⟩) (nt (aC (aT c (min r c) hs))) -> Calls Tryz.prog 21 #[.int .i64 (r : Int), .int .i64 (c : Int), .slice (some ⟨q, 0, none⟩) (min r c) (min r c)] w' fun e w'' => (∃ p : Option Addr × Nat, e = .returned (.tuple #[.agg #[.int .i64 (r : Int), .int .i64 (c : Int), .slice p.1 (r * c) p.2], .int .i64 0]) /\ dw w'' p.1 (bD c (aS (nt (aC (aT c (min r c) hs)))) (r * c)) /\ True /\ ∀ b o, p.1 = some ⟨b, o, none⟩ -> w'.heap.size <= b) /\ Below w'.heap.size w' w'') := H5 fun w' q h1 => by
  have := nf r c (some ⟨q, 0, none⟩) (min r c) 17592186044415 (nt (aC (aT c (min r c) hs))) w' hr hc (by rw [aG, hcl]; exact Nat.le_refl _) (h1.gW hnl) (Nat.le_refl _);rw [aG, hcl] at this;exact this
 clear hcl hnl hP hdl hkr;obtain ⟨k, hk⟩ : ∃ k, min r c = k := ⟨_, rfl⟩;rw [hk] at HDN HCH HDG |-;clear hk;refine rW [] ?_;refine aI ?_;refine dr ?_;refine jc (α := Nat) (mk := fun q => .slice (some ⟨q, 0, none⟩) k k) (ao := fun q => some ⟨q, 0, none⟩) (xs := fun _ => dh c k hs) (A := fun _ => True) (fun w' H => HDN.out w' H.m3) fun q1 => ?_;refine jc (α := Nat) (mk := fun q => .slice (some ⟨q, 0, none⟩) k k) (ao := fun q => some ⟨q, 0, none⟩) (xs := fun _ => nt (aC (aT c k hs))) (A := fun _ => True) (fun w' H => HCH.out w' q1 H.m0) fun q2 => ?_;refine jc (α := Option Addr × Nat) (mk := fun p => .tuple #[.agg #[.int .i64 (r : Int), .int .i64 (c : Int), .slice p.1 (r * c) p.2], .int .i64 0]) (ao := fun p => p.1) (xs := fun _ => bD c (aS (nt (aC (aT c k hs)))) (r * c)) (A := fun _ => True) (fun w' H => HDG.out w' q2 H.m0) fun q3 => ?_;refine dr ?_;refine sW ?_;refine az ?_;refine fh fun w' H => ?_;exact ⟨_, _, xc H.m7, cH, ⟨(hs, q3), rfl, H.m0, HH.out.1, (show True /\ ∀ b o, q3.1 = some ⟨b, o, none⟩ -> w.heap.size <= b from H.m1).2⟩, H.below⟩
def wE (c : Nat) (xs : List Int) (i j : Nat) : Int := gi xs (j * c + i)
def jf (r c : Nat) (xs : List Int) : List Int := bD r (wE c xs) (c * r)
theorem iR (r c : Nat) (xs : List Int) : (jf r c xs).length = c * r := cF ..
theorem Ci {r c i j : Nat} (xs : List Int) (hi : i < c) (hj : j < r) : gi (jf r c xs) (i * r + j) = gi xs (j * c + i) := iM (wE c xs) hi hj
theorem qC {r c : Nat} {xs : List Int} (hs : xs.length = r * c) {x : Int} (h : x ∈ jf r c xs) : x ∈ xs := by
 unfold jf bD at h;obtain ⟨q, hq, rfl⟩ := List.mem_map.1 h;have hq := List.mem_range.1 hq;have hr : 0 < r := by
  rcases Nat.eq_zero_or_pos r with h | h
  . subst h; simp at hq
  . exact h
 refine gX ?_;rw [hs];exact sf (Nat.mod_lt _ hr) (Nat.div_lt_of_lt_mul (by rw [Nat.mul_comm]; exact hq))
theorem xQ (r c i j g : Nat) (ao : Option Addr) (cap L : Nat) (xs : List Int) (w : World) (hr : r <= 64) (hc : c <= 64) (hi : i < c) (hj : j < r) (hg : a6 w g 24 [.int .i64 (r : Int), .int .i64 (c : Int), .slice ao xs.length cap]) (hA : bc w L ao xs) (hL : L <= 17592186044415) (hs : xs.length = r * c) :
 Calls Tryz.prog 105 #[.int .i64 (i : Int), .int .i64 (j : Int), .pointer (some ⟨g, 0, none⟩)] w fun e w' => (∃ v, e = .returned v /\ ae w' w.heap.size v (wE c xs i j)) /\ Below w.heap.size w w' := by
 have hlt := sf (r := r) (c := c) hj hi;have hrc : r * c <= 4096 := Nat.mul_le_mul hr hc;obtain ⟨bx, ox, rfl⟩ := hA.pos (i := j * c + i) (by rw [hs]; exact hlt);obtain ⟨A, hA'⟩ : ∃ A, j * c = A := ⟨_, rfl⟩;obtain ⟨B, hB⟩ : ∃ B, A + i = B := ⟨_, rfl⟩;have hBl : B < xs.length := by rw [hs, <- hB, <- hA']; exact hlt
 have hBl' : (B : Int) < (xs.length : Int) := by omega
 have hAs : j * c < 9223372036854775808 := by omega
 have hgl : A + i < 9223372036854775807 := by omega
 have e0 : wE c xs i j = gi xs B := by rw [wE, hA', hB]
 rw [e0];have HB : Hid (B < xs.length) := H5 hBl;clear hs hlt hrc e0 hBl;refine bJ (S0 := fun _ => False) Tryz.func105 ((((Fr.nil _ w).l hA (by simp)).cl (hg.cell 2) (by simp [En.wr])).cl (hg.cell 1) (by simp [En.wr])) ?_;refine ak ?_;refine aW fun g5 => ?_;refine eW ?_;refine ou (L := L) (xs := xs) (b := bx) (o := ox) B (by simp) HB.out fun p => ?_;refine ak ?_;refine aI ?_;refine dr ?_;refine dE ((xZ (a := j) (b := c) hAs).trans (by rw [hA'])) ?_;refine dW ?_;refine dE ((uj (a := A) (b := i) hgl).trans (by rw [hB])) ?_;refine dr ?_;refine cN (fun w' H => gJ (av p) _ w' (H.m2.mono hL)) fun q => ?_;refine sW ?_;refine fg ?_;refine cd fun w' H => ?_;exact ⟨_, ka H.m4, ⟨_, rfl, H.m0⟩, H.below⟩
theorem sJ (r c : Nat) (ao : Option Addr) (cap L : Nat) (xs : List Int) (w : World) (hr : r <= 64) (hc : c <= 64) (hA : bc w L ao xs) (hL : L <= 17592186044415) (hs : xs.length = r * c) :
 Calls Tryz.prog 86 #[.agg #[.int .i64 (r : Int), .int .i64 (c : Int), .slice ao xs.length cap]] w fun e w' => (∃ p : Option Addr × Nat, e = .returned (.tuple #[.agg #[.int .i64 (c : Int), .int .i64 (r : Int), .slice p.1 (c * r) p.2], .int .i64 0]) /\ dw w' p.1 (jf r c xs) /\ True /\ ∀ b o, p.1 = some ⟨b, o, none⟩ -> w.heap.size <= b) /\ Below w.heap.size w w' := by
 have hC : ∀ w', Calls Tryz.prog 6 #[.agg #[.int .i64 (r : Int), .int .i64 (c : Int), .slice ao xs.length cap]] w' fun e w'' => e = .returned (.int .i64 0) /\ Below w'.heap.size w' w'' := fun w' => by
  have := cY (r : Int) (c : Int) ao xs.length cap w' (by omega) (by omega);rw [fp (by unfold aU cP; rw [hs]; simp; omega)] at this; exact this
 have HS : Hid (xs.length = r * c) := H5 hs;clear hs;refine bJ (S0 := fun _ => False) Tryz.func86 ((Fr.nil _ w).l hA (by simp)) ?_;refine ak ?_;refine aW fun g1 => ?_;refine aW fun g2 => ?_;refine az ?_;refine c9 ?_;refine cV (fun w' H => hC w') ?_;refine az ?_;refine c9 ?_;refine az ?_;refine gM ?_;refine ak ?_;refine aI ?_;refine dW ?_;refine fW ?_;refine jc (α := Option Addr × Nat) (mk := fun p => .agg #[.int .i64 (c : Int), .int .i64 (r : Int), .slice p.1 (c * r) p.2]) (ao := fun p => p.1) (xs := fun _ => jf r c xs) (A := fun _ => True)
  (fun w' H => (sK 105 (fun _ _ => by go_simp) c r g1 (wE c xs) w' hc hr (fun i j w2 hi hj hb => by
   have h1 : a6 w' g1 24 [.int .i64 (r : Int), .int .i64 (c : Int), .slice ao xs.length cap] := H.m1;have h2 : bc w' L ao xs := H.m2;exact xQ r c i j g1 ao cap L xs w2 hr hc hi hj (h1.below hb h1.lt) (h2.below hb) hL HS.out)).mono (by
    rintro e w3 ⟨⟨ao', cap', rfl, hl, _, hS⟩, hb⟩;exact ⟨⟨(ao', cap'), rfl, hl, trivial, hS⟩, hb⟩)) fun q => ?_
 refine sW ?_;refine az ?_;refine fh fun w' H => ?_;exact ⟨_, _, xc H.m2, cH, ⟨q, rfl, H.m0, trivial, (show True /\ ∀ b o, q.1 = some ⟨b, o, none⟩ -> w.heap.size <= b from H.m1).2⟩, H.below⟩
theorem qT (r c m : Nat) (ao : Option Addr) (cap : Nat) (xs : List Int) (w : World) (hr : r <= 64) (hc : c <= 64) (h : bc w 17592186044415 ao xs) (hm : ∀ x ∈ xs, x.natAbs < W ^ m) (hm1 : m <= 140000000) (hs : xs.length = r * c) :
 Calls Tryz.prog 60 #[.agg #[.int .i64 (r : Int), .int .i64 (c : Int), .slice ao (r * c) cap]] w fun e w' => (∃ p : Nat × List Int, e = .returned (.tuple #[.agg #[.int .i64 (r : Int), .int .i64 (c : Int), .slice (some ⟨p.1, 0, none⟩) (r * c) (r * c)], .int .i64 0]) /\ dw w' (some ⟨p.1, 0, none⟩) p.2 /\ ((∃ k l, bP r c xs p.2 k l) /\ p.2.length = r * c /\ ∀ x ∈ p.2, x.natAbs < W ^ hW m) /\ ∀ b o, some (⟨p.1, 0, none⟩ : Addr) = some ⟨b, o, none⟩ -> w.heap.size <= b) /\ Below w.heap.size w w' :=
 (yt r c m ao (r * c) cap xs w hr hc h hm hm1 hs.symm hs).mono fun e w'' ⟨⟨b, hs', k, l, he, hb, hR, hH, hB⟩, hbl⟩ => ⟨⟨(b, hs'), he, hR.x4, ⟨⟨k, l, hH⟩, hH.len, hB⟩, fun b' o e => by cases e; exact hb⟩, hbl⟩
theorem r9 {w : World} {m : Nat} {ao : Option Addr} {xs : List Int} (h : dw w ao xs) (hm : ∀ x ∈ xs, x.natAbs < W ^ m) (h1 : m <= 17592186044415) : bc w 17592186044415 ao xs := h.gW fun x hx => Nat.le_trans (an (hm x hx)) h1
theorem pQ (r c m : Nat) (ao : Option Addr) (cap : Nat) (xs : List Int) (w : World) (hr : r <= 64) (hc : c <= 64) (hA : bc w 17592186044415 ao xs) (hm : ∀ x ∈ xs, x.natAbs < W ^ m) (hm1 : m <= 140000000) (hs : xs.length = r * c) :
 Calls Tryz.prog 62 #[.agg #[.int .i64 (r : Int), .int .i64 (c : Int), .slice ao (r * c) cap]] w fun e w' => (∃ p : List Int × Option Addr × Nat, e = .returned (.agg #[.int .i64 (r : Int), .int .i64 (c : Int), .slice p.2.1 (r * c) p.2.2]) /\ dw w' p.2.1 (jf c r p.1) /\ ((∃ k l, bP c r (jf r c xs) p.1 k l) /\ p.1.length = c * r /\ ∀ x ∈ p.1, x.natAbs < W ^ hW m) /\ ∀ b o, p.2.1 = some ⟨b, o, none⟩ -> w.heap.size <= b) /\ Below w.heap.size w w' := by
 have hT1 := fun w' h => sJ r c ao cap 17592186044415 xs w' hr hc h (Nat.le_refl _) hs;rw [hs] at hT1;have hF := fun w' ao cap (h : dw w' ao (jf r c xs)) => qT c r m ao cap (jf r c xs) w' hc hr (r9 h (fun x hx => hm x (qC hs hx)) (by omega)) (fun x hx => hm x (qC hs hx)) hm1 (iR ..);have hhw : hW m <= 17592186044415 := by unfold hW fz; omega
 have hT2 := fun w' ao cap (ts : List Int) (h : dw w' ao ts) (hl : ts.length = c * r) (hB : ∀ x ∈ ts, x.natAbs < W ^ hW m) => by
  have := sJ c r ao cap 17592186044415 ts w' hc hr (r9 h hB hhw) (Nat.le_refl _) hl;rw [hl] at this; exact this
 obtain ⟨M, hM⟩ : ∃ M, hW m = M := ⟨_, rfl⟩;rw [hM] at hF hT2 |-;have HT1 := H5 hT1;have HF := H5 hF;have HT2 := H5 hT2;clear hT1 hF hT2 hM hhw hs hm;refine bJ (S0 := fun _ => False) Tryz.func62 ((Fr.nil _ w).l hA (by simp)) ?_;refine ak ?_;refine aW fun g1 => ?_;refine aW fun g2 => ?_;refine eW ?_;refine ak ?_;refine dW ?_;refine jc (α := Option Addr × Nat) (mk := fun p => .tuple #[.agg #[.int .i64 (c : Int), .int .i64 (r : Int), .slice p.1 (c * r) p.2], .int .i64 0]) (ao := fun p => p.1) (xs := fun _ => jf r c xs) (A := fun _ => True) (fun w' H => HT1.out w' H.m2) fun q1 => ?_;refine aI ?_;refine aW fun g3 => ?_;refine sG ?_;refine az ?_;refine c9 ?_;refine jc (α := Nat × List Int) (mk := fun p => .tuple #[.agg #[.int .i64 (c : Int), .int .i64 (r : Int), .slice (some ⟨p.1, 0, none⟩) (c * r) (c * r)], .int .i64 0]) (ao := fun p => some ⟨p.1, 0, none⟩) (xs := fun p => p.2) (A := fun p => (∃ k l, bP c r (jf r c xs) p.2 k l) /\ p.2.length = c * r /\ ∀ x ∈ p.2, x.natAbs < W ^ M) (fun w' H => HF.out w' _ _ H.m1) fun q2 => ?_;obtain ⟨b, ts⟩ := q2;refine aI ?_;refine sW ?_;refine eW ?_;refine u5 (A := ((∃ k l, bP c r (jf r c xs) ts k l) /\ ts.length = c * r /\ ∀ x ∈ ts, x.natAbs < W ^ M) /\ ∀ b' o, some (⟨b, 0, none⟩ : Addr) = some ⟨b', o, none⟩ -> w.heap.size <= b') (by simp) fun hA => ?_;have HH := H5 hA.1;clear hA;refine iq (es' := [.row g3 24 [.int .i64 (c : Int), .int .i64 (r : Int), .slice (some ⟨b, 0, none⟩) (c * r) (c * r)], .row g2 24 [.int .i64 0, .int .i64 0, .slice none 0 0], .jL (some ⟨b, 0, none⟩) ts]) ?_;refine ak ?_;refine dW ?_;refine jc (α := Option Addr × Nat) (mk := fun p => .tuple #[.agg #[.int .i64 (r : Int), .int .i64 (c : Int), .slice p.1 (r * c) p.2], .int .i64 0]) (ao := fun p => p.1) (xs := fun _ => jf c r ts) (A := fun _ => True) (fun w' H => HT2.out w' _ _ ts H.m2 HH.out.2.1 HH.out.2.2) fun q3 => ?_;refine aI ?_;refine sW ?_;refine eW ?_;refine iq (es' := [.row g3 24 [.int .i64 (r : Int), .int .i64 (c : Int), .slice q3.1 (r * c) q3.2], .row g2 24 [.int .i64 0, .int .i64 0, .slice none 0 0], .jL q3.1 (jf c r ts), .pr (True /\ ∀ b o, q3.1 = some ⟨b, o, none⟩ -> w.heap.size <= b)]) ?_;refine ak ?_;refine dW ?_;refine sW ?_;refine fg ?_;refine cd fun w' H => ?_;exact ⟨_, xc H.m1, ⟨(ts, q3), rfl, H.m2, HH.out, (show True /\ ∀ b o, q3.1 = some ⟨b, o, none⟩ -> w.heap.size <= b from H.m3).2⟩, H.below⟩
end Go.Proofs.YtbgecfleamckcaaGreat
