/- Part 5 of 6 of the proof that the law SnfBlocks returns true for every input of bulk at most 1048576 and leaves its arguments as they were: here the contracts of the functions that it calls, and plain lemmas. -/
import Derived.RangeFuncNested
import Derived.RangeFuncBound
import Derived.RangeFuncCalls
import Derived.RangeFuncLeaves
import Derived.Shelf.Abstract
import Derived.Shelf.RegionOpen
import Derived.WalkKit
import Derived.OwnWalkIn
import Derived.TacticsInMore
import Derived.LoopNIn
import Derived.LoopIn
import Derived.Maps.AppendAt
import Derived.Deep.RegionLaw
import Derived.Test.YtllkjlcdcbilcaaPkD
set_option linter.all false
namespace Go.Proofs.Ytllkjlcdcbilcaa
open Go.RowKit
theorem lead_ne : ∀ {xs : List Int} {j : Nat} (_ : lead xs = j) (hj : j < xs.length), xs[j] ≠ 0
 | x :: xs, j, h, hj => by
  unfold lead at h;by_cases h0 : x = 0
  · rw [if_pos h0] at h;subst h;simpa using lead_ne (xs := xs) rfl (by simpa using hj)
  · rw [if_neg h0] at h;subst h;simpa using h0
theorem NumAt.sign {w : World} {p : P4} {x : Int} (h : NumAt w (av p) x) (hx : x ≠ 0) : p.1 = decide (x < 0) := by
 obtain ⟨n, ao, len, cap, ws, he, hW, hl, hL, hc, rfl⟩ := h.1;unfold av at he;have : p.1 = n := by injection he with he; simp at he; exact he.1
 rw [this];exact zi_neg_iff hx
def turnT (R : List Hd) (i : Nat) : List Hd := if h : i < R.length then turnR R i h else R
def swapT (R : List Hd) (i j : Nat) : List Hd := if h : i < R.length /\ j < R.length then swapR R i j h.1 h.2 else R
theorem turnT_eq {R : List Hd} {i : Nat} (hi : i < R.length) : turnT R i = turnR R i hi := by unfold turnT; rw [dif_pos hi]
theorem swapT_eq {R : List Hd} {i j : Nat} (hi : i < R.length) (hj : j < R.length) : swapT R i j = swapR R i j hi hj := by unfold swapT; rw [dif_pos ⟨hi, hj⟩]
theorem turnT_length (R : List Hd) (i : Nat) : (turnT R i).length = R.length := by
 unfold turnT; split
 · unfold turnR; rw [setXs_length]
 · rfl
theorem swapT_length (R : List Hd) (i j : Nat) : (swapT R i j).length = R.length := by
 unfold swapT; split
 · exact swapR_length ..
 · rfl
theorem mixT_length (R : List Hd) (i j : Nat) (a b c d : Int) : (mixT R i j a b c d).length = R.length := by
 unfold mixT; split
 · unfold mixR; rw [setXs_length, setXs_length]
 · rfl
theorem meetT_length (R : List Hd) (k n j : Nat) : (meetT R k n j).length = R.length := by
 unfold meetT meetA; split
 · exact addT_length ..
 · rw [mixT_length]; exact addT_length ..
def swapsT (at_ : Nat) : Nat -> List Hd -> List Hd
 | 0, R => R
 | i + 1, R => if i + 1 <= at_ then R else swapsT at_ i (swapT R (i + 1) i)
inductive PutT (B c n : Nat) : Nat -> Int -> List Hd -> Bool -> List Hd -> Prop
 | zero {at_ : Nat} {last : Int} {R R' : List Hd} (hF : Fit B c R) (h : leadOf R n = c ∨ (leadOf R n : Int) <= last) (hs : SOut B c (leadsOf R n) n n R R') : PutT B c n at_ last R false R'
 | stop {at_ : Nat} {last : Int} {R R' : List Hd} (hF : Fit B c R) (h1 : leadOf R n < c) (h2 : last < leadOf R n) (a : Nat) (ha : at_ <= a) (hn : a <= n) (hlt : ∀ i, at_ <= i -> i < a -> leadOf R i < leadOf R n) (hb : a = n ∨ leadOf R n < leadOf R a)
  (hF2 : Fit B c (swapsT a n (if ent R n (leadOf R n) < 0 then turnT R n else R)))
  (hs : SOut B c (leadsOf (swapsT a n (if ent R n (leadOf R n) < 0 then turnT R n else R)) (n + 1)) (n + 1) (n + 1) (swapsT a n (if ent R n (leadOf R n) < 0 then turnT R n else R)) R') : PutT B c n at_ last R true R'
 | meet {at_ : Nat} {last : Int} {R R' : List Hd} {b : Bool} (hF : Fit B c R) (h1 : leadOf R n < c) (h2 : last < leadOf R n) (a : Nat) (ha : at_ <= a) (hn : a < n) (hlt : ∀ i, at_ <= i -> i < a -> leadOf R i < leadOf R n) (hj : leadOf R a = leadOf R n)
  (hp : ent R a (leadOf R n) ≠ 0) (hF1 : Fit B c (meetA R a n (leadOf R n))) (hp1 : ent (meetA R a n (leadOf R n)) a (leadOf R n) ≠ 0)
  (hs : PutT B c n a (leadOf R n) (meetT R a n (leadOf R n)) b R') : PutT B c n at_ last R b R'
theorem own_turnT (S : LSt) (i k : Nat) : (S.withR (turnT S.R i)).own k ↔ S.own k := by
 unfold turnT; split
 · exact own_setXs S i _ k
 · exact Iff.rfl
theorem own_addT (S : LSt) (i j : Nat) (x : Int) (k : Nat) : (S.withR (addT S.R i j x)).own k ↔ S.own k := by
 unfold addT; split
 · exact own_setXs S i _ k
 · exact Iff.rfl
theorem own_mixT (S : LSt) (i j : Nat) (a b c d : Int) (k : Nat) : (S.withR (mixT S.R i j a b c d)).own k ↔ S.own k := by
 unfold mixT; split
 · exact (own_setXs (S.withR (setXs S.R i _)) j _ k).trans (own_setXs S i _ k)
 · exact Iff.rfl
theorem own_meetT (S : LSt) (a n j k : Nat) : (S.withR (meetT S.R a n j)).own k ↔ S.own k := by
 unfold meetT meetA; split
 · exact own_addT S n a _ k
 · exact (own_mixT (S.withR (addT S.R n a _)) a n _ _ _ _ k).trans (own_addT S n a _ k)
theorem own_swapT (S : LSt) (i j k : Nat) : (S.withR (swapT S.R i j)).own k ↔ S.own k := by
 unfold swapT; split
 · rename_i h;exact or_congr (rws_blk (fun b => swapR_blk h.1 h.2 b) k) Iff.rfl
 · exact Iff.rfl
set_option maxRecDepth 100000 in
set_option maxHeartbeats 8000000 in
theorem Put_c (S : LSt) (n B c : Nat) (res : Bool) (R' : List Hd) (w : World) (h : LadAt w S) (hn : n < S.R.length) (hB : B <= 4000000000000) (hP : PutT B c n 0 (-1) S.R res R') (hR : S.R.length <= 100000) (hc : c <= 1000000) (hT : S.sat B c) :
 Calls Try.prog 59 #[.pointer (some ⟨S.lb, 0, none⟩), .int .i64 (n : Int)] w fun e w' => e = .returned (.bool res) /\ LadAt w' (S.withR R') /\ Chg S.own w w' := by
 have HT := Lib.hid hT; clear hT;have HL := Lib.hid h; clear h;have HP := Lib.hid hP; clear hP;go_enter Try.func59, Try.ntmps59;go_wp2;go_loopw [5, 6] (fun a_ l_ wr => ∃ (at_ : Nat) (last : Int) (R : List Hd), at_ <= n /\ (-1 <= last /\ last <= (c : Int)) /\ a_ = .int .i64 (at_ : Int) /\ l_ = .int .i64 last /\ Hid (R.length = S.R.length) /\ Hid (PutT B c n at_ last R res R') /\ Hid (LadAt wr (S.withR R)) /\ Hid (Chg S.own w wr) /\ Hid (∀ k, (S.withR R).own k ↔ S.own k)) (fun _ l_ _ => ((c : Int) - intOf l_).toNat)
 case atStart => exact ⟨0, -1, S.R, Nat.zero_le _, ⟨by omega, by omega⟩, rfl, rfl, rfl, HP, HL, Chg.refl .., fun _ => Iff.rfl⟩
 case round =>
  obtain ⟨at_, last, R, hat, ⟨hl1, hl2⟩, rfl, rfl, hRl, hPt, hL, hC, hO⟩ := hrel;have hnR : n < R.length := by have := hRl.out; omega
  have hF : Hid (Fit B c R) := by
   have := hPt.out;cases this with
   | zero hF _ _ => exact hF
   | stop hF _ _ _ _ _ _ _ _ _ => exact hF
   | meet hF _ _ _ _ _ _ _ _ _ _ _ => exact hF
  have hcn : R[n].xs.length = c := hF.out.len _ (List.getElem_mem hnR);have hlead : leadOf R n = lead R[n].xs := leadOf_eq hnR;have hle := lead_le R[n].xs;have hn1 : (n : Int) < (R.length : Int) := by omega
  have cb : wr.cell? ⟨S.lb, 0, none⟩ = some (.slice (some ⟨S.o, 0, none⟩) R.length S.cap) := hL.out.lad.cell 0;have cn : wr.cell? ⟨S.o, n, none⟩ = some (.slice (some ⟨R[n].blk, 0, none⟩) R[n].xs.length R[n].cap) := hL.out.mat.hdr (i := n) hnR;rw [hcn] at cn hle;have Hcn := Lib.hid hcn; clear hcn;have Hlead := Lib.hid hlead; clear hlead;go_wp2_with fail
  have hLd := Lead_c R[n].blk R[n].cap R[n].xs wr (hL.out.mat.row _ (List.getElem_mem (l := R) hnR)) (fun x hx => by have := hF.out.fit _ (List.getElem_mem hnR) x hx; omega) (by rw [Hcn.out]; omega);rw [Hcn.out] at hLd;refine hLd.mono ?_;rintro e w2 ⟨rfl, hb2⟩;have L2 := Lib.hid (hL.out.below hb2);have C2 := Lib.hid (hC.out.below hb2);clear hLd hL hC hb2 cb cn;have cb : w2.cell? ⟨S.lb, 0, none⟩ = some (.slice (some ⟨S.o, 0, none⟩) R.length S.cap) := L2.out.lad.cell 0;have cn : w2.cell? ⟨S.o, n, none⟩ = some (.slice (some ⟨R[n].blk, 0, none⟩) R[n].xs.length R[n].cap) := L2.out.mat.hdr (i := n) hnR;rw [Hcn.out] at cn;obtain ⟨jj, hjj⟩ : ∃ jj, lead R[n].xs = jj := ⟨_, rfl⟩;rw [hjj] at hle ⊢;have hPj := hPt.out;have hld := Hlead.out;rw [hjj] at hld;have Hld := Lib.hid hld; clear hld;by_cases hz : jj = c ∨ (jj : Int) <= last
  · have hfin : res = false /\ SOut B c (leadsOf R n) n n R R' := by
     cases hPj with
     | zero _ _ hs => exact ⟨rfl, hs⟩
     | stop _ h1 h2 _ _ _ _ _ _ _ => rw [Hld.out] at h1 h2; omega
     | meet _ h1 h2 _ _ _ _ _ _ _ _ _ => rw [Hld.out] at h1 h2; omega
    obtain ⟨rfl, hs⟩ := hfin;have HSO := Lib.hid hs; clear hs;clear hPj hPt;by_cases hz1 : jj = c
    · have hz2 : ((jj : Int) == (c : Int)) = true := by rw [hz1]; simp
      obtain ⟨j2, hj2⟩ : ∃ j2, j2 = jj := ⟨_, rfl⟩;have hz3 : (jj : Int) = (c : Int) := by omega
      have Hz1 := Lib.hid hz1;clear hz hz1 hz2 hj2;go_wp2_with fail
      refine (Settle_c (S.withR R) n B c R' _ L2.out (Nat.le_of_lt hnR) (by omega) hF.out HSO.out (by show R.length <= 1000000; have := hRl.out; omega) hc HT.out).mono ?_;rintro e w3 ⟨rfl, hL3, hC3⟩;have CF := Lib.hid (C2.out.trans (hC3.mono (fun q _ e => (hO.out q).1 e)));have LF := Lib.hid hL3;clear hL3 hC3;go_wp2;go_ret;exact ⟨rfl, LF.out, CF.out⟩
    · have hz3 : ¬ (jj : Int) = (c : Int) := by omega
      have hz2 : ((jj : Int) == (c : Int)) = false := beq_eq_false_iff_ne.2 hz3;have hz4 : (jj : Int) <= last := by omega
      have Hz1 := Lib.hid hz1;clear hz hz1;go_wp2_with fail
      refine (Settle_c (S.withR R) n B c R' _ L2.out (Nat.le_of_lt hnR) (by omega) hF.out HSO.out (by show R.length <= 1000000; have := hRl.out; omega) hc HT.out).mono ?_;rintro e w3 ⟨rfl, hL3, hC3⟩;have CF := Lib.hid (C2.out.trans (hC3.mono (fun q _ e => (hO.out q).1 e)));have LF := Lib.hid hL3;clear hL3 hC3;go_wp2;go_ret;exact ⟨rfl, LF.out, CF.out⟩
  · have hz3 : ¬ (jj : Int) = (c : Int) := by omega
    have hz2 : ((jj : Int) == (c : Int)) = false := beq_eq_false_iff_ne.2 hz3;have hz4 : ¬ (jj : Int) <= last := by omega
    have hjc : jj < c := by omega
    have hjl : last < (jj : Int) := by omega
    have Hjj := Lib.hid hjj; clear hjj;clear hz hPj;go_wp2;clear hz2 hz3 hz4 cb cn;go_loopw [5] (fun a_ wq => ∃ a : Nat, at_ <= a /\ a <= n /\ a_ = .int .i64 (a : Int) /\ Hid (∀ i, at_ <= i -> i < a -> leadOf R i < jj) /\ Hid (LadAt wq (S.withR R)) /\ Hid (Chg S.own w wq)) (fun a_ _ => n - (intOf a_).toNat)
    case atStart => exact ⟨at_, Nat.le_refl _, hat, rfl, fun i h1 h2 => by omega, L2, C2⟩
    case round =>
     obtain ⟨a, ha1, ha2, rfl, hlt, hLq, hCq⟩ := hrel;by_cases han : a < n
     · have haR : a < R.length := by omega
       have han1 : (a : Int) < (n : Int) := by omega
       have haR1 : (a : Int) < (R.length : Int) := by omega
       have cb : wr.cell? ⟨S.lb, 0, none⟩ = some (.slice (some ⟨S.o, 0, none⟩) R.length S.cap) := hLq.out.lad.cell 0;have ca : wr.cell? ⟨S.o, a, none⟩ = some (.slice (some ⟨R[a].blk, 0, none⟩) R[a].xs.length R[a].cap) := hLq.out.mat.hdr (i := a) haR;go_wp2_with fail
       refine (Lead_c R[a].blk R[a].cap R[a].xs _ (hLq.out.mat.row _ (List.getElem_mem (l := R) haR)) (fun x hx => by have := hF.out.fit _ (List.getElem_mem haR) x hx; omega) (by rw [hF.out.len _ (List.getElem_mem haR)]; omega)).mono ?_;rintro e w3 ⟨rfl, hb3⟩;have L3 := Lib.hid (hLq.out.below hb3);have C3 := Lib.hid (hCq.out.below hb3);clear hLq hCq hb3 cb ca;obtain ⟨la, hla⟩ : ∃ la, lead R[a].xs = la := ⟨_, rfl⟩;have hla2 : leadOf R a = la := (leadOf_eq haR).trans hla;rw [hla];have Hla := Lib.hid hla2; clear hla hla2;by_cases hlj : la < jj
       · have hlj1 : (la : Int) < (jj : Int) := by omega
         go_wp2;go_roundw
         case rel => exact ⟨a + 1, by omega, by omega, by go_num, Lib.hid (fun i h1 h2 => (Nat.lt_succ_iff_lt_or_eq.1 h2).elim (fun h => hlt.out i h1 h) (fun h => by subst h; rw [Hla.out]; exact hlj)), L3, C3⟩
         case measure => simp [intOf]; omega
       · have hlj1 : ¬ (la : Int) < (jj : Int) := by omega
         have haR2 : (a : Int) < (R.length : Int) := by omega
         have cb : w3.cell? ⟨S.lb, 0, none⟩ = some (.slice (some ⟨S.o, 0, none⟩) R.length S.cap) := L3.out.lad.cell 0;have ca : w3.cell? ⟨S.o, a, none⟩ = some (.slice (some ⟨R[a].blk, 0, none⟩) R[a].xs.length R[a].cap) := L3.out.mat.hdr (i := a) haR;have hanb : ((a : Int) == (n : Int)) = false := beq_eq_false_iff_ne.2 (by omega);have hane : ¬ (a : Int) = (n : Int) := by omega
         go_wp2_with fail
         refine (Lead_c R[a].blk R[a].cap R[a].xs _ (L3.out.mat.row _ (List.getElem_mem (l := R) haR)) (fun x hx => by have := hF.out.fit _ (List.getElem_mem haR) x hx; omega) (by rw [hF.out.len _ (List.getElem_mem haR)]; omega)).mono ?_;rintro e w4 ⟨rfl, hb4⟩;have L4 := Lib.hid (L3.out.below hb4);have C4 := Lib.hid (C3.out.below hb4);clear L3 C3 hb4 cb ca;have hla3 : lead R[a].xs = la := (leadOf_eq haR).symm.trans Hla.out;rw [hla3];clear hla3;by_cases hlaj : la = jj
         · have hcase : ent R a jj ≠ 0 /\ Fit B c (meetA R a n jj) /\ ent (meetA R a n jj) a jj ≠ 0 /\ PutT B c n a (jj : Int) (meetT R a n jj) res R' := by
            have hPj := hPt.out;have hx := hlt.out;have hl := Hla.out;have hd := Hld.out;cases hPj with
            | zero _ h _ => rw [hd] at h; omega
            | stop _ h1 h2 a' ha' hn' hlt' hb' _ _ =>
             rw [hd] at hlt' hb';rcases Nat.lt_trichotomy a' a with h | h | h
             · have := hx a' ha' h; omega
             · subst h; omega
             · have := hlt' a ha1 h; omega
            | meet _ h1 h2 a' ha' hn' hlt' hj' hp hF1 hp1 hs =>
             rw [hd] at hlt' hj' hp hF1 hp1 hs;have haa : a' = a := by
              rcases Nat.lt_trichotomy a' a with h | h | h
              · have := hx a' ha' h; omega
              · exact h
              · have := hlt' a ha1 h; omega
             subst haa;exact ⟨hp, hF1, hp1, hs⟩
           obtain ⟨m1, m2, m3, m4⟩ := hcase;have M4 := Lib.hid m4; clear m4;have hlb : ((la : Int) != (jj : Int)) = false := by rw [hlaj]; simp
           have hle2 : (la : Int) = (jj : Int) := by omega
           have Hlaj := Lib.hid hlaj; clear hlaj;have hmt := Meet_c (S.withR R) a n jj B c w4 L4.out haR hnR (by omega) hjc hB hF.out m2 m1 m3 (by show R.length <= 1000000; have := hRl.out; omega) hc HT.out;have HMt := Lib.hid hmt;clear m1 m2 m3 hmt;go_wp2_with fail
           refine HMt.out.mono ?_;rintro e w5 ⟨rfl, hL5, hC5⟩;have L5 := Lib.hid hL5;have C5 := Lib.hid (C4.out.trans (hC5.mono (fun q _ e => (hO.out q).1 e)));clear hL5 hC5 hlb hle2 hanb hane;go_wp2;go_roundw
           case rel => exact ⟨a, (jj : Int), meetT R a n jj, by omega, ⟨by omega, by omega⟩, by go_num, by go_num, Lib.hid ((meetT_length ..).trans hRl.out), M4, L5, C5, Lib.hid (fun q => (own_meetT (S.withR R) a n jj q).trans (hO.out q))⟩
           case measure =>
            simp only [intOf];omega
         · have hbr : a = n ∨ jj < leadOf R a := by have := Hla.out; omega
           have Hbr := Lib.hid hbr; clear hbr;have hlb : ((la : Int) != (jj : Int)) = true := by rw [bne_iff_ne]; omega
           have hle2 : ¬ (la : Int) = (jj : Int) := by omega
           clear hlaj;have hstop : res = true /\ Fit B c (swapsT a n (if ent R n jj < 0 then turnT R n else R)) /\ SOut B c (leadsOf (swapsT a n (if ent R n jj < 0 then turnT R n else R)) (n + 1)) (n + 1) (n + 1) (swapsT a n (if ent R n jj < 0 then turnT R n else R)) R' := by
            have hPj := hPt.out;have hx := hlt.out;have hd := Hld.out;have hbr := Hbr.out;cases hPj with
            | zero _ h _ => rw [hd] at h; omega
            | stop _ h1 h2 a' ha' hn' hlt' hb' hF2 hs =>
             rw [hd] at hlt' hb' hF2 hs;have haa : a' = a := by
              rcases Nat.lt_trichotomy a' a with h | h | h
              · have := hx a' ha' h; omega
              · exact h
              · have := hlt' a ha1 h; omega
             subst haa;exact ⟨rfl, hF2, hs⟩
            | meet _ h1 h2 a' ha' hn' hlt' hj' hp hF1 hp1 hs =>
             rw [hd] at hlt' hj';rcases Nat.lt_trichotomy a' a with h | h | h
             · have := hx a' ha' h; omega
             · subst h; omega
             · have := hlt' a ha1 h; omega
           obtain ⟨rfl, hF2, hs2⟩ := hstop;have HF2 := Lib.hid hF2; clear hF2;have HS2 := Lib.hid hs2; clear hs2;have hXn := L4.out.mat.row _ (List.getElem_mem (l := R) hnR);have hjn : jj < R[n].xs.length := by rw [Hcn.out]; exact hjc
           obtain ⟨pn, cp0, cp1, hpn⟩ := hXn.get hjn;have hx0 : R[n].xs[jj] ≠ 0 := lead_ne Hjj.out hjn;have hsg := hpn.sign hx0;have heN := ent_eq hnR hjn;have HXn := Lib.hid hXn; clear hXn;have Hsg := Lib.hid hsg; clear hsg;have HeN := Lib.hid heN; clear heN;clear hpn hx0;have cb : w4.cell? ⟨S.lb, 0, none⟩ = some (.slice (some ⟨S.o, 0, none⟩) R.length S.cap) := L4.out.lad.cell 0;have cn : w4.cell? ⟨S.o, n, none⟩ = some (.slice (some ⟨R[n].blk, 0, none⟩) R[n].xs.length R[n].cap) := L4.out.mat.hdr (i := n) hnR;have sb1 := HXn.out.lt;have sb3 : S.lb < w4.heap.size := L4.out.lad.lt;have sb4 : S.o < w4.heap.size := L4.out.mat.out.lt;have hjn1 : (jj : Int) < (R[n].xs.length : Int) := by omega
           go_wp2;refine wp_region_J ⟨18, fun q_ => [73, 74, 75, 76, 77, 78, 79, 80, 81, 82, 83, 84, 85, 86, 87, 88, 89, 90].getD q_ 0,
            fun q_ => [.val (.pointer (some ⟨S.lb, 0, none⟩)), .val (.pointer (some ⟨S.lb, 0, none⟩)), .val (.pointer (some ⟨S.lb, 0, none⟩)), .val (.slice (some ⟨S.o, 0, none⟩) R.length S.cap), .val (.int .i64 (n : Int)), .val (.pointer (some ⟨S.o, n, none⟩)), .val (.slice (some ⟨R[n].blk, 0, none⟩) R[n].xs.length R[n].cap), .val (.pointer (some ⟨S.lb, 0, none⟩)), .val (.pointer (some ⟨S.lb, 0, none⟩)), .val (.pointer (some ⟨S.lb, 0, none⟩)), .val (.slice (some ⟨S.o, 0, none⟩) R.length S.cap), .val (.int .i64 (n : Int)), .val (.pointer (some ⟨S.o, n, none⟩)), .val (.slice (some ⟨R[n].blk, 0, none⟩) R[n].xs.length R[n].cap), .val (.int .i64 (jj : Int)), .val (.pointer (some ⟨R[n].blk, jj * 2, none⟩)), .val (.pointer (some ⟨R[n].blk, jj * 2, none⟩)), .val (.bool pn.1)].getD q_ .any,
            [],
            [],
            [],
            [], [(⟨S.lb, 0, none⟩, .slice (some ⟨S.o, 0, none⟩) R.length S.cap), (⟨S.o, n, none⟩, .slice (some ⟨R[n].blk, 0, none⟩) R[n].xs.length R[n].cap), (⟨R[n].blk, jj * 2, none⟩, .bool pn.1)], []⟩ [73, 74, 75, 76, 77, 78, 79, 80, 81, 82, 83, 84, 85, 86, 87, 88, 89, 90] (w4.heap.size) (by kernel_rfl) (by kernel_rfl) (by kernel_rfl) (by kernel_rfl) ?_ ?_ ?_ ?_ ?_ ?_
           · intro p hp;cases hp
           · intro p hp;cases hp
           · intro p hp;rcases mc hp with rfl | hp
             · refine ⟨cb, by show S.lb < w4.heap.size; omega, ?_⟩;intro t ht;cases ht
             rcases mc hp with rfl | hp
             · refine ⟨cn, by show S.o < w4.heap.size; omega, ?_⟩;intro t ht;cases ht
             rcases mc hp with rfl | hp
             · refine ⟨cp0, by show R[n].blk < w4.heap.size; omega, ?_⟩;intro t ht;cases ht
             cases hp
           · intro t ht;cases ht
           · refine allc ?_ (allc ?_ (allc ?_ (allc ?_ (allc ?_ (allc ?_ (allc ?_ (allc ?_ (allc ?_ (allc ?_ (allc ?_ (allc ?_ (allc ?_ (allc ?_ (allc ?_ (allc ?_ (allc ?_ (allc ?_ alln)))))))))))))))));any_goals (first | (intro L fx w' hJ hL hp hcl; have _ := hp0 hp (by decide +kernel); refine wps rfl fun K hK => ?_; go_simp; exact hJ.q hK (by kernel_rfl) rfl) | fail)
             · intro L fx w' hJ hL hp hcl;have e0 := hJ.pt 0 73 (.pointer (some ⟨S.lb, 0, none⟩)) rfl rfl rfl (hp 0 (by decide));rw [e0] at hJ ⊢; clear e0;refine wps rfl fun K hK => ?_;go_simp;exact hJ.q hK (by kernel_rfl) rfl
             · intro L fx w' hJ hL hp hcl;have e1 := hJ.pt 1 74 (.pointer (some ⟨S.lb, 0, none⟩)) rfl rfl rfl (hp 1 (by decide));rw [e1] at hJ ⊢; clear e1;refine wps rfl fun K hK => ?_;go_simp;exact hJ.q hK (by kernel_rfl) rfl
             · intro L fx w' hJ hL hp hcl;have e2 := hJ.pt 2 75 (.pointer (some ⟨S.lb, 0, none⟩)) rfl rfl rfl (hp 2 (by decide));rw [e2] at hJ ⊢; clear e2;refine wps rfl fun K hK => ?_;have cl0 := (hJ.cells _ mm0).1;try dsimp only at cl0
               go_simp;exact hJ.q hK (by kernel_rfl) rfl
             · intro L fx w' hJ hL hp hcl;have e3 := hJ.pt 3 76 (.slice (some ⟨S.o, 0, none⟩) R.length S.cap) rfl rfl rfl (hp 3 (by decide));rw [e3] at hJ ⊢; clear e3;have e4 := hJ.pt 4 77 (.int .i64 (n : Int)) rfl rfl rfl (hp 4 (by decide));rw [e4] at hJ ⊢; clear e4;refine wps rfl fun K hK => ?_;go_simp;exact hJ.q hK (by kernel_rfl) rfl
             · intro L fx w' hJ hL hp hcl;have e5 := hJ.pt 5 78 (.pointer (some ⟨S.o, n, none⟩)) rfl rfl rfl (hp 5 (by decide));rw [e5] at hJ ⊢; clear e5;refine wps rfl fun K hK => ?_;have cl0 := (hJ.cells _ mm1).1;try dsimp only at cl0
               go_simp;exact hJ.q hK (by kernel_rfl) rfl
             · intro L fx w' hJ hL hp hcl;have e7 := hJ.pt 7 80 (.pointer (some ⟨S.lb, 0, none⟩)) rfl rfl rfl (hp 7 (by decide));rw [e7] at hJ ⊢; clear e7;refine wps rfl fun K hK => ?_;go_simp;exact hJ.q hK (by kernel_rfl) rfl
             · intro L fx w' hJ hL hp hcl;have e8 := hJ.pt 8 81 (.pointer (some ⟨S.lb, 0, none⟩)) rfl rfl rfl (hp 8 (by decide));rw [e8] at hJ ⊢; clear e8;refine wps rfl fun K hK => ?_;go_simp;exact hJ.q hK (by kernel_rfl) rfl
             · intro L fx w' hJ hL hp hcl;have e9 := hJ.pt 9 82 (.pointer (some ⟨S.lb, 0, none⟩)) rfl rfl rfl (hp 9 (by decide));rw [e9] at hJ ⊢; clear e9;refine wps rfl fun K hK => ?_;have cl0 := (hJ.cells _ mm0).1;try dsimp only at cl0
               go_simp;exact hJ.q hK (by kernel_rfl) rfl
             · intro L fx w' hJ hL hp hcl;have e10 := hJ.pt 10 83 (.slice (some ⟨S.o, 0, none⟩) R.length S.cap) rfl rfl rfl (hp 10 (by decide));rw [e10] at hJ ⊢; clear e10;have e11 := hJ.pt 11 84 (.int .i64 (n : Int)) rfl rfl rfl (hp 11 (by decide));rw [e11] at hJ ⊢; clear e11;refine wps rfl fun K hK => ?_;go_simp;exact hJ.q hK (by kernel_rfl) rfl
             · intro L fx w' hJ hL hp hcl;have e12 := hJ.pt 12 85 (.pointer (some ⟨S.o, n, none⟩)) rfl rfl rfl (hp 12 (by decide));rw [e12] at hJ ⊢; clear e12;refine wps rfl fun K hK => ?_;have cl0 := (hJ.cells _ mm1).1;try dsimp only at cl0
               go_simp;exact hJ.q hK (by kernel_rfl) rfl
             · intro L fx w' hJ hL hp hcl;have e13 := hJ.pt 13 86 (.slice (some ⟨R[n].blk, 0, none⟩) R[n].xs.length R[n].cap) rfl rfl rfl (hp 13 (by decide));rw [e13] at hJ ⊢; clear e13;refine wps rfl fun K hK => ?_;go_simp;go_at_call 81;refine (Lead_c R[n].blk R[n].cap R[n].xs _ (RowN.below (w := w4.drew) HXn.out hJ.fr) (fun x hx => by have := hF.out.fit _ (List.getElem_mem hnR) x hx; omega) (by rw [Hcn.out]; omega)).mono ?_;rintro e w4 ⟨rfl, hb4⟩;try dsimp only
               rw [Hjj.out];exact hK _ _ ⟨_, by kernel_rfl, hJ.gC 14 rfl (by kernel_rfl) hb4 rfl (by omega)⟩
             · intro L fx w' hJ hL hp hcl;have e6 := hJ.pt 6 79 (.slice (some ⟨R[n].blk, 0, none⟩) R[n].xs.length R[n].cap) rfl rfl rfl (hp 6 (by decide));rw [e6] at hJ ⊢; clear e6;have e14 := hJ.pt 14 87 (.int .i64 (jj : Int)) rfl rfl rfl (hp 14 (by decide));rw [e14] at hJ ⊢; clear e14;refine wps rfl fun K hK => ?_;go_simp;exact hJ.q hK (by kernel_rfl) rfl
             · intro L fx w' hJ hL hp hcl;have e15 := hJ.pt 15 88 (.pointer (some ⟨R[n].blk, jj * 2, none⟩)) rfl rfl rfl (hp 15 (by decide));rw [e15] at hJ ⊢; clear e15;refine wps rfl fun K hK => ?_;go_simp;exact hJ.q hK (by kernel_rfl) rfl
             · intro L fx w' hJ hL hp hcl;have e16 := hJ.pt 16 89 (.pointer (some ⟨R[n].blk, jj * 2, none⟩)) rfl rfl rfl (hp 16 (by decide));rw [e16] at hJ ⊢; clear e16;refine wps rfl fun K hK => ?_;have cl0 := (hJ.cells _ mm2).1;try dsimp only at cl0
               go_simp;exact hJ.q hK (by kernel_rfl) rfl
           · intro L' x1 w7 hL hJ;have hfr : Below w4.drew.heap.size w4.drew w7 := hJ.fr;have e17 : x1 90 = .bool pn.1 := hJ.slot 17 (by show 17 < 18; decide) (hL 17 (by show 17 < 18; decide));rw [patchX (x := x1) (d := 90) (v := .bool pn.1) e17];clear hJ hL e17 cb cn cp0 cp1;have L7 := Lib.hid (LadAt.below (w := w4.drew) L4.out.drew hfr);have C7 := Lib.hid (C4.out.drew.below hfr);clear hfr;simp only [pN, Nat.reduceEqDiff, ↓reduceIte];cases hneg : pn.1
             · have hif : (if ent R n jj < 0 then turnT R n else R) = R := if_neg (by
                have := Hsg.out; rw [hneg] at this; rw [HeN.out]; simpa using this.symm)
               have HRF := Lib.hid HF2.out; have HSF := Lib.hid HS2.out;rw [hif] at HRF HSF;clear hif;obtain ⟨RF, hRF⟩ : ∃ RF, swapsT a n R = RF := ⟨_, rfl⟩;rw [hRF] at HRF HSF;have HRFe := Lib.hid hRF; clear hRF;go_wp2;go_loopw [8] (fun i_ wq => ∃ (i : Nat) (R8 : List Hd), i <= n /\ a <= i /\ i_ = .int .i64 (i : Int) /\ Hid (swapsT a i R8 = RF) /\ Hid (R8.length = S.R.length) /\ Hid (LadAt wq (S.withR R8)) /\ Hid (Chg S.own w wq) /\ Hid (∀ k, (S.withR R8).own k ↔ S.own k)) (fun i_ _ => (intOf i_).toNat)
               case atStart => exact ⟨n, R, Nat.le_refl _, ha2, rfl, HRFe, hRl, L7, C7, hO⟩
               case round =>
                obtain ⟨i, R8, hin, hai, rfl, hSw, hR8, hL8, hC8, hO8⟩ := hrel;by_cases hia : a < i
                · obtain ⟨i', rfl⟩ : ∃ i', i = i' + 1 := ⟨i - 1, by omega⟩;have hi8 : i' + 1 < R8.length := by have := hR8.out; have := hRl.out; omega
                  have hi8' : i' < R8.length := by omega
                  have hia1 : (a : Int) < ((i' + 1 : Nat) : Int) := by omega
                  have hcast : ((i' + 1 : Nat) : Int) - 1 = (i' : Int) := by omega
                  have hms := MSwap_c (S.withR R8) (i' + 1) i' wr hL8.out hi8 hi8' (by omega) (HT.out.good R8);have HMs := Lib.hid hms; clear hms;have hcast2 : ((i' + 1 : Nat) : Int) = (i' : Int) + 1 := by omega
                  rw [hcast2] at hia1 hcast HMs ⊢;clear hcast2;have hia2 : (a : Int) < (i' : Int) + 1 := hia1;have hcast3 : (i' : Int) + 1 - 1 = (i' : Int) := by omega
                  go_wp2_with fail
                  refine HMs.out.mono ?_;rintro e w9 ⟨rfl, hL9, hC9⟩;have L9 := Lib.hid hL9;have C9 := Lib.hid (hC8.out.trans (hC9.mono (fun q _ e => (hO8.out q).1 e)));clear hL9 hC9;go_wp2;go_roundw
                  case rel =>
                   refine ⟨i', swapT R8 (i' + 1) i', by omega, by omega, by go_num, ?_, Lib.hid ((swapT_length ..).trans hR8.out), ?_, C9, Lib.hid (fun q => (own_swapT (S.withR R8) (i' + 1) i' q).trans (hO8.out q))⟩
                   · have := hSw.out;unfold swapsT at this;rw [if_neg (by omega)] at this;exact this
                   · rw [swapT_eq hi8 hi8']; exact L9
                  case measure => simp only [intOf]; omega
                · obtain rfl : i = a := by omega
                  have hR8F : R8 = RF := by
                   have := hSw.out;cases i with
                   | zero => exact this
                   | succ q => unfold swapsT at this; rw [if_pos (Nat.le_refl _)] at this; exact this
                  subst hR8F;have hset := Settle_c (S.withR R8) (n + 1) B c R' wr hL8.out (by show n + 1 <= R8.length; have := hR8.out; omega) (by omega) HRF.out HSF.out (by show R8.length <= 1000000; have := hR8.out; omega) hc HT.out;have HSet := Lib.hid hset; clear hset;have hcn1 : ((n + 1 : Nat) : Int) = (n : Int) + 1 := by omega
                  rw [hcn1] at HSet;clear hcn1;have hgt : ¬ (i : Int) > (i : Int) := by omega
                  go_wp2_with fail
                  refine HSet.out.mono ?_;rintro e w9 ⟨rfl, hL9, hC9⟩;have L9 := Lib.hid hL9;have C9 := Lib.hid (hC8.out.trans (hC9.mono (fun q _ e => (hO8.out q).1 e)));clear hL9 hC9;go_wp2;go_ret;exact ⟨rfl, L9.out, C9.out⟩
             · have hif : (if ent R n jj < 0 then turnT R n else R) = turnT R n := if_pos (by
                have := Hsg.out; rw [hneg] at this; rw [HeN.out]; simpa using this.symm)
               have hlenN : R[n].xs.length <= 4611686018427387903 := by rw [Hcn.out]; omega
               have hmt := MTurn_c (S.withR R) n w7 L7.out hnR (fun x hx => by have := hF.out.fit _ (List.getElem_mem hnR) x hx; omega) hlenN (HT.out.good R) (HT.out.okR hF.out);have HMt := Lib.hid hmt; clear hmt;go_wp2_with fail
               refine HMt.out.mono ?_;rintro e w8 ⟨rfl, hL8, hC8⟩;have C8 := Lib.hid (C7.out.trans (hC8.mono (fun q _ e => (hO.out q).1 e)));have L8 : Hid (LadAt w8 (S.withR (turnT R n))) := by rw [turnT_eq hnR]; exact hL8
               have O8 : Hid (∀ k, (S.withR (turnT R n)).own k ↔ S.own k) := fun q => (own_turnT (S.withR R) n q).trans (hO.out q);have N8 : Hid ((turnT R n).length = S.R.length) := (turnT_length ..).trans hRl.out;clear hL8 hC8;have HRF := Lib.hid HF2.out; have HSF := Lib.hid HS2.out;rw [hif] at HRF HSF;clear hif;obtain ⟨RF, hRF⟩ : ∃ RF, swapsT a n (turnT R n) = RF := ⟨_, rfl⟩;rw [hRF] at HRF HSF;have HRFe := Lib.hid hRF; clear hRF;go_wp2;go_loopw [8] (fun i_ wq => ∃ (i : Nat) (R8 : List Hd), i <= n /\ a <= i /\ i_ = .int .i64 (i : Int) /\ Hid (swapsT a i R8 = RF) /\ Hid (R8.length = S.R.length) /\ Hid (LadAt wq (S.withR R8)) /\ Hid (Chg S.own w wq) /\ Hid (∀ k, (S.withR R8).own k ↔ S.own k)) (fun i_ _ => (intOf i_).toNat)
               case atStart => exact ⟨n, (turnT R n), Nat.le_refl _, ha2, rfl, HRFe, N8, L8, C8, O8⟩
               case round =>
                obtain ⟨i, R8, hin, hai, rfl, hSw, hR8, hL8, hC8, hO8⟩ := hrel;by_cases hia : a < i
                · obtain ⟨i', rfl⟩ : ∃ i', i = i' + 1 := ⟨i - 1, by omega⟩;have hi8 : i' + 1 < R8.length := by have := hR8.out; have := hRl.out; omega
                  have hi8' : i' < R8.length := by omega
                  have hia1 : (a : Int) < ((i' + 1 : Nat) : Int) := by omega
                  have hcast : ((i' + 1 : Nat) : Int) - 1 = (i' : Int) := by omega
                  have hms := MSwap_c (S.withR R8) (i' + 1) i' wr hL8.out hi8 hi8' (by omega) (HT.out.good R8);have HMs := Lib.hid hms; clear hms;have hcast2 : ((i' + 1 : Nat) : Int) = (i' : Int) + 1 := by omega
                  rw [hcast2] at hia1 hcast HMs ⊢;clear hcast2;have hia2 : (a : Int) < (i' : Int) + 1 := hia1;have hcast3 : (i' : Int) + 1 - 1 = (i' : Int) := by omega
                  go_wp2_with fail
                  refine HMs.out.mono ?_;rintro e w9 ⟨rfl, hL9, hC9⟩;have L9 := Lib.hid hL9;have C9 := Lib.hid (hC8.out.trans (hC9.mono (fun q _ e => (hO8.out q).1 e)));clear hL9 hC9;go_wp2;go_roundw
                  case rel =>
                   refine ⟨i', swapT R8 (i' + 1) i', by omega, by omega, by go_num, ?_, Lib.hid ((swapT_length ..).trans hR8.out), ?_, C9, Lib.hid (fun q => (own_swapT (S.withR R8) (i' + 1) i' q).trans (hO8.out q))⟩
                   · have := hSw.out;unfold swapsT at this;rw [if_neg (by omega)] at this;exact this
                   · rw [swapT_eq hi8 hi8']; exact L9
                  case measure => simp only [intOf]; omega
                · obtain rfl : i = a := by omega
                  have hR8F : R8 = RF := by
                   have := hSw.out;cases i with
                   | zero => exact this
                   | succ q => unfold swapsT at this; rw [if_pos (Nat.le_refl _)] at this; exact this
                  subst hR8F;have hset := Settle_c (S.withR R8) (n + 1) B c R' wr hL8.out (by show n + 1 <= R8.length; have := hR8.out; omega) (by omega) HRF.out HSF.out (by show R8.length <= 1000000; have := hR8.out; omega) hc HT.out;have HSet := Lib.hid hset; clear hset;have hcn1 : ((n + 1 : Nat) : Int) = (n : Int) + 1 := by omega
                  rw [hcn1] at HSet;clear hcn1;have hgt : ¬ (i : Int) > (i : Int) := by omega
                  go_wp2_with fail
                  refine HSet.out.mono ?_;rintro e w9 ⟨rfl, hL9, hC9⟩;have L9 := Lib.hid hL9;have C9 := Lib.hid (hC8.out.trans (hC9.mono (fun q _ e => (hO8.out q).1 e)));clear hL9 hC9;go_wp2;go_ret;exact ⟨rfl, L9.out, C9.out⟩
     · have hbr : a = n ∨ jj < leadOf R a := by omega
       have Hbr := Lib.hid hbr; clear hbr;have hnlt : ¬ (a : Int) < (n : Int) := by omega
       have hanb : ((a : Int) == (n : Int)) = true := by rw [beq_iff_eq]; omega
       have hstop : res = true /\ Fit B c (swapsT a n (if ent R n jj < 0 then turnT R n else R)) /\ SOut B c (leadsOf (swapsT a n (if ent R n jj < 0 then turnT R n else R)) (n + 1)) (n + 1) (n + 1) (swapsT a n (if ent R n jj < 0 then turnT R n else R)) R' := by
        have hPj := hPt.out;have hx := hlt.out;have hd := Hld.out;have hbr := Hbr.out;cases hPj with
        | zero _ h _ => rw [hd] at h; omega
        | stop _ h1 h2 a' ha' hn' hlt' hb' hF2 hs =>
         rw [hd] at hlt' hb' hF2 hs;have haa : a' = a := by
          rcases Nat.lt_trichotomy a' a with h | h | h
          · have := hx a' ha' h; omega
          · exact h
          · have := hlt' a ha1 h; omega
         subst haa;exact ⟨rfl, hF2, hs⟩
        | meet _ h1 h2 a' ha' hn' hlt' hj' hp hF1 hp1 hs =>
         rw [hd] at hlt' hj';rcases Nat.lt_trichotomy a' a with h | h | h
         · have := hx a' ha' h; omega
         · subst h; omega
         · have := hlt' a ha1 h; omega
       obtain ⟨rfl, hF2, hs2⟩ := hstop;have HF2 := Lib.hid hF2; clear hF2;have HS2 := Lib.hid hs2; clear hs2;have hXn := hLq.out.mat.row _ (List.getElem_mem (l := R) hnR);have hjn : jj < R[n].xs.length := by rw [Hcn.out]; exact hjc
       obtain ⟨pn, cp0, cp1, hpn⟩ := hXn.get hjn;have hx0 : R[n].xs[jj] ≠ 0 := lead_ne Hjj.out hjn;have hsg := hpn.sign hx0;have heN := ent_eq hnR hjn;have HXn := Lib.hid hXn; clear hXn;have Hsg := Lib.hid hsg; clear hsg;have HeN := Lib.hid heN; clear heN;clear hpn hx0;have cb : wr.cell? ⟨S.lb, 0, none⟩ = some (.slice (some ⟨S.o, 0, none⟩) R.length S.cap) := hLq.out.lad.cell 0;have cn : wr.cell? ⟨S.o, n, none⟩ = some (.slice (some ⟨R[n].blk, 0, none⟩) R[n].xs.length R[n].cap) := hLq.out.mat.hdr (i := n) hnR;have sb1 := HXn.out.lt;have sb3 : S.lb < wr.heap.size := hLq.out.lad.lt;have sb4 : S.o < wr.heap.size := hLq.out.mat.out.lt;have hjn1 : (jj : Int) < (R[n].xs.length : Int) := by omega
       go_wp2;refine wp_region_J ⟨18, fun q_ => [73, 74, 75, 76, 77, 78, 79, 80, 81, 82, 83, 84, 85, 86, 87, 88, 89, 90].getD q_ 0,
        fun q_ => [.val (.pointer (some ⟨S.lb, 0, none⟩)), .val (.pointer (some ⟨S.lb, 0, none⟩)), .val (.pointer (some ⟨S.lb, 0, none⟩)), .val (.slice (some ⟨S.o, 0, none⟩) R.length S.cap), .val (.int .i64 (n : Int)), .val (.pointer (some ⟨S.o, n, none⟩)), .val (.slice (some ⟨R[n].blk, 0, none⟩) R[n].xs.length R[n].cap), .val (.pointer (some ⟨S.lb, 0, none⟩)), .val (.pointer (some ⟨S.lb, 0, none⟩)), .val (.pointer (some ⟨S.lb, 0, none⟩)), .val (.slice (some ⟨S.o, 0, none⟩) R.length S.cap), .val (.int .i64 (n : Int)), .val (.pointer (some ⟨S.o, n, none⟩)), .val (.slice (some ⟨R[n].blk, 0, none⟩) R[n].xs.length R[n].cap), .val (.int .i64 (jj : Int)), .val (.pointer (some ⟨R[n].blk, jj * 2, none⟩)), .val (.pointer (some ⟨R[n].blk, jj * 2, none⟩)), .val (.bool pn.1)].getD q_ .any,
        [],
        [],
        [],
        [], [(⟨S.lb, 0, none⟩, .slice (some ⟨S.o, 0, none⟩) R.length S.cap), (⟨S.o, n, none⟩, .slice (some ⟨R[n].blk, 0, none⟩) R[n].xs.length R[n].cap), (⟨R[n].blk, jj * 2, none⟩, .bool pn.1)], []⟩ [73, 74, 75, 76, 77, 78, 79, 80, 81, 82, 83, 84, 85, 86, 87, 88, 89, 90] (wr.heap.size) (by kernel_rfl) (by kernel_rfl) (by kernel_rfl) (by kernel_rfl) ?_ ?_ ?_ ?_ ?_ ?_
       · intro p hp;cases hp
       · intro p hp;cases hp
       · intro p hp;rcases mc hp with rfl | hp
         · refine ⟨cb, by show S.lb < wr.heap.size; omega, ?_⟩;intro t ht;cases ht
         rcases mc hp with rfl | hp
         · refine ⟨cn, by show S.o < wr.heap.size; omega, ?_⟩;intro t ht;cases ht
         rcases mc hp with rfl | hp
         · refine ⟨cp0, by show R[n].blk < wr.heap.size; omega, ?_⟩;intro t ht;cases ht
         cases hp
       · intro t ht;cases ht
       · refine allc ?_ (allc ?_ (allc ?_ (allc ?_ (allc ?_ (allc ?_ (allc ?_ (allc ?_ (allc ?_ (allc ?_ (allc ?_ (allc ?_ (allc ?_ (allc ?_ (allc ?_ (allc ?_ (allc ?_ (allc ?_ alln)))))))))))))))));any_goals (first | (intro L fx w' hJ hL hp hcl; have _ := hp0 hp (by decide +kernel); refine wps rfl fun K hK => ?_; go_simp; exact hJ.q hK (by kernel_rfl) rfl) | fail)
         · intro L fx w' hJ hL hp hcl;have e0 := hJ.pt 0 73 (.pointer (some ⟨S.lb, 0, none⟩)) rfl rfl rfl (hp 0 (by decide));rw [e0] at hJ ⊢; clear e0;refine wps rfl fun K hK => ?_;go_simp;exact hJ.q hK (by kernel_rfl) rfl
         · intro L fx w' hJ hL hp hcl;have e1 := hJ.pt 1 74 (.pointer (some ⟨S.lb, 0, none⟩)) rfl rfl rfl (hp 1 (by decide));rw [e1] at hJ ⊢; clear e1;refine wps rfl fun K hK => ?_;go_simp;exact hJ.q hK (by kernel_rfl) rfl
         · intro L fx w' hJ hL hp hcl;have e2 := hJ.pt 2 75 (.pointer (some ⟨S.lb, 0, none⟩)) rfl rfl rfl (hp 2 (by decide));rw [e2] at hJ ⊢; clear e2;refine wps rfl fun K hK => ?_;have cl0 := (hJ.cells _ mm0).1;try dsimp only at cl0
           go_simp;exact hJ.q hK (by kernel_rfl) rfl
         · intro L fx w' hJ hL hp hcl;have e3 := hJ.pt 3 76 (.slice (some ⟨S.o, 0, none⟩) R.length S.cap) rfl rfl rfl (hp 3 (by decide));rw [e3] at hJ ⊢; clear e3;have e4 := hJ.pt 4 77 (.int .i64 (n : Int)) rfl rfl rfl (hp 4 (by decide));rw [e4] at hJ ⊢; clear e4;refine wps rfl fun K hK => ?_;go_simp;exact hJ.q hK (by kernel_rfl) rfl
         · intro L fx w' hJ hL hp hcl;have e5 := hJ.pt 5 78 (.pointer (some ⟨S.o, n, none⟩)) rfl rfl rfl (hp 5 (by decide));rw [e5] at hJ ⊢; clear e5;refine wps rfl fun K hK => ?_;have cl0 := (hJ.cells _ mm1).1;try dsimp only at cl0
           go_simp;exact hJ.q hK (by kernel_rfl) rfl
         · intro L fx w' hJ hL hp hcl;have e7 := hJ.pt 7 80 (.pointer (some ⟨S.lb, 0, none⟩)) rfl rfl rfl (hp 7 (by decide));rw [e7] at hJ ⊢; clear e7;refine wps rfl fun K hK => ?_;go_simp;exact hJ.q hK (by kernel_rfl) rfl
         · intro L fx w' hJ hL hp hcl;have e8 := hJ.pt 8 81 (.pointer (some ⟨S.lb, 0, none⟩)) rfl rfl rfl (hp 8 (by decide));rw [e8] at hJ ⊢; clear e8;refine wps rfl fun K hK => ?_;go_simp;exact hJ.q hK (by kernel_rfl) rfl
         · intro L fx w' hJ hL hp hcl;have e9 := hJ.pt 9 82 (.pointer (some ⟨S.lb, 0, none⟩)) rfl rfl rfl (hp 9 (by decide));rw [e9] at hJ ⊢; clear e9;refine wps rfl fun K hK => ?_;have cl0 := (hJ.cells _ mm0).1;try dsimp only at cl0
           go_simp;exact hJ.q hK (by kernel_rfl) rfl
         · intro L fx w' hJ hL hp hcl;have e10 := hJ.pt 10 83 (.slice (some ⟨S.o, 0, none⟩) R.length S.cap) rfl rfl rfl (hp 10 (by decide));rw [e10] at hJ ⊢; clear e10;have e11 := hJ.pt 11 84 (.int .i64 (n : Int)) rfl rfl rfl (hp 11 (by decide));rw [e11] at hJ ⊢; clear e11;refine wps rfl fun K hK => ?_;go_simp;exact hJ.q hK (by kernel_rfl) rfl
         · intro L fx w' hJ hL hp hcl;have e12 := hJ.pt 12 85 (.pointer (some ⟨S.o, n, none⟩)) rfl rfl rfl (hp 12 (by decide));rw [e12] at hJ ⊢; clear e12;refine wps rfl fun K hK => ?_;have cl0 := (hJ.cells _ mm1).1;try dsimp only at cl0
           go_simp;exact hJ.q hK (by kernel_rfl) rfl
         · intro L fx w' hJ hL hp hcl;have e13 := hJ.pt 13 86 (.slice (some ⟨R[n].blk, 0, none⟩) R[n].xs.length R[n].cap) rfl rfl rfl (hp 13 (by decide));rw [e13] at hJ ⊢; clear e13;refine wps rfl fun K hK => ?_;go_simp;go_at_call 81;refine (Lead_c R[n].blk R[n].cap R[n].xs _ (RowN.below (w := wr.drew) HXn.out hJ.fr) (fun x hx => by have := hF.out.fit _ (List.getElem_mem hnR) x hx; omega) (by rw [Hcn.out]; omega)).mono ?_;rintro e w4 ⟨rfl, hb4⟩;try dsimp only
           rw [Hjj.out];exact hK _ _ ⟨_, by kernel_rfl, hJ.gC 14 rfl (by kernel_rfl) hb4 rfl (by omega)⟩
         · intro L fx w' hJ hL hp hcl;have e6 := hJ.pt 6 79 (.slice (some ⟨R[n].blk, 0, none⟩) R[n].xs.length R[n].cap) rfl rfl rfl (hp 6 (by decide));rw [e6] at hJ ⊢; clear e6;have e14 := hJ.pt 14 87 (.int .i64 (jj : Int)) rfl rfl rfl (hp 14 (by decide));rw [e14] at hJ ⊢; clear e14;refine wps rfl fun K hK => ?_;go_simp;exact hJ.q hK (by kernel_rfl) rfl
         · intro L fx w' hJ hL hp hcl;have e15 := hJ.pt 15 88 (.pointer (some ⟨R[n].blk, jj * 2, none⟩)) rfl rfl rfl (hp 15 (by decide));rw [e15] at hJ ⊢; clear e15;refine wps rfl fun K hK => ?_;go_simp;exact hJ.q hK (by kernel_rfl) rfl
         · intro L fx w' hJ hL hp hcl;have e16 := hJ.pt 16 89 (.pointer (some ⟨R[n].blk, jj * 2, none⟩)) rfl rfl rfl (hp 16 (by decide));rw [e16] at hJ ⊢; clear e16;refine wps rfl fun K hK => ?_;have cl0 := (hJ.cells _ mm2).1;try dsimp only at cl0
           go_simp;exact hJ.q hK (by kernel_rfl) rfl
       · intro L' x1 w7 hL hJ;have hfr : Below wr.drew.heap.size wr.drew w7 := hJ.fr;have e17 : x1 90 = .bool pn.1 := hJ.slot 17 (by show 17 < 18; decide) (hL 17 (by show 17 < 18; decide));rw [patchX (x := x1) (d := 90) (v := .bool pn.1) e17];clear hJ hL e17 cb cn cp0 cp1;have L7 := Lib.hid (LadAt.below (w := wr.drew) hLq.out.drew hfr);have C7 := Lib.hid (hCq.out.drew.below hfr);clear hfr;simp only [pN, Nat.reduceEqDiff, ↓reduceIte];cases hneg : pn.1
         · have hif : (if ent R n jj < 0 then turnT R n else R) = R := if_neg (by
            have := Hsg.out; rw [hneg] at this; rw [HeN.out]; simpa using this.symm)
           have HRF := Lib.hid HF2.out; have HSF := Lib.hid HS2.out;rw [hif] at HRF HSF;clear hif;obtain ⟨RF, hRF⟩ : ∃ RF, swapsT a n R = RF := ⟨_, rfl⟩;rw [hRF] at HRF HSF;have HRFe := Lib.hid hRF; clear hRF;go_wp2;go_loopw [8] (fun i_ wq => ∃ (i : Nat) (R8 : List Hd), i <= n /\ a <= i /\ i_ = .int .i64 (i : Int) /\ Hid (swapsT a i R8 = RF) /\ Hid (R8.length = S.R.length) /\ Hid (LadAt wq (S.withR R8)) /\ Hid (Chg S.own w wq) /\ Hid (∀ k, (S.withR R8).own k ↔ S.own k)) (fun i_ _ => (intOf i_).toNat)
           case atStart => exact ⟨n, R, Nat.le_refl _, ha2, rfl, HRFe, hRl, L7, C7, hO⟩
           case round =>
            obtain ⟨i, R8, hin, hai, rfl, hSw, hR8, hL8, hC8, hO8⟩ := hrel;by_cases hia : a < i
            · obtain ⟨i', rfl⟩ : ∃ i', i = i' + 1 := ⟨i - 1, by omega⟩;have hi8 : i' + 1 < R8.length := by have := hR8.out; have := hRl.out; omega
              have hi8' : i' < R8.length := by omega
              have hia1 : (a : Int) < ((i' + 1 : Nat) : Int) := by omega
              have hcast : ((i' + 1 : Nat) : Int) - 1 = (i' : Int) := by omega
              have hms := MSwap_c (S.withR R8) (i' + 1) i' wr hL8.out hi8 hi8' (by omega) (HT.out.good R8);have HMs := Lib.hid hms; clear hms;have hcast2 : ((i' + 1 : Nat) : Int) = (i' : Int) + 1 := by omega
              rw [hcast2] at hia1 hcast HMs ⊢;clear hcast2;have hia2 : (a : Int) < (i' : Int) + 1 := hia1;have hcast3 : (i' : Int) + 1 - 1 = (i' : Int) := by omega
              go_wp2_with fail
              refine HMs.out.mono ?_;rintro e w9 ⟨rfl, hL9, hC9⟩;have L9 := Lib.hid hL9;have C9 := Lib.hid (hC8.out.trans (hC9.mono (fun q _ e => (hO8.out q).1 e)));clear hL9 hC9;go_wp2;go_roundw
              case rel =>
               refine ⟨i', swapT R8 (i' + 1) i', by omega, by omega, by go_num, ?_, Lib.hid ((swapT_length ..).trans hR8.out), ?_, C9, Lib.hid (fun q => (own_swapT (S.withR R8) (i' + 1) i' q).trans (hO8.out q))⟩
               · have := hSw.out;unfold swapsT at this;rw [if_neg (by omega)] at this;exact this
               · rw [swapT_eq hi8 hi8']; exact L9
              case measure => simp only [intOf]; omega
            · obtain rfl : i = a := by omega
              have hR8F : R8 = RF := by
               have := hSw.out;cases i with
               | zero => exact this
               | succ q => unfold swapsT at this; rw [if_pos (Nat.le_refl _)] at this; exact this
              subst hR8F;have hset := Settle_c (S.withR R8) (n + 1) B c R' wr hL8.out (by show n + 1 <= R8.length; have := hR8.out; omega) (by omega) HRF.out HSF.out (by show R8.length <= 1000000; have := hR8.out; omega) hc HT.out;have HSet := Lib.hid hset; clear hset;have hcn1 : ((n + 1 : Nat) : Int) = (n : Int) + 1 := by omega
              rw [hcn1] at HSet;clear hcn1;have hgt : ¬ (i : Int) > (i : Int) := by omega
              go_wp2_with fail
              refine HSet.out.mono ?_;rintro e w9 ⟨rfl, hL9, hC9⟩;have L9 := Lib.hid hL9;have C9 := Lib.hid (hC8.out.trans (hC9.mono (fun q _ e => (hO8.out q).1 e)));clear hL9 hC9;go_wp2;go_ret;exact ⟨rfl, L9.out, C9.out⟩
         · have hif : (if ent R n jj < 0 then turnT R n else R) = turnT R n := if_pos (by
            have := Hsg.out; rw [hneg] at this; rw [HeN.out]; simpa using this.symm)
           have hlenN : R[n].xs.length <= 4611686018427387903 := by rw [Hcn.out]; omega
           have hmt := MTurn_c (S.withR R) n w7 L7.out hnR (fun x hx => by have := hF.out.fit _ (List.getElem_mem hnR) x hx; omega) hlenN (HT.out.good R) (HT.out.okR hF.out);have HMt := Lib.hid hmt; clear hmt;go_wp2_with fail
           refine HMt.out.mono ?_;rintro e w8 ⟨rfl, hL8, hC8⟩;have C8 := Lib.hid (C7.out.trans (hC8.mono (fun q _ e => (hO.out q).1 e)));have L8 : Hid (LadAt w8 (S.withR (turnT R n))) := by rw [turnT_eq hnR]; exact hL8
           have O8 : Hid (∀ k, (S.withR (turnT R n)).own k ↔ S.own k) := fun q => (own_turnT (S.withR R) n q).trans (hO.out q);have N8 : Hid ((turnT R n).length = S.R.length) := (turnT_length ..).trans hRl.out;clear hL8 hC8;have HRF := Lib.hid HF2.out; have HSF := Lib.hid HS2.out;rw [hif] at HRF HSF;clear hif;obtain ⟨RF, hRF⟩ : ∃ RF, swapsT a n (turnT R n) = RF := ⟨_, rfl⟩;rw [hRF] at HRF HSF;have HRFe := Lib.hid hRF; clear hRF;go_wp2;go_loopw [8] (fun i_ wq => ∃ (i : Nat) (R8 : List Hd), i <= n /\ a <= i /\ i_ = .int .i64 (i : Int) /\ Hid (swapsT a i R8 = RF) /\ Hid (R8.length = S.R.length) /\ Hid (LadAt wq (S.withR R8)) /\ Hid (Chg S.own w wq) /\ Hid (∀ k, (S.withR R8).own k ↔ S.own k)) (fun i_ _ => (intOf i_).toNat)
           case atStart => exact ⟨n, (turnT R n), Nat.le_refl _, ha2, rfl, HRFe, N8, L8, C8, O8⟩
           case round =>
            obtain ⟨i, R8, hin, hai, rfl, hSw, hR8, hL8, hC8, hO8⟩ := hrel;by_cases hia : a < i
            · obtain ⟨i', rfl⟩ : ∃ i', i = i' + 1 := ⟨i - 1, by omega⟩;have hi8 : i' + 1 < R8.length := by have := hR8.out; have := hRl.out; omega
              have hi8' : i' < R8.length := by omega
              have hia1 : (a : Int) < ((i' + 1 : Nat) : Int) := by omega
              have hcast : ((i' + 1 : Nat) : Int) - 1 = (i' : Int) := by omega
              have hms := MSwap_c (S.withR R8) (i' + 1) i' wr hL8.out hi8 hi8' (by omega) (HT.out.good R8);have HMs := Lib.hid hms; clear hms;have hcast2 : ((i' + 1 : Nat) : Int) = (i' : Int) + 1 := by omega
              rw [hcast2] at hia1 hcast HMs ⊢;clear hcast2;have hia2 : (a : Int) < (i' : Int) + 1 := hia1;have hcast3 : (i' : Int) + 1 - 1 = (i' : Int) := by omega
              go_wp2_with fail
              refine HMs.out.mono ?_;rintro e w9 ⟨rfl, hL9, hC9⟩;have L9 := Lib.hid hL9;have C9 := Lib.hid (hC8.out.trans (hC9.mono (fun q _ e => (hO8.out q).1 e)));clear hL9 hC9;go_wp2;go_roundw
              case rel =>
               refine ⟨i', swapT R8 (i' + 1) i', by omega, by omega, by go_num, ?_, Lib.hid ((swapT_length ..).trans hR8.out), ?_, C9, Lib.hid (fun q => (own_swapT (S.withR R8) (i' + 1) i' q).trans (hO8.out q))⟩
               · have := hSw.out;unfold swapsT at this;rw [if_neg (by omega)] at this;exact this
               · rw [swapT_eq hi8 hi8']; exact L9
              case measure => simp only [intOf]; omega
            · obtain rfl : i = a := by omega
              have hR8F : R8 = RF := by
               have := hSw.out;cases i with
               | zero => exact this
               | succ q => unfold swapsT at this; rw [if_pos (Nat.le_refl _)] at this; exact this
              subst hR8F;have hset := Settle_c (S.withR R8) (n + 1) B c R' wr hL8.out (by show n + 1 <= R8.length; have := hR8.out; omega) (by omega) HRF.out HSF.out (by show R8.length <= 1000000; have := hR8.out; omega) hc HT.out;have HSet := Lib.hid hset; clear hset;have hcn1 : ((n + 1 : Nat) : Int) = (n : Int) + 1 := by omega
              rw [hcn1] at HSet;clear hcn1;have hgt : ¬ (i : Int) > (i : Int) := by omega
              go_wp2_with fail
              refine HSet.out.mono ?_;rintro e w9 ⟨rfl, hL9, hC9⟩;have L9 := Lib.hid hL9;have C9 := Lib.hid (hC8.out.trans (hC9.mono (fun q _ e => (hO8.out q).1 e)));clear hL9 hC9;go_wp2;go_ret;exact ⟨rfl, L9.out, C9.out⟩
def rotT : Nat -> Nat -> List Hd -> List Hd
 | 0, _, R => R
 | k + 1, i, R => rotT k (i + 1) (swapT R i (i + 1))
inductive RedT (B c : Nat) : Nat -> Nat -> List Hd -> Nat -> List Hd -> Prop
 | fin {d e : Nat} {R : List Hd} (h : e <= d) : RedT B c d e R d R
 | ok {d e k : Nat} {R R1 R' : List Hd} (h : d < e) (hp : PutT B c d 0 (-1) R true R1) (hs : RedT B c (d + 1) e R1 k R') : RedT B c d e R k R'
 | zero {d e k : Nat} {R R1 R' : List Hd} (h : d < e) (hp : PutT B c d 0 (-1) R false R1) (hs : RedT B c d (e - 1) (rotT (e - 1 - d) d R1) k R') : RedT B c d e R k R'
theorem SOut.length {B c : Nat} {ls : List Nat} {n m : Nat} {R R' : List Hd} (h : SOut B c ls n m R R') : R'.length = R.length := by
 induction h with
 | done => rfl
 | step h1 _ ih => rw [ih, h1.length]
theorem swapsT_length (a : Nat) : ∀ (i : Nat) (R : List Hd), (swapsT a i R).length = R.length
 | 0, R => rfl
 | i + 1, R => by
  unfold swapsT; split
  · rfl
  · rw [swapsT_length a i, swapT_length]
theorem PutT.length {B c n a : Nat} {l : Int} {R R' : List Hd} {b : Bool} (h : PutT B c n a l R b R') : R'.length = R.length := by
 induction h with
 | zero _ _ hs => exact hs.length
 | stop _ _ _ _ _ _ _ _ _ hs =>
  rw [hs.length, swapsT_length];split
  · exact turnT_length ..
  · rfl
 | meet _ _ _ _ _ _ _ _ _ _ _ _ ih => rw [ih, meetT_length]
theorem own_addR (S : LSt) (R : List Hd) (i j : Nat) (x : Int) (q : Nat) : (S.withR (addT R i j x)).own q ↔ (S.withR R).own q := own_addT (S.withR R) i j x q
theorem own_turnR (S : LSt) (R : List Hd) (i q : Nat) : (S.withR (turnT R i)).own q ↔ (S.withR R).own q := own_turnT (S.withR R) i q
theorem own_meetR (S : LSt) (R : List Hd) (k n j q : Nat) : (S.withR (meetT R k n j)).own q ↔ (S.withR R).own q := own_meetT (S.withR R) k n j q
theorem own_SIn {B c i n k : Nat} {ls : List Nat} {R R' : List Hd} (h : SIn B c ls i n k R R') : ∀ (S : LSt) (q : Nat), (S.withR R').own q ↔ (S.withR R).own q := by
 induction h with
 | done _ => exact fun _ _ => Iff.rfl
 | step _ _ _ _ _ ih => exact fun S q => (ih S q).trans (own_addR S _ _ _ _ q)
theorem own_SOut {B c n m : Nat} {ls : List Nat} {R R' : List Hd} (h : SOut B c ls n m R R') : ∀ (S : LSt) (q : Nat), (S.withR R').own q ↔ (S.withR R).own q := by
 induction h with
 | done => exact fun _ _ => Iff.rfl
 | step h1 _ ih => exact fun S q => (ih S q).trans (own_SIn h1 S q)
theorem own_swapsT (a : Nat) : ∀ (i : Nat) (R : List Hd) (S : LSt) (q : Nat), (S.withR (swapsT a i R)).own q ↔ (S.withR R).own q
 | 0, R, S, q => Iff.rfl
 | i + 1, R, S, q => by
  unfold swapsT; split
  · exact Iff.rfl
  · exact (own_swapsT a i _ S q).trans (own_swapT (S.withR R) _ _ q)
theorem own_PutT {B c n a : Nat} {l : Int} {R R' : List Hd} {b : Bool} (h : PutT B c n a l R b R') : ∀ (S : LSt) (q : Nat), (S.withR R').own q ↔ (S.withR R).own q := by
 induction h with
 | zero _ _ hs => exact own_SOut hs
 | stop _ _ _ _ _ _ _ _ _ hs =>
  refine fun S q => (own_SOut hs S q).trans ((own_swapsT _ _ _ S q).trans ?_);split
  · exact own_turnR S _ _ q
  · exact Iff.rfl
 | meet _ _ _ _ _ _ _ _ _ _ _ _ ih => exact fun S q => (ih S q).trans (own_meetR S _ _ _ _ q)
set_option maxRecDepth 100000 in
set_option maxHeartbeats 8000000 in
theorem Reduce_c (S : LSt) (B c k : Nat) (R' : List Hd) (w : World) (h : LadAt w S) (hB : B <= 4000000000000) (hP : RedT B c 0 S.R.length S.R k R') (hR : S.R.length <= 100000) (hc : c <= 1000000) (hT : S.sat B c) :
 Calls Try.prog 50 #[.pointer (some ⟨S.lb, 0, none⟩)] w fun e w' => e = .returned (.int .i64 (k : Int)) /\ LadAt w' (S.withR R') /\ Chg S.own w w' := by
 have HT := Lib.hid hT; clear hT;have cb : w.cell? ⟨S.lb, 0, none⟩ = some (.slice (some ⟨S.o, 0, none⟩) S.R.length S.cap) := h.lad.cell 0;have HL := Lib.hid h; clear h;have HP := Lib.hid hP; clear hP;go_enter Try.func50, Try.ntmps50;go_wp2
 go_region_held3 (fun w' => w'.cell? ⟨S.lb, 0, none⟩ = some (.slice (some ⟨S.o, 0, none⟩) S.R.length S.cap)) (first | exact cb) (fail)
 go_wp2;have HL1 := Lib.hid HL.out.drew;have HC1 := Lib.hid (Chg.refl S.own w).drew;clear cb;go_loopw [3, 4] (fun d_ e_ wr => ∃ (d e : Nat) (R : List Hd), d <= e /\ e <= S.R.length /\ d_ = .int .i64 (d : Int) /\ e_ = .int .i64 (e : Int) /\ Hid (RedT B c d e R k R') /\ Hid (R.length = S.R.length) /\ Hid (LadAt wr (S.withR R)) /\ Hid (Chg S.own w wr) /\ Hid (∀ q, (S.withR R).own q ↔ S.own q)) (fun d_ e_ _ => (intOf e_ - intOf d_).toNat)
 case atStart => exact ⟨0, S.R.length, S.R, Nat.zero_le _, Nat.le_refl _, rfl, rfl, HP, rfl, HL1, HC1, fun _ => Iff.rfl⟩
 case round =>
  obtain ⟨d, e, R, hde, heR, rfl, rfl, hRed, hRl, hL, hC, hO⟩ := hrel;by_cases hd : d < e
  · have hd1 : (d : Int) < (e : Int) := by omega
    have hdR : d < R.length := by have := hRl.out; omega
    have hcase : ∃ b R1, PutT B c d 0 (-1) R b R1 /\ (b = true -> RedT B c (d + 1) e R1 k R') /\ (b = false -> RedT B c d (e - 1) (rotT (e - 1 - d) d R1) k R') := by
     cases hRed.out with
     | fin h => omega
     | ok _ hp hs => exact ⟨true, _, hp, fun _ => hs, fun h => by cases h⟩
     | zero _ hp hs => exact ⟨false, _, hp, fun h => (by cases h), fun _ => hs⟩
    obtain ⟨b, R1, hp, hs1, hs2⟩ := hcase;have hput := Put_c (S.withR R) d B c b R1 wr hL.out hdR hB hp (by show R.length <= 100000; have := hRl.out; omega) hc HT.out;have HPut := Lib.hid hput;have HR1 := Lib.hid (hp.length.trans hRl.out);have HO1 := Lib.hid (fun q => (own_PutT hp S q).trans (hO.out q));have HS1 := Lib.hid hs1;have HS2 := Lib.hid hs2;clear hput hp hs1 hs2 hRed;go_wp2_with fail
    refine HPut.out.mono ?_;rintro e' w2 ⟨rfl, hL2, hC2⟩;have L2 := Lib.hid hL2;have C2 := Lib.hid (hC.out.trans (hC2.mono (fun q _ e => (hO.out q).1 e)));clear hL2 hC2 hL hC;cases b
    · have HSF := Lib.hid (HS2.out rfl);have hec : ((e - 1 : Nat) : Int) = (e : Int) - 1 := by omega
      have Hec := Lib.hid hec; clear hec;go_wp2;go_loopw [5] (fun i_ wq => ∃ (i : Nat) (R2 : List Hd), d <= i /\ i <= e - 1 /\ i_ = .int .i64 (i : Int) /\ Hid (rotT (e - 1 - i) i R2 = rotT (e - 1 - d) d R1) /\ Hid (R2.length = S.R.length) /\ Hid (LadAt wq (S.withR R2)) /\ Hid (Chg S.own w wq) /\ Hid (∀ q, (S.withR R2).own q ↔ S.own q)) (fun i_ _ => ((e : Int) - intOf i_).toNat)
      case atStart => exact ⟨d, R1, Nat.le_refl _, by omega, rfl, rfl, HR1, L2, C2, HO1⟩
      case round =>
       obtain ⟨i, R2, hdi, hie, rfl, hRot, hR2, hL2, hC2, hO2⟩ := hrel;by_cases hi : i < e - 1
       · have hi1 : (i : Int) < (e : Int) - 1 := by omega
         have hiR : i < R2.length := by have := hR2.out; omega
         have hiR1 : i + 1 < R2.length := by have := hR2.out; omega
         have hms := MSwap_c (S.withR R2) i (i + 1) wr hL2.out hiR hiR1 (by omega) (HT.out.good R2);have hcast : ((i + 1 : Nat) : Int) = (i : Int) + 1 := by omega
         rw [hcast] at hms;have HMs := Lib.hid hms; clear hms hcast;go_wp2_with fail
         refine HMs.out.mono ?_;rintro e'' w9 ⟨rfl, hL9, hC9⟩;have L9 := Lib.hid hL9;have C9 := Lib.hid (hC2.out.trans (hC9.mono (fun q _ e => (hO2.out q).1 e)));clear hL9 hC9;go_wp2;go_roundw
         case rel =>
          refine ⟨i + 1, swapT R2 i (i + 1), by omega, by omega, by go_num, ?_, Lib.hid ((swapT_length ..).trans hR2.out), ?_, C9, Lib.hid (fun q => (own_swapT (S.withR R2) i (i + 1) q).trans (hO2.out q))⟩
          · have h2 := hRot.out;have h3 : e - 1 - i = (e - 1 - (i + 1)) + 1 := by omega
            rw [h3] at h2;exact h2
          · rw [swapT_eq hiR hiR1]; exact L9
         case measure => simp only [intOf]; omega
       · have hi1 : ¬ (i : Int) < (e : Int) - 1 := by omega
         have hie2 : e - 1 - i = 0 := by omega
         have hfin : R2 = rotT (e - 1 - d) d R1 := by
          have h2 := hRot.out;rw [hie2] at h2;exact h2
         have HFin := Lib.hid hfin; clear hfin hie2;go_wp2;go_roundw
         case rel =>
          refine ⟨d, e - 1, R2, by omega, by omega, by go_num, by go_num, ?_, hR2, hL2, hC2, hO2⟩;rw [HFin.out];exact HSF
         case measure => simp only [intOf]; omega
    · have HSF := Lib.hid (HS1.out rfl);go_wp2;go_roundw
      case rel => exact ⟨d + 1, e, R1, by omega, by omega, by go_num, by go_num, HSF, HR1, L2, C2, HO1⟩
      case measure => simp only [intOf]; omega
  · have hd1 : ¬ (d : Int) < (e : Int) := by omega
    have hfin : d = k /\ R = R' := by
     cases hRed.out with
     | fin h => exact ⟨rfl, rfl⟩
     | ok h _ _ => omega
     | zero h _ _ => omega
    have HFin := Lib.hid hfin; clear hfin;go_wp2;go_ret;rw [<- HFin.out.1, <- HFin.out.2];exact ⟨rfl, hL.out, hC.out⟩
end Go.Proofs.Ytllkjlcdcbilcaa
namespace Go.Proofs.Ytllkjlcdcbilcaa
def Sh (c : Nat) (R : List Hd) : Prop := ∀ h ∈ R, h.xs.length = c
theorem ent_get {R : List Hd} {i : Nat} (hi : i < R.length) (j : Nat) : ent R i j = R[i].xs.getD j 0 := by
 unfold ent; simp [hi]
theorem ent_out {R : List Hd} {i : Nat} (hi : R.length <= i) (j : Nat) : ent R i j = 0 := by
 unfold ent; rw [List.getElem?_eq_none hi]; rfl
theorem Sh.get {c : Nat} {R : List Hd} (h : Sh c R) {i : Nat} (hi : i < R.length) : R[i].xs.length = c := h _ (List.getElem_mem hi)
theorem Sh.wide {c : Nat} {R : List Hd} (h : Sh c R) (i : Nat) {j : Nat} (hj : c <= j) : ent R i j = 0 := by
 by_cases hi : i < R.length
 · rw [ent_get hi, gd_ge _ _ (by rw [h.get hi]; exact hj)]
 · exact ent_out (by omega) j
theorem Sh.setXs_ {c : Nat} {R : List Hd} (h : Sh c R) (i : Nat) {xs : List Int} (hx : xs.length = c) : Sh c (setXs R i xs) := by
 intro r hr;obtain ⟨j, hj, rfl⟩ := List.getElem_of_mem hr;rw [setXs_length] at hj;rw [setXs_get hj];split
 · exact hx
 · exact h.get hj
theorem ent_setXs {R : List Hd} {i : Nat} (hi : i < R.length) (xs : List Int) (a b : Nat) : ent (setXs R i xs) a b = if a = i then xs.getD b 0 else ent R a b := by
 by_cases ha : a < R.length
 · rw [ent_get (by rw [setXs_length]; exact ha), setXs_get ha];by_cases e : i = a
   · subst e; simp
   · rw [if_neg e, if_neg (fun h => e h.symm), ent_get ha]
 · rw [ent_out (by rw [setXs_length]; omega), if_neg (by omega), ent_out (by omega)]
theorem getD_zipWith {f : Int -> Int -> Int} (hf : f 0 0 = 0) {xs ys : List Int} (h : xs.length = ys.length) (b : Nat) : (List.zipWith f xs ys).getD b 0 = f (xs.getD b 0) (ys.getD b 0) := by
 by_cases hb : b < xs.length
 · have hb2 : b < ys.length := by omega
   have hb3 : b < (List.zipWith f xs ys).length := by simp; omega
   rw [gd_lt _ _ hb3, gd_lt _ _ hb, gd_lt _ _ hb2, List.getElem_zipWith]
 · rw [gd_ge _ _ (by simp; omega), gd_ge _ _ (by omega), gd_ge _ _ (by omega), hf]
theorem ent_addT {c : Nat} {R : List Hd} (hs : Sh c R) {i j : Nat} (hi : i < R.length) (hj : j < R.length) (k : Int) (a b : Nat) : ent (addT R i j k) a b = if a = i then k * ent R j b + ent R i b else ent R a b := by
 rw [addT_eq hi hj]; unfold addR;rw [ent_setXs hi];unfold addRow;rw [getD_zipWith (by simp) (by rw [hs.get hi, hs.get hj]), <- ent_get hi, <- ent_get hj]
theorem Sh.addT_ {c : Nat} {R : List Hd} (hs : Sh c R) (i j : Nat) (k : Int) : Sh c (addT R i j k) := by
 unfold addT;split
 · rename_i h;unfold addR;exact hs.setXs_ i (by unfold addRow; rw [List.length_zipWith, hs.get h.1, hs.get h.2]; omega)
 · exact hs
theorem blk_addT (R : List Hd) (i j : Nat) (k : Int) : (addT R i j k).map Hd.blk = R.map Hd.blk := by
 unfold addT; split
 · exact setXs_blk ..
 · rfl
theorem ent_mixT {c : Nat} {R : List Hd} (hs : Sh c R) {i j : Nat} (hi : i < R.length) (hj : j < R.length) (hij : i ≠ j) (p q r s : Int) (a b : Nat) : ent (mixT R i j p q r s) a b = if a = i then p * ent R i b + q * ent R j b else if a = j then r * ent R i b + s * ent R j b else ent R a b := by
 rw [mixT_eq hi hj]; unfold mixR;rw [ent_setXs (by rw [setXs_length]; exact hj), ent_setXs hi];have hl : R[i].xs.length = R[j].xs.length := by rw [hs.get hi, hs.get hj]
 unfold mixRow;rw [getD_zipWith (by simp) hl, getD_zipWith (by simp) hl, <- ent_get hi, <- ent_get hj];by_cases e : a = i
 · subst e; rw [if_neg hij, if_pos rfl, if_pos rfl]
 · rw [if_neg e, if_neg e]
theorem Sh.mixT_ {c : Nat} {R : List Hd} (hs : Sh c R) (i j : Nat) (p q r s : Int) : Sh c (mixT R i j p q r s) := by
 unfold mixT;split
 · rename_i h;unfold mixR;refine (hs.setXs_ i ?_).setXs_ j ?_ <;> (unfold mixRow; rw [List.length_zipWith, hs.get h.1, hs.get h.2]; omega)
 · exact hs
theorem blk_mixT (R : List Hd) (i j : Nat) (p q r s : Int) : (mixT R i j p q r s).map Hd.blk = R.map Hd.blk := by
 unfold mixT; split
 · unfold mixR; rw [setXs_blk, setXs_blk]
 · rfl
theorem ent_turnT {R : List Hd} {i : Nat} (hi : i < R.length) (a b : Nat) : ent (turnT R i) a b = if a = i then - ent R i b else ent R a b := by
 rw [turnT_eq hi]; unfold turnR;rw [ent_setXs hi, ent_get hi];split
 · unfold negRow;by_cases hb : b < R[i].xs.length
   · rw [gd_lt _ _ (by simpa using hb), gd_lt _ _ hb]; simp
   · rw [gd_ge _ _ (by simp; omega), gd_ge _ _ (by omega)]; rfl
 · rfl
theorem Sh.turnT_ {c : Nat} {R : List Hd} (hs : Sh c R) (i : Nat) : Sh c (turnT R i) := by
 unfold turnT;split
 · rename_i h;unfold turnR;exact hs.setXs_ i (by simp [negRow, hs.get h])
 · exact hs
theorem swapT_get {R : List Hd} {i j m : Nat} (hi : i < R.length) (hj : j < R.length) (hm : m < R.length) : (swapT R i j)[m]'(by rw [swapT_length]; exact hm) = R[swp i j m]'(swp_lt hi hj hm) := by
 have := swapR_get hi hj hm;rw [<- this]; congr 1; exact swapT_eq hi hj
theorem ent_swapT {R : List Hd} {i j : Nat} (hi : i < R.length) (hj : j < R.length) (a b : Nat) : ent (swapT R i j) a b = ent R (swp i j a) b := by
 by_cases ha : a < R.length
 · rw [ent_get (by rw [swapT_length]; exact ha), swapT_get hi hj ha, ent_get]
 · rw [ent_out (by rw [swapT_length]; omega), ent_out];unfold swp; split
   · omega
   · split <;> omega
theorem Sh.swapT_ {c : Nat} {R : List Hd} (hs : Sh c R) (i j : Nat) : Sh c (swapT R i j) := by
 unfold swapT;split
 · rename_i h;intro r hr;obtain ⟨m, hm, rfl⟩ := List.getElem_of_mem hr;rw [swapR_length] at hm;rw [swapR_get h.1 h.2 hm];exact hs.get _
 · exact hs
theorem lead_ent {R : List Hd} {i : Nat} (hi : i < R.length) {c : Nat} (hs : Sh c R) : (leadOf R i <= c) /\ (∀ b, b < leadOf R i -> ent R i b = 0) /\ (leadOf R i < c -> ent R i (leadOf R i) ≠ 0) := by
 rw [leadOf_eq hi];have key : ∀ xs : List Int, (∀ b, b < lead xs -> xs.getD b 0 = 0) /\ (lead xs < xs.length -> xs.getD (lead xs) 0 ≠ 0) := by
  intro xs;induction xs with
  | nil => exact ⟨fun b _ => by simp, fun h => by simp at h⟩
  | cons x xs ih =>
   unfold lead;by_cases hx : x = 0
   · rw [if_pos hx];refine ⟨fun b hb => ?_, fun h => ?_⟩
     · cases b with
       | zero => simpa using hx
       | succ b => rw [List.getD_cons_succ]; exact ih.1 b (by omega)
     · rw [List.getD_cons_succ]; exact ih.2 (by simpa using h)
   · rw [if_neg hx];exact ⟨fun b hb => by omega, fun _ => by simpa using hx⟩
 have hl := hs.get hi;have h1 := key R[i].xs;refine ⟨hl ▸ lead_le _, fun b hb => ?_, fun h => ?_⟩
 · rw [ent_get hi]; exact h1.1 b hb
 · rw [ent_get hi]; exact h1.2 (by omega)
theorem leadOf_at {R : List Hd} {i : Nat} (hi : i < R.length) {c : Nat} (hs : Sh c R) {j : Nat} (h0 : ∀ b, b < j -> ent R i b = 0) (hj : ent R i j ≠ 0) : leadOf R i = j := by
 have h1 := lead_ent hi hs;have hjc : j < c := by
  by_cases h : j < c
  · exact h
  · exact absurd (hs.wide i (by omega)) hj
 rcases Nat.lt_trichotomy (leadOf R i) j with h | h | h
 · exact absurd (h0 _ h) (h1.2.2 (by omega))
 · exact h
 · exact absurd (h1.2.1 _ h) hj
theorem Fit.of {B c : Nat} {R : List Hd} (hs : Sh c R) (h : ∀ a b, (ent R a b).natAbs < W ^ B) : Fit B c R := by
 refine ⟨hs, fun r hr x hx => ?_⟩;obtain ⟨i, hi, rfl⟩ := List.getElem_of_mem hr;obtain ⟨j, hj, rfl⟩ := List.getElem_of_mem hx;have := h i j;rw [ent_get hi, gd_lt _ _ hj] at this;exact wlen_le_of_lt this
/-! Bounds by powers of the base. -/
theorem pw_le {u v : Nat} (h : u <= v) : W ^ u <= W ^ v := Nat.pow_le_pow_right W_pos h
theorem pw_lt {n u v : Nat} (h : n < W ^ u) (k : u <= v) : n < W ^ v := Nat.lt_of_lt_of_le h (pw_le k)
theorem pw_pos (u : Nat) : 0 < W ^ u := Nat.pow_pos W_pos
theorem pw_muladd {k y x u d : Nat} (hk : k < W ^ u) (hy : y < W ^ d) (hx : x < W ^ u) : k * y + x < W ^ (u + d) := by
 have h1 : (k + 1) * W ^ d <= W ^ u * W ^ d := Nat.mul_le_mul_right _ hk;have h2 : k * (y + 1) <= k * W ^ d := Nat.mul_le_mul_left _ hy;rw [Nat.pow_add];rw [Nat.succ_mul] at h1;rw [Nat.mul_add, Nat.mul_one] at h2;have h3 : W ^ u <= W ^ u * W ^ d := by have := Nat.mul_le_mul_left (W ^ u) (pw_pos d); omega
 by_cases hk0 : k = 0
 · subst hk0; omega
 · have h4 : k * y + k <= k * W ^ d := h2;have h5 : (W ^ u - 1) * y + (W ^ u - 1) <= (W ^ u - 1) * W ^ d := by
    have := Nat.mul_le_mul_left (W ^ u - 1) hy;rw [Nat.mul_succ] at this; exact this
   have h6 : k * y <= (W ^ u - 1) * y := Nat.mul_le_mul_right _ (by omega);have h7 : (W ^ u - 1) * W ^ d < W ^ u * W ^ d := Nat.mul_lt_mul_of_pos_right (by have := pw_pos u; omega) (pw_pos d);omega
theorem natAbs_muladd (k y x : Int) : (k * y + x).natAbs <= k.natAbs * y.natAbs + x.natAbs := by
 have := Int.natAbs_add_le (k * y) x
 rwa [Int.natAbs_mul] at this
theorem fdiv_le {x y : Int} (hy : 0 < y) : (x.fdiv y).natAbs <= x.natAbs := by
 rw [Int.fdiv_eq_ediv_of_nonneg _ (Int.le_of_lt hy)];exact Int.natAbs_ediv_le_natAbs x y
theorem fmod_lt' {x y : Int} (hy : 0 < y) : 0 <= x.fmod y /\ x.fmod y < y := by
 rw [Int.fmod_eq_emod_of_nonneg _ (Int.le_of_lt hy)];exact ⟨Int.emod_nonneg _ (by omega), Int.emod_lt_of_pos _ hy⟩
theorem fmod_def' {x y : Int} (hy : 0 < y) : -(x.fdiv y) * y + x = x.fmod y := by
 rw [Int.fdiv_eq_ediv_of_nonneg _ (Int.le_of_lt hy), Int.fmod_eq_emod_of_nonneg _ (Int.le_of_lt hy), Int.emod_def, Int.mul_comm y, Int.neg_mul]; omega
/-! settle. -/
def sinF (ls : List Nat) (i : Nat) : Nat -> Nat -> List Hd -> List Hd
 | 0, _, R => R
 | f + 1, k, R => sinF ls i f (k + 1) (addT R i k (-((ent R i (ls.getD k 0)).fdiv (ent R k (ls.getD k 0)))))
def soutF (ls : List Nat) (n : Nat) : Nat -> List Hd -> List Hd
 | 0, R => R
 | m + 1, R => soutF ls n m (sinF ls m (n - (m + 1)) (m + 1) R)
theorem SpEq.add {n : Nat} {E F : Nat -> Nat -> Int} {i k : Nat} (hi : i < n) (hk : k < n) (hik : i ≠ k) (q : Int) (h : ∀ a b, F a b = if a = i then q * E k b + E i b else E a b) : SpEq n E n F := by
 refine ⟨fun a ha => ?_, fun a ha => ?_⟩
 · by_cases e : a = i
   · subst e;refine ((Sp.row F ha).add ((Sp.row F hk).smul (-q))).congr (fun j => ?_);rw [h a j, if_pos rfl, h k j, if_neg (fun e => hik e.symm), Int.neg_mul]; omega
   · exact (Sp.row F ha).congr (fun j => by rw [h, if_neg e])
 · by_cases e : a = i
   · subst e;refine (((Sp.row E hk).smul q).add (Sp.row E ha)).congr (fun j => ?_);rw [h, if_pos rfl]
   · exact (Sp.row E ha).congr (fun j => by rw [h, if_neg e])
structure SinOk (n c i k : Nat) (l : Nat -> Nat) (R R' : List Hd) : Prop where
 same : ∀ a, a ≠ i -> ∀ b, ent R' a b = ent R a b
 low : ∀ b, (∀ m, k <= m -> m < n -> b < l m) -> ent R' i b = ent R i b
 red : ∀ m, k <= m -> m < n -> 0 <= ent R' i (l m) /\ ent R' i (l m) < ent R m (l m)
 sh : Sh c R'
 len : R'.length = R.length
 blk : R'.map Hd.blk = R.map Hd.blk
 sp : SpEq n (ent R) n (ent R')
theorem Ech.add {n c : Nat} {E F : Nat -> Nat -> Int} {l : Nat -> Nat} (h : Ech n c E l) {i k : Nat} (hik : i < k) (hk : k < n) (q : Int) (e : ∀ a b, F a b = if a = i then q * E k b + E i b else E a b) : Ech n c F l := by
 refine ⟨h.inc, h.lt, fun a ha j hj => ?_, fun a ha => ?_⟩
 · rw [e]; split
   · rename_i e'; subst e';rw [h.zero k hk j (by have := h.inc a k hik hk; omega), h.zero a ha j hj]; simp
   · exact h.zero a ha j hj
 · rw [e]; split
   · rename_i e'; subst e';rw [h.zero k hk _ (h.inc a k hik hk)]; have := h.pos a ha; simpa using this
   · exact h.pos a ha
theorem sinF_ok {n c i : Nat} {l : Nat -> Nat} {ls : List Nat} (hls : ∀ k, k < n -> ls.getD k 0 = l k) : ∀ (f k : Nat) (R : List Hd), k + f = n -> i < k -> Sh c R -> n <= R.length -> Ech n c (ent R) l -> SinOk n c i k l R (sinF ls i f k R)
 | 0, k, R, hf, hik, hs, hn, hE => ⟨fun _ _ _ => rfl, fun _ _ => rfl, fun m h1 h2 => by omega, hs, rfl, rfl, SpEq.refl _ _⟩
 | f + 1, k, R, hf, hik, hs, hn, hE => by
  have hk : k < n := by omega
  have he := fun (a b : Nat) => ent_addT hs (i := i) (j := k) (by omega) (by omega) (-((ent R i (ls.getD k 0)).fdiv (ent R k (ls.getD k 0)))) a b;have ih := sinF_ok (i := i) hls f (k + 1) (addT R i k (-((ent R i (ls.getD k 0)).fdiv (ent R k (ls.getD k 0))))) (by omega) (by omega) (hs.addT_ i k _) (by rw [addT_length]; exact hn) (hE.add hik hk _ he);rw [hls k hk] at he;have hp := hE.pos k hk;refine ⟨fun a ha b => ?_, fun b hb => ?_, fun m hm hmn => ?_, ih.sh, ih.len.trans (addT_length ..), ih.blk.trans (blk_addT ..), (SpEq.add (by omega) hk (by omega) _ he).trans (by rw [<- hls k hk]; exact ih.sp)⟩
  · show ent (sinF ls i f (k + 1) _) a b = _;rw [ih.same a ha b, hls k hk, he, if_neg ha]
  · show ent (sinF ls i f (k + 1) _) i b = _;rw [ih.low b (fun m h1 h2 => hb m (by omega) h2), hls k hk, he, if_pos rfl, hE.zero k hk b (hb k (Nat.le_refl _) hk)]; omega
  · by_cases e : m = k
    · subst e;show 0 <= ent (sinF ls i f (m + 1) _) i (l m) /\ ent (sinF ls i f (m + 1) _) i (l m) < _;rw [ih.low (l m) (fun q h1 h2 => hE.inc m q (by omega) h2), hls m hk, he, if_pos rfl, fmod_def' hp];exact fmod_lt' hp
    · have h1 := ih.red m (by omega) hmn;rw [hls k hk, he m, if_neg (by omega)] at h1;show 0 <= ent (sinF ls i f (k + 1) _) i (l m) /\ ent (sinF ls i f (k + 1) _) i (l m) < _;rw [hls k hk];exact h1
theorem Ech.congr {n c : Nat} {E F : Nat -> Nat -> Int} {l : Nat -> Nat} (h : Ech n c E l) (e : ∀ a, a < n -> ∀ b, F a b = E a b) : Ech n c F l :=
 ⟨h.inc, h.lt, fun a ha j hj => (e a ha j).trans (h.zero a ha j hj), fun a ha => by rw [e a ha]; exact h.pos a ha⟩
theorem SinOk.ech {n c i k : Nat} {l : Nat -> Nat} {R R' : List Hd} (h : SinOk n c i k l R R') (hE : Ech n c (ent R) l) (hik : i < k) (hin : i < n) : Ech n c (ent R') l := by
 have hlow : ∀ b, b <= l i -> ent R' i b = ent R i b := fun b hb => h.low b (fun m h1 h2 => by have := hE.inc i m (by omega) h2; omega);refine ⟨hE.inc, hE.lt, fun a ha j hj => ?_, fun a ha => ?_⟩
 · by_cases e : a = i
   · subst e; rw [hlow j (by omega)]; exact hE.zero a ha j hj
   · rw [h.same a e]; exact hE.zero a ha j hj
 · by_cases e : a = i
   · subst e; rw [hlow _ (Nat.le_refl _)]; exact hE.pos a ha
   · rw [h.same a e]; exact hE.pos a ha
structure SoutOk (n c m : Nat) (l : Nat -> Nat) (R R' : List Hd) : Prop where
 same : ∀ a, m <= a -> ∀ b, ent R' a b = ent R a b
 herm : Herm n c (ent R') l
 sh : Sh c R'
 len : R'.length = R.length
 blk : R'.map Hd.blk = R.map Hd.blk
 sp : SpEq n (ent R) n (ent R')
theorem soutF_ok {n c : Nat} {l : Nat -> Nat} {ls : List Nat} (hls : ∀ k, k < n -> ls.getD k 0 = l k) : ∀ (m : Nat) (R : List Hd), m <= n -> Sh c R -> n <= R.length -> Ech n c (ent R) l -> (∀ i k, m <= i -> i < k -> k < n -> 0 <= ent R i (l k) /\ ent R i (l k) < ent R k (l k)) -> SoutOk n c m l R (soutF ls n m R)
 | 0, R, hm, hs, hn, hE, hr => ⟨fun _ _ _ => rfl, ⟨hE, fun i k => hr i k (Nat.zero_le _)⟩, hs, rfl, rfl, SpEq.refl _ _⟩
 | m + 1, R, hm, hs, hn, hE, hr => by
  have h1 := sinF_ok (i := m) hls (n - (m + 1)) (m + 1) R (by omega) (by omega) hs hn hE;have h2 := soutF_ok hls m (sinF ls m (n - (m + 1)) (m + 1) R) (by omega) h1.sh (by rw [h1.len]; exact hn) (h1.ech hE (by omega) (by omega)) (fun i k hi hik hk => by
   by_cases e : i = m
   · subst e;rw [h1.same k (by omega)];exact h1.red k (by omega) hk
   · rw [h1.same i e, h1.same k (by omega)];exact hr i k (by omega) hik hk)
  exact ⟨fun a ha b => (h2.same a (by omega) b).trans (h1.same a (by omega) b), h2.herm, h2.sh, h2.len.trans h1.len, h2.blk.trans h1.blk, h1.sp.trans h2.sp⟩
theorem SIn_of {n c i B δ : Nat} {l : Nat -> Nat} {ls : List Nat} (hls : ∀ k, k < n -> ls.getD k 0 = l k) : ∀ (f k u : Nat) (R : List Hd), k + f = n -> i < k -> Sh c R -> n <= R.length -> Ech n c (ent R) l ->
 (∀ a b, (ent R a b).natAbs < W ^ B) -> (∀ b, (ent R i b).natAbs < W ^ u) -> (∀ a, k <= a -> a < n -> ∀ b, (ent R a b).natAbs < W ^ δ) -> u + f * δ <= B -> SIn B c ls i n k R (sinF ls i f k R)
 | 0, k, u, R, hf, hik, hs, hn, hE, hB, hu, hd, hb => .done (by omega)
 | f + 1, k, u, R, hf, hik, hs, hn, hE, hB, hu, hd, hb => by
  have hk : k < n := by omega
  have he := fun (a b : Nat) => ent_addT hs (i := i) (j := k) (by omega) (by omega) (-((ent R i (ls.getD k 0)).fdiv (ent R k (ls.getD k 0)))) a b;have hp := hE.pos k hk;have hq : ((ent R i (ls.getD k 0)).fdiv (ent R k (ls.getD k 0))).natAbs < W ^ u := by
   rw [hls k hk];exact Nat.lt_of_le_of_lt (fdiv_le hp) (hu _)
  have hrow : ∀ b, (ent (addT R i k (-((ent R i (ls.getD k 0)).fdiv (ent R k (ls.getD k 0))))) i b).natAbs < W ^ (u + δ) := by
   intro b;rw [he, if_pos rfl];refine Nat.lt_of_le_of_lt (natAbs_muladd _ _ _) ?_;rw [Int.natAbs_neg];exact pw_muladd hq (hd k (Nat.le_refl _) hk b) (hu b)
  have e1 : (f + 1) * δ = f * δ + δ := Nat.succ_mul ..;refine .step hk (Fit.of hs hB) (by rw [hls k hk]; exact hE.lt k hk) (by rw [hls k hk]; omega) ?_;refine SIn_of (δ := δ) hls f (k + 1) (u + δ) _ (by omega) (by omega) (hs.addT_ i k _) (by rw [addT_length]; exact hn) (hE.add hik hk _ he) (fun a b => ?_) hrow (fun a h1 h2 b => ?_) (by omega)
  · by_cases e : a = i
    · subst e; exact pw_lt (hrow b) (by omega)
    · rw [he, if_neg e]; exact hB a b
  · rw [he, if_neg (by omega)]; exact hd a (by omega) h2 b
theorem SOut_of {n c B δ u : Nat} {l : Nat -> Nat} {ls : List Nat} (hls : ∀ k, k < n -> ls.getD k 0 = l k) (hb : u + n * δ <= B) : ∀ (m : Nat) (R : List Hd), m <= n -> Sh c R -> n <= R.length -> Ech n c (ent R) l -> (∀ i k, m <= i -> i < k -> k < n -> 0 <= ent R i (l k) /\ ent R i (l k) < ent R k (l k)) ->
 (∀ a b, (ent R a b).natAbs < W ^ B) -> (∀ a, a < m -> ∀ b, (ent R a b).natAbs < W ^ u) -> (∀ a, a < n -> ∀ b, (ent (soutF ls n m R) a b).natAbs < W ^ δ) -> SOut B c ls n m R (soutF ls n m R)
 | 0, R, hm, hs, hn, hE, hr, hB, hu, hd => .done
 | m + 1, R, hm, hs, hn, hE, hr, hB, hu, hd => by
  have hout := soutF_ok hls (m + 1) R hm hs hn hE hr;have h1 := sinF_ok (i := m) hls (n - (m + 1)) (m + 1) R (by omega) (by omega) hs hn hE;have hr1 : ∀ i k, m <= i -> i < k -> k < n -> 0 <= ent (sinF ls m (n - (m + 1)) (m + 1) R) i (l k) /\ ent (sinF ls m (n - (m + 1)) (m + 1) R) i (l k) < ent (sinF ls m (n - (m + 1)) (m + 1) R) k (l k) := fun i k hi hik hk => by
   by_cases e : i = m
   · subst e;rw [h1.same k (by omega)];exact h1.red k (by omega) hk
   · rw [h1.same i e, h1.same k (by omega)];exact hr i k (by omega) hik hk
  have h2 := soutF_ok hls m (sinF ls m (n - (m + 1)) (m + 1) R) (by omega) h1.sh (by rw [h1.len]; exact hn) (h1.ech hE (by omega) (by omega)) hr1;have hmul : (n - (m + 1)) * δ <= n * δ := Nat.mul_le_mul_right _ (by omega);have hδ : δ <= n * δ := by have := Nat.mul_le_mul_right δ (show 1 <= n by omega); omega
  refine .step (SIn_of (δ := δ) hls (n - (m + 1)) (m + 1) u R (by omega) (by omega) hs hn hE hB (fun b => hu m (by omega) b) (fun a h3 h4 b => ?_) (by omega)) ?_
  · rw [<- hout.same a h3 b]; exact hd a h4 b
  · refine SOut_of hls hb m _ (by omega) h1.sh (by rw [h1.len]; exact hn) (h1.ech hE (by omega) (by omega)) hr1 (fun a b => ?_) (fun a ha b => ?_) hd
    · by_cases e : a = m
      · subst e;rw [<- h2.same a (Nat.le_refl _) b];exact pw_lt (hd a (by omega) b) (by omega)
      · rw [h1.same a e]; exact hB a b
    · rw [h1.same a (by omega)]; exact hu a (by omega) b
/-! meet. -/
theorem ext_eq (a b : Int) (hb : b ≠ 0) : a * extX a b + b * extY a b = extG a b := by
 have h := ext_is a b;unfold ExtIs at h;rw [if_neg hb] at h;exact h.2.2.2
theorem SpEq.two {N : Nat} {E F : Nat -> Nat -> Int} {k n : Nat} (hk : k < N) (hn : n < N) (hkn : k ≠ n) (hs : ∀ a, a ≠ k -> a ≠ n -> ∀ b, F a b = E a b)
 {x y z t x' y' z' t' : Int} (h1 : ∀ b, F k b = x * E k b + y * E n b) (h2 : ∀ b, F n b = z * E k b + t * E n b) (h3 : ∀ b, E k b = x' * F k b + y' * F n b) (h4 : ∀ b, E n b = z' * F k b + t' * F n b) : SpEq N E N F := by
 refine ⟨fun a ha => ?_, fun a ha => ?_⟩
 · by_cases e : a = k
   · subst e; exact (((Sp.row F hk).smul x').add ((Sp.row F hn).smul y')).congr h3
   · by_cases e' : a = n
     · subst e'; exact (((Sp.row F hk).smul z').add ((Sp.row F hn).smul t')).congr h4
     · exact (Sp.row F ha).congr (fun j => (hs a e e' j).symm)
 · by_cases e : a = k
   · subst e; exact (((Sp.row E hk).smul x).add ((Sp.row E hn).smul y)).congr h1
   · by_cases e' : a = n
     · subst e'; exact (((Sp.row E hk).smul z).add ((Sp.row E hn).smul t)).congr h2
     · exact (Sp.row E ha).congr (fun j => hs a e e' j)
structure MeetOk (c k n j δ u : Nat) (R R' : List Hd) : Prop where
 same : ∀ a, a ≠ k -> a ≠ n -> ∀ b, ent R' a b = ent R a b
 low : ∀ b, b < j -> ent R' k b = 0
 piv : 0 < ent R' k j
 gone : ∀ b, b <= j -> ent R' n b = 0
 comb : ∃ t s : Int, t ≠ 0 /\ ∀ b, ent R' n b = t * ent R n b + s * ent R k b
 sp : ∀ N, k < N -> n < N -> SpEq N (ent R) N (ent R')
 bk : ∀ b, (ent R' k b).natAbs < W ^ (u + 2 * δ + 1)
 bn : ∀ b, (ent R' n b).natAbs < W ^ (u + 2 * δ + 1)
 sh : Sh c R'
 len : R'.length = R.length
 blk : R'.map Hd.blk = R.map Hd.blk
theorem meetA_ent {c : Nat} {R : List Hd} (hs : Sh c R) {k n : Nat} (hk : k < R.length) (hn : n < R.length) (j a b : Nat) : ent (meetA R k n j) a b = if a = n then -((ent R n j).fdiv (ent R k j)) * ent R k b + ent R n b else ent R a b :=
 ent_addT hs hn hk _ a b
theorem pw_two {x y z t u d : Nat} (hx : x <= W ^ d) (hy : y < W ^ d) (hz : z <= W ^ d) (ht : t < W ^ (u + d)) : x * y + z * t < W ^ (u + 2 * d + 1) := by
 have h1 : x * y <= W ^ d * W ^ d := Nat.mul_le_mul hx (Nat.le_of_lt hy);have h2 : z * t <= W ^ d * W ^ (u + d) := Nat.mul_le_mul hz (Nat.le_of_lt ht);have e1 : W ^ d * W ^ d <= W ^ (u + 2 * d) := by rw [<- Nat.pow_add]; exact pw_le (by omega)
 have e2 : W ^ d * W ^ (u + d) = W ^ (u + 2 * d) := by rw [<- Nat.pow_add]; congr 1; omega
 have e3 : W ^ (u + 2 * d) * 2 < W ^ (u + 2 * d + 1) := by
  rw [Nat.pow_succ];exact Nat.mul_lt_mul_of_pos_left (by unfold W; omega) (pw_pos _)
 omega
theorem meetA_bound {c : Nat} {R : List Hd} (hs : Sh c R) {k n j δ u : Nat} (hk : k < R.length) (hn : n < R.length) (hp : 0 < ent R k j) (hbk : ∀ b, (ent R k b).natAbs < W ^ δ) (hbn : ∀ b, (ent R n b).natAbs < W ^ u) (b : Nat) : (ent (meetA R k n j) n b).natAbs < W ^ (u + δ) := by
 rw [meetA_ent hs hk hn, if_pos rfl];refine Nat.lt_of_le_of_lt (natAbs_muladd _ _ _) ?_;rw [Int.natAbs_neg];exact pw_muladd (Nat.lt_of_le_of_lt (fdiv_le hp) (hbn j)) (hbk b) (hbn b)
theorem blk_meetT (R : List Hd) (k n j : Nat) : (meetT R k n j).map Hd.blk = R.map Hd.blk := by
 unfold meetT meetA; split
 · exact blk_addT ..
 · rw [blk_mixT]; exact blk_addT ..
theorem meet_ok {c k n j δ u : Nat} {R : List Hd} (hs : Sh c R) (hk : k < R.length) (hn : n < R.length) (hkn : k ≠ n) (hp : 0 < ent R k j) (h0 : ∀ b, b < j -> ent R k b = 0) (h1 : ∀ b, b < j -> ent R n b = 0)
 (hbk : ∀ b, (ent R k b).natAbs < W ^ δ) (hbn : ∀ b, (ent R n b).natAbs < W ^ u) : MeetOk c k n j δ u R (meetT R k n j) := by
 have hA := meetA_ent hs hk hn j;have hAn := fun b => (hA n b).trans (if_pos rfl);have hAk := fun b => (hA k b).trans (if_neg hkn);have hAs := fun a b (h : a ≠ n) => (hA a b).trans (if_neg h);have hsA : Sh c (meetA R k n j) := hs.addT_ n k _;have hlA : (meetA R k n j).length = R.length := addT_length ..;have hbA := meetA_bound hs hk hn hp hbk hbn;have hr : ent (meetA R k n j) n j = (ent R n j).fmod (ent R k j) := by rw [hAn, fmod_def' hp]
 have hrr := fmod_lt' (x := ent R n j) hp;by_cases hz : (ent R n j).fmod (ent R k j) = 0
 · have e : meetT R k n j = meetA R k n j := by unfold meetT; rw [if_pos hz]
   rw [e];refine ⟨fun a _ h b => hAs a b h, fun b hb => (hAk b).trans (h0 b hb), by rw [hAk]; exact hp, fun b hb => ?_, ⟨1, -((ent R n j).fdiv (ent R k j)), by omega, fun b => ?_⟩, fun N hkN hnN => SpEq.add hnN hkN (fun e => hkn e.symm) _ hA, fun b => ?_, fun b => pw_lt (hbA b) (by omega), hsA, hlA, blk_addT ..⟩
   · rcases Nat.lt_or_eq_of_le hb with h | h
     · rw [hAn, h0 b h, h1 b h]; simp
     · subst h; rw [hr, hz]
   · rw [hAn, Int.one_mul]; omega
   · rw [hAk]; exact pw_lt (hbk b) (by omega)
 · obtain ⟨M, hM⟩ : ∃ M, meetA R k n j = M := ⟨_, rfl⟩;rw [hM] at hAn hAk hAs hsA hlA hbA hr;have e : meetT R k n j = mixT M k n (extX (ent M k j) (ent M n j)) (extY (ent M k j) (ent M n j)) (-(ent M n j / extG (ent M k j) (ent M n j))) (ent M k j / extG (ent M k j) (ent M n j)) := by
    unfold meetT; rw [if_neg hz, hM]
   obtain ⟨p, hp'⟩ : ∃ p, ent M k j = p := ⟨_, rfl⟩;obtain ⟨r, hr'⟩ : ∃ r, ent M n j = r := ⟨_, rfl⟩;have hpp : p = ent R k j := hp'.symm.trans (hAk j);rw [hr'] at hr;rw [hp', hr'] at e;have hrne : r ≠ 0 := by rw [hr]; exact hz
   rw [<- hr, <- hpp] at hrr;have hrp : 0 < r := by omega
   have hg := extG_dvd p r;have hx := ext_eq p r hrne;have hxl := extX_le p r;have hyl := extY_le p r;obtain ⟨g, hgd⟩ : ∃ g, extG p r = g := ⟨_, rfl⟩;obtain ⟨x, hxd⟩ : ∃ x, extX p r = x := ⟨_, rfl⟩;obtain ⟨y, hyd⟩ : ∃ y, extY p r = y := ⟨_, rfl⟩;rw [hgd] at hg hx e;rw [hxd] at hx hxl e;rw [hyd] at hx hyl e;have hgp : 0 < g := by have := hg.2.2.1 (by omega); have := hg.2.2.2; omega
   obtain ⟨p', hp1⟩ := hg.1;obtain ⟨r', hr1⟩ := hg.2.1;have hpd : p / g = p' := by rw [hp1, Int.mul_ediv_cancel_left _ (by omega)]
   have hrd : r / g = r' := by rw [hr1, Int.mul_ediv_cancel_left _ (by omega)]
   rw [hpd, hrd] at e;have hk1 : p' * x + r' * y = 1 := by
    have : g * (p' * x + r' * y) = g * 1 := by
     rw [Int.mul_add, <- Int.mul_assoc, <- Int.mul_assoc, <- hp1, <- hr1, hx]; omega
    exact Int.eq_of_mul_eq_mul_left (by omega) this
   have hp0 : p' ≠ 0 := fun h => by rw [h, Int.mul_zero] at hp1; omega
   have hmix := ent_mixT hsA (by omega : k < M.length) (by omega : n < M.length) hkn x y (-r') p';rw [<- e] at hmix;have hmk := fun b => (hmix k b).trans (if_pos rfl);have hmn := fun b => ((hmix n b).trans (if_neg (fun h => hkn h.symm))).trans (if_pos rfl);have hms := fun a b (h : a ≠ k) (h' : a ≠ n) => ((hmix a b).trans (if_neg h)).trans (if_neg h');have hM0 : ∀ b, b < j -> ent M n b = 0 := fun b hb => by rw [hAn, h0 b hb, h1 b hb]; simp
   have hpD : p.natAbs < W ^ δ := by rw [hpp]; exact hbk j
   have hrD : r.natAbs < W ^ δ := by omega
   have hp'D : p'.natAbs <= W ^ δ := by
    have h2 : p'.natAbs <= p.natAbs := by
     rw [hp1, Int.natAbs_mul];have := Nat.mul_le_mul_right p'.natAbs (show 1 <= g.natAbs by omega);omega
    omega
   have hr'D : r'.natAbs <= W ^ δ := by
    have h2 : r'.natAbs <= r.natAbs := by
     rw [hr1, Int.natAbs_mul];have := Nat.mul_le_mul_right r'.natAbs (show 1 <= g.natAbs by omega);omega
    omega
   have bnd : ∀ (s t : Int) b, s.natAbs <= W ^ δ -> t.natAbs <= W ^ δ -> (s * ent M k b + t * ent M n b).natAbs < W ^ (u + 2 * δ + 1) := by
    intro s t b hs' ht';refine Nat.lt_of_le_of_lt (Int.natAbs_add_le _ _) ?_;rw [Int.natAbs_mul, Int.natAbs_mul];exact pw_two hs' (by rw [hAk]; exact hbk b) ht' (hbA b)
   have hspA : ∀ N, k < N -> n < N -> SpEq N (ent R) N (ent M) := fun N hkN hnN => by
    rw [<- hM]; exact SpEq.add hnN hkN (fun e => hkn e.symm) _ hA
   refine ⟨fun a h h' b => ?_, fun b hb => ?_, ?_, fun b hb => ?_, ?_, fun N hkN hnN => ?_, fun b => ?_, fun b => ?_, ?_, ?_, blk_meetT ..⟩
   · rw [hms a b h h', hAs a b h']
   · rw [hmk, hAk, h0 b hb, hM0 b hb]; simp
   · rw [hmk, hp', hr', Int.mul_comm x, Int.mul_comm y, hx]; exact hgp
   · rw [hmn];rcases Nat.lt_or_eq_of_le hb with h | h
     · rw [hAk, h0 b h, hM0 b h]; simp
     · subst h;rw [hp', hr', hp1, hr1, Int.neg_mul, Int.mul_left_comm r', Int.mul_left_comm p', Int.mul_comm r' p']; omega
   · refine ⟨p', -r' + p' * (-((ent R n j).fdiv (ent R k j))), hp0, fun b => ?_⟩;rw [hmn, hAk, hAn, Int.mul_add, Int.add_mul, <- Int.mul_assoc]; omega
   · refine (hspA N hkN hnN).trans (SpEq.two hkN hnN hkn (fun a h h' b => hms a b h h') hmk hmn (x' := p') (y' := -y) (z' := r') (t' := x) (fun b => ?_) (fun b => ?_))
     · rw [hmk, hmn];have : p' * (x * ent M k b + y * ent M n b) + -y * (-r' * ent M k b + p' * ent M n b) = (p' * x + r' * y) * ent M k b := by
        simp only [Int.mul_add, Int.add_mul, Int.neg_mul, Int.mul_neg, Int.neg_neg];have a1 : p' * (y * ent M n b) = y * (p' * ent M n b) := Int.mul_left_comm ..;have a2 : y * (r' * ent M k b) = r' * y * ent M k b := by rw [<- Int.mul_assoc, Int.mul_comm y]
        have a3 : p' * (x * ent M k b) = p' * x * ent M k b := (Int.mul_assoc ..).symm;omega
       rw [this, hk1, Int.one_mul]
     · rw [hmk, hmn];have : r' * (x * ent M k b + y * ent M n b) + x * (-r' * ent M k b + p' * ent M n b) = (p' * x + r' * y) * ent M n b := by
        simp only [Int.mul_add, Int.add_mul, Int.neg_mul, Int.mul_neg];have a1 : r' * (x * ent M k b) = x * (r' * ent M k b) := Int.mul_left_comm ..;have a2 : r' * (y * ent M n b) = r' * y * ent M n b := (Int.mul_assoc ..).symm;have a3 : x * (p' * ent M n b) = p' * x * ent M n b := by rw [<- Int.mul_assoc, Int.mul_comm x]
        omega
       rw [this, hk1, Int.one_mul]
   · rw [hmk]; exact bnd x y b (by omega) (by omega)
   · rw [hmn]; exact bnd (-r') p' b (by rw [Int.natAbs_neg]; exact hr'D) hp'D
   · rw [e]; exact hsA.mixT_ k n _ _ _ _
   · exact meetT_length ..
/-! put. -/
theorem leadsOf_get (R : List Hd) {n k : Nat} (hk : k < n) : (leadsOf R n).getD k 0 = leadOf R k := by
 unfold leadsOf; simp [hk]
theorem settle_ok {c n B δ u : Nat} {l : Nat -> Nat} {R : List Hd} (hs : Sh c R) (hn : n <= R.length) (hE : Ech n c (ent R) l) (hu : ∀ a b, (ent R a b).natAbs < W ^ u) (hb : u + n * δ <= B)
 (hD : ∀ E', Herm n c E' l -> SpEq n (ent R) n E' -> ∀ i, i < n -> ∀ j, (E' i j).natAbs < W ^ δ) : ∃ R', SOut B c (leadsOf R n) n n R R' /\ SoutOk n c n l R R' := by
 have hls : ∀ k, k < n -> (leadsOf R n).getD k 0 = l k := fun k hk => by
  rw [leadsOf_get R hk];exact leadOf_at (by omega) hs (hE.zero k hk) (by have := hE.pos k hk; omega)
 have h1 := soutF_ok hls n R (Nat.le_refl _) hs hn hE (fun i k h1 h2 h3 => by omega);exact ⟨_, SOut_of (δ := δ) (u := u) hls hb n R (Nat.le_refl _) hs hn hE (fun i k h1 h2 h3 => by omega) (fun a b => pw_lt (hu a b) (by omega)) (fun a _ b => hu a b) (hD _ h1.herm h1.sp), h1⟩
theorem ent_swapsT {a : Nat} : ∀ (n : Nat) (R : List Hd), a <= n -> n < R.length -> ∀ i b, ent (swapsT a n R) i b = if i < a then ent R i b else if i = a then ent R n b else if i <= n then ent R (i - 1) b else ent R i b
 | 0, R, ha, hn, i, b => by
  obtain rfl : a = 0 := by omega
  unfold swapsT;by_cases h : i = 0
  · subst h; simp
  · rw [if_neg (by omega), if_neg h, if_neg (by omega)]
 | n + 1, R, ha, hn, i, b => by
  unfold swapsT;by_cases h : n + 1 <= a
  · obtain rfl : a = n + 1 := by omega
    rw [if_pos h];by_cases h1 : i < n + 1
    · rw [if_pos h1]
    · rw [if_neg h1];by_cases h2 : i = n + 1
      · subst h2; rw [if_pos rfl]
      · rw [if_neg h2, if_neg (by omega)]
  · rw [if_neg h, ent_swapsT n _ (by omega) (by rw [swapT_length]; omega)];have hsw := fun x => ent_swapT (R := R) (i := n + 1) (j := n) hn (by omega) x b;rw [hsw, hsw, hsw];by_cases h1 : i < a
    · rw [if_pos h1, if_pos h1];unfold swp; rw [if_neg (by omega), if_neg (by omega)]
    · rw [if_neg h1, if_neg h1];by_cases h2 : i = a
      · rw [if_pos h2, if_pos h2];unfold swp; rw [if_pos rfl]
      · rw [if_neg h2, if_neg h2];by_cases h3 : i <= n
        · rw [if_pos h3, if_pos (by omega)];unfold swp; rw [if_neg (by omega), if_neg (by omega)]
        · rw [if_neg h3];by_cases h4 : i = n + 1
          · subst h4; rw [if_pos (by omega)];unfold swp; rw [if_neg (by omega), if_pos rfl]; rfl
          · rw [if_neg (by omega : ¬ i <= n + 1)];unfold swp; rw [if_neg (by omega), if_neg h4]
theorem shSwapsT {c a : Nat} : ∀ (n : Nat) (R : List Hd), Sh c R -> Sh c (swapsT a n R)
 | 0, R, h => h
 | n + 1, R, h => by
  unfold swapsT; split
  · exact h
  · exact shSwapsT n _ (h.swapT_ _ _)
structure PI (c n δ u s : Nat) (l : Nat -> Nat) (last : Int) (E0 : Nat -> Nat -> Int) (v0 : Nat -> Int) (Ro R : List Hd) : Prop where
 sh : Sh c R
 len : R.length = Ro.length
 ech : Ech n c (ent R) l
 sn : s <= n
 lo : ∀ i, i < s -> (l i : Int) <= last
 hi : ∀ i, s <= i -> i < n -> last < (l i : Int)
 un : ∀ i, s <= i -> i < n -> ∀ b, ent R i b = E0 i b
 z : ∀ b : Nat, (b : Int) <= last -> ent R n b = 0
 bd : ∀ a b, (ent R a b).natAbs < W ^ u
 cb : ∃ (t : Int) (w : Nat -> Int), t ≠ 0 /\ Sp n E0 w /\ ∀ b, ent R n b = t * v0 b + w b
 sp : SpEq (n + 1) (ent Ro) (n + 1) (ent R)
 oth : ∀ a, n < a -> ∀ b, ent R a b = ent Ro a b
structure PutOk (c n : Nat) (E0 : Nat -> Nat -> Int) (v0 : Nat -> Int) (Ro : List Hd) (b : Bool) (R' : List Hd) : Prop where
 sh : Sh c R'
 len : R'.length = Ro.length
 oth : ∀ a, n < a -> ∀ b, ent R' a b = ent Ro a b
 no : b = false -> (∃ l', Herm n c (ent R') l') /\ (∀ b, ent R' n b = 0) /\ SpEq (n + 1) (ent Ro) n (ent R')
 yes : b = true -> (∃ l', Herm (n + 1) c (ent R') l') /\ SpEq (n + 1) (ent Ro) (n + 1) (ent R') /\ ∀ s : Int, Sp n E0 (fun j => s * v0 j) -> s = 0
theorem first_at {n s j : Nat} {l : Nat -> Nat} (h : s <= n) : ∃ a, s <= a /\ a <= n /\ (∀ i, s <= i -> i < a -> l i < j) /\ (a = n ∨ (a < n /\ j <= l a)) := by
 obtain ⟨f, hf⟩ : ∃ f, n - s = f := ⟨_, rfl⟩;induction f generalizing s with
 | zero => exact ⟨s, Nat.le_refl _, h, fun i h1 h2 => by omega, .inl (by omega)⟩
 | succ f ih =>
  by_cases hj : j <= l s
  · exact ⟨s, Nat.le_refl _, h, fun i h1 h2 => by omega, .inr ⟨by omega, hj⟩⟩
  · obtain ⟨a, h1, h2, h3, h4⟩ := ih (s := s + 1) (by omega) (by omega);refine ⟨a, by omega, h2, fun i hi hia => ?_, h4⟩;by_cases e : i = s
    · subst e; omega
    · exact h3 i (by omega) hia
theorem ech_insert {c n a j : Nat} {l : Nat -> Nat} {E F : Nat -> Nat -> Int} (h : Ech n c E l) (ha : a <= n) (hlo : ∀ i, i < a -> l i < j) (hhi : ∀ i, a <= i -> i < n -> j < l i) (hj : j < c) (h0 : ∀ b, b < j -> E n b = 0) (hp : 0 < E n j)
 (hF : ∀ i b, i <= n -> F i b = if i < a then E i b else if i = a then E n b else E (i - 1) b) : Ech (n + 1) c F (fun i => if i < a then l i else if i = a then j else l (i - 1)) := by
 refine ⟨fun i k hik hk => ?_, fun i hi => ?_, fun i hi b hb => ?_, fun i hi => ?_⟩
 · show (if i < a then l i else if i = a then j else l (i - 1)) < (if k < a then l k else if k = a then j else l (k - 1));by_cases h1 : k < a
   · rw [if_pos h1, if_pos (by omega)]; exact h.inc i k hik (by omega)
   · rw [if_neg h1];by_cases h2 : k = a
     · rw [if_pos h2, if_pos (by omega)]; exact hlo i (by omega)
     · rw [if_neg h2];by_cases h3 : i < a
       · rw [if_pos h3]; exact h.inc i (k - 1) (by omega) (by omega)
       · rw [if_neg h3];by_cases h4 : i = a
         · rw [if_pos h4]; exact hhi (k - 1) (by omega) (by omega)
         · rw [if_neg h4]; exact h.inc (i - 1) (k - 1) (by omega) (by omega)
 · show (if i < a then l i else if i = a then j else l (i - 1)) < c;split
   · exact h.lt i (by omega)
   · split
     · exact hj
     · exact h.lt (i - 1) (by omega)
 · rw [hF i b (by omega)];have hb : b < (if i < a then l i else if i = a then j else l (i - 1)) := hb;split at hb
   · rename_i h1; rw [if_pos h1]; exact h.zero i (by omega) b hb
   · rename_i h1; rw [if_neg h1];split at hb
     · rename_i h2; rw [if_pos h2]; exact h0 b hb
     · rename_i h2; rw [if_neg h2]; exact h.zero (i - 1) (by omega) b hb
 · rw [hF i _ (by omega)];show 0 < (if i < a then E i (if i < a then l i else if i = a then j else l (i - 1)) else if i = a then E n (if i < a then l i else if i = a then j else l (i - 1)) else E (i - 1) (if i < a then l i else if i = a then j else l (i - 1)));split
   · exact h.pos i (by omega)
   · split
     · exact hp
     · exact h.pos (i - 1) (by omega)
theorem SpEq.perm {n a : Nat} {E F : Nat -> Nat -> Int} (ha : a <= n) (hF : ∀ i b, i <= n -> F i b = if i < a then E i b else if i = a then E n b else E (i - 1) b) : SpEq (n + 1) E (n + 1) F := by
 refine ⟨fun k hk => ?_, fun k hk => ?_⟩
 · by_cases h1 : k < a
   · exact (Sp.row F hk).congr (fun b => by rw [hF k b (by omega), if_pos h1])
   · by_cases h2 : k = n
     · subst h2;exact (Sp.row F (show a < k + 1 by omega)).congr (fun b => by rw [hF a b (by omega), if_neg (by omega), if_pos rfl])
     · exact (Sp.row F (show k + 1 < n + 1 by omega)).congr (fun b => by rw [hF (k + 1) b (by omega), if_neg (by omega), if_neg (by omega)]; rfl)
 · by_cases h1 : k < a
   · exact (Sp.row E hk).congr (fun b => by rw [hF k b (by omega), if_pos h1])
   · by_cases h2 : k = a
     · exact (Sp.row E (show n < n + 1 by omega)).congr (fun b => by rw [hF k b (by omega), if_neg h1, if_pos h2])
     · exact (Sp.row E (show k - 1 < n + 1 by omega)).congr (fun b => by rw [hF k b (by omega), if_neg h1, if_neg h2])
theorem SpEq.neg {N n : Nat} {E F : Nat -> Nat -> Int} (hn : n < N) (hs : ∀ a, a ≠ n -> ∀ b, F a b = E a b) (h : ∀ b, F n b = - E n b) : SpEq N E N F := by
 refine ⟨fun k hk => ?_, fun k hk => ?_⟩
 · by_cases e : k = n
   · subst e; exact ((Sp.row F hk).smul (-1)).congr (fun b => by rw [h]; omega)
   · exact (Sp.row F hk).congr (fun b => (hs k e b).symm)
 · by_cases e : k = n
   · subst e; exact ((Sp.row E hk).smul (-1)).congr (fun b => by rw [h]; omega)
   · exact (Sp.row E hk).congr (fun b => hs k e b)
theorem putLoop_end {c n δ B U : Nat} {l : Nat -> Nat} {E0 : Nat -> Nat -> Int} {v0 : Nat -> Int} {Ro : List Hd} (hn : n < Ro.length) (hH0 : Ech n c E0 l) (hδ : ∀ a, a < n -> ∀ b, (E0 a b).natAbs < W ^ δ) (hUB : U + (n + 1) * δ <= B)
 (hZ : ∀ E' l', Herm n c E' l' -> SpEq (n + 1) (ent Ro) n E' -> ∀ i, i < n -> ∀ j, (E' i j).natAbs < W ^ δ)
 (hS : (∀ s : Int, Sp n E0 (fun j => s * v0 j) -> s = 0) -> ∀ E' l', Herm (n + 1) c E' l' -> SpEq (n + 1) (ent Ro) (n + 1) E' -> ∀ i, i < n + 1 -> ∀ j, (E' i j).natAbs < W ^ δ)
 (s u at_ : Nat) (last : Int) (R : List Hd) (hI : PI c n δ u s l last E0 v0 Ro R) (hat : at_ <= s) (hu : u + (n - s) * (2 * δ + 1) <= U)
 (hnext : ∀ a, s <= a -> a < n -> ∀ R1 u1, PI c n δ u1 (a + 1) l (l a) E0 v0 Ro R1 -> u1 + (n - (a + 1)) * (2 * δ + 1) <= U -> ∃ b R', PutT B c n a (l a) R1 b R' /\ PutOk c n E0 v0 Ro b R') :
 ∃ b R', PutT B c n at_ last R b R' /\ PutOk c n E0 v0 Ro b R' := by
 have hnR : n < R.length := by rw [hI.len]; exact hn
 have hle := lead_ent hnR hI.sh;have huB : u <= B := by have := Nat.zero_le ((n - s) * (2 * δ + 1)); have := Nat.zero_le ((n + 1) * δ); omega
 have hFit : Fit B c R := Fit.of hI.sh (fun a b => pw_lt (hI.bd a b) huB);have hnδ : n * δ <= (n + 1) * δ := Nat.mul_le_mul_right _ (by omega);have huU : u <= U := by have := Nat.zero_le ((n - s) * (2 * δ + 1)); omega
 by_cases hc : leadOf R n = c
 · -- nothing is left
   have hz : ∀ b, ent R n b = 0 := fun b => by
    by_cases h : b < c
    · exact hle.2.1 b (by omega)
    · exact hI.sh.wide n (by omega)
   have hspz : SpEq (n + 1) (ent R) n (ent R) := by
    refine ⟨fun k hk => ?_, fun k hk => Sp.row _ (by omega)⟩;by_cases e : k = n
    · subst e; exact (Sp.zero _ _).congr hz
    · exact Sp.row _ (by omega)
   obtain ⟨R', h1, h2⟩ := settle_ok (B := B) (δ := δ) hI.sh (by omega : n <= R.length) hI.ech hI.bd (by omega) (fun E' hE' hsp => hZ E' l hE' (hI.sp.trans (hspz.trans hsp)));exact ⟨false, R', .zero hFit (.inl hc) h1, h2.sh, h2.len.trans hI.len, fun a ha b => (h2.same a (by omega) b).trans (hI.oth a ha b), fun _ => ⟨⟨l, h2.herm⟩, fun b => (h2.same n (Nat.le_refl _) b).trans (hz b), hI.sp.trans (hspz.trans h2.sp)⟩, fun h => by cases h⟩
 · have hjc : leadOf R n < c := by have := hle.1; omega
   obtain ⟨j, hj⟩ : ∃ j, leadOf R n = j := ⟨_, rfl⟩;rw [hj] at hjc hc hle;have hvj := hle.2.2 hjc;have hlast : last < (j : Int) := by
    by_cases h : last < (j : Int)
    · exact h
    · exact absurd (hI.z j (by omega)) hvj
   obtain ⟨a, hsa, han, hlt, hend⟩ := first_at (l := l) (j := j) hI.sn;have hlead : ∀ i, i < n -> leadOf R i = l i := fun i hi => leadOf_at (by omega) hI.sh (hI.ech.zero i hi) (by have := hI.ech.pos i hi; omega);have hlo : ∀ i, i < a -> l i < j := fun i hi => by
    by_cases h : s <= i
    · exact hlt i h hi
    · have := hI.lo i (by omega); omega
   by_cases hm : a < n /\ l a = j
   · obtain ⟨ha, hla⟩ := hm;have hrow : ∀ b, (ent R a b).natAbs < W ^ δ := fun b => by rw [hI.un a hsa ha]; exact hδ a ha b
     have hp : 0 < ent R a j := by rw [<- hla]; exact hI.ech.pos a ha
     have h0a : ∀ b, b < j -> ent R a b = 0 := fun b hb => hI.ech.zero a ha b (by omega);have hok := meet_ok (j := j) hI.sh (by omega : a < R.length) hnR (by omega) hp h0a hle.2.1 hrow (hI.bd n);have hA := meetA_ent hI.sh (by omega : a < R.length) hnR j;have hbA := meetA_bound (j := j) hI.sh (by omega : a < R.length) hnR hp hrow (hI.bd n);have h2n : (n - s) * (2 * δ + 1) = (n - (a + 1)) * (2 * δ + 1) + (a + 1 - s) * (2 * δ + 1) := by rw [<- Nat.add_mul]; congr 1; omega
     have h2a : 2 * δ + 1 <= (a + 1 - s) * (2 * δ + 1) := by have := Nat.mul_le_mul_right (2 * δ + 1) (show 1 <= a + 1 - s by omega); omega
     have hbud : u + 2 * δ + 1 + (n - (a + 1)) * (2 * δ + 1) <= U := by omega
     have hudB : u + 2 * δ + 1 <= B := by
      have := Nat.zero_le ((n - (a + 1)) * (2 * δ + 1)); have := Nat.zero_le ((n + 1) * δ); omega
     have hFitA : Fit B c (meetA R a n j) := Fit.of (hI.sh.addT_ n a _) (fun x b => by
      by_cases e : x = n
      · subst e; exact pw_lt (hbA b) (by omega)
      · rw [hA, if_neg e]; exact pw_lt (hI.bd x b) huB)
     have hpA : ent (meetA R a n j) a j ≠ 0 := by rw [hA, if_neg (by omega)]; omega
     have hPI : PI c n δ (u + 2 * δ + 1) (a + 1) l (l a) E0 v0 Ro (meetT R a n j) := by
      refine ⟨hok.sh, hok.len.trans hI.len, ?_, by omega, ?_, ?_, ?_, ?_, ?_, ?_, hI.sp.trans (hok.sp (n + 1) (by omega) (by omega)), ?_⟩
      · refine ⟨hI.ech.inc, hI.ech.lt, fun i hi b hb => ?_, fun i hi => ?_⟩
        · by_cases e : i = a
          · subst e; exact hok.low b (by omega)
          · rw [hok.same i e (by omega)]; exact hI.ech.zero i hi b hb
        · by_cases e : i = a
          · subst e; rw [hla]; exact hok.piv
          · rw [hok.same i e (by omega)]; exact hI.ech.pos i hi
      · intro i hi;by_cases e : i = a
        · subst e; exact Int.le_refl _
        · have := hI.ech.inc i a (by omega) ha; omega
      · intro i hi hin;have := hI.ech.inc a i (by omega) hin; omega
      · intro i hi hin b;rw [hok.same i (by omega) (by omega)]; exact hI.un i (by omega) hin b
      · intro b hb;exact hok.gone b (by omega)
      · intro x b;by_cases e : x = a
        · subst e; exact hok.bk b
        · by_cases e' : x = n
          · subst e'; exact hok.bn b
          · rw [hok.same x e e']; exact pw_lt (hI.bd x b) (by omega)
      · obtain ⟨t, w, ht, hw, hv⟩ := hI.cb;obtain ⟨t', s', ht', hv'⟩ := hok.comb;refine ⟨t' * t, fun b => t' * w b + s' * E0 a b, fun e => ?_, (hw.smul t').add ((Sp.row E0 ha).smul s'), fun b => ?_⟩
        · rcases Int.mul_eq_zero.1 e with e | e
          · exact ht' e
          · exact ht e
        · show ent (meetT R a n j) n b = t' * t * v0 b + (t' * w b + s' * E0 a b);rw [hv', hv, hI.un a hsa ha, Int.mul_add, Int.mul_assoc]; omega
      · intro x hx b;rw [hok.same x (by omega) (by omega)]; exact hI.oth x hx b
     obtain ⟨b, R', h1, h2⟩ := hnext a hsa ha (meetT R a n j) (u + 2 * δ + 1) hPI hbud;refine ⟨b, R', .meet hFit (by rw [hj]; exact hjc) (by rw [hj]; exact hlast) a (by omega) ha (fun i h3 h4 => ?_) ?_ ?_ ?_ ?_ ?_, h2⟩
     · rw [hj, hlead i (by omega)]; exact hlo i h4
     · rw [hj, hlead a ha, hla]
     · rw [hj]; omega
     · rw [hj]; exact hFitA
     · rw [hj]; exact hpA
     · rw [hj]; rw [hla] at h1; exact h1
   · have hhi : ∀ i, a <= i -> i < n -> j < l i := fun i h1 h2 => by
      rcases hend with h3 | ⟨h3, h4⟩
      · omega
      · by_cases e : i = a
        · subst e;have : l i ≠ j := fun h => hm ⟨h3, h⟩;omega
        · have := hI.ech.inc a i (by omega) h2; omega
     obtain ⟨R1, hR1⟩ : ∃ R1, (if ent R n (leadOf R n) < 0 then turnT R n else R) = R1 := ⟨_, rfl⟩;have hR1e : ∀ x, x ≠ n -> ∀ b, ent R1 x b = ent R x b := fun x hx b => by
      rw [<- hR1]; split
      · rw [ent_turnT hnR, if_neg hx]
      · rfl
     have hR1n : (∀ b, (ent R1 n b).natAbs = (ent R n b).natAbs) /\ 0 < ent R1 n j /\ ((∀ b, ent R1 n b = ent R n b) ∨ (∀ b, ent R1 n b = - ent R n b)) := by
      rw [<- hR1]; split
      · rename_i h;rw [hj] at h;have h1 := fun b => (ent_turnT hnR n b).trans (if_pos rfl);exact ⟨fun b => by rw [h1, Int.natAbs_neg], by rw [h1]; omega, .inr h1⟩
      · rename_i h;rw [hj] at h;exact ⟨fun b => rfl, by omega, .inl (fun b => rfl)⟩
     have hR1s : Sh c R1 := by
      rw [<- hR1]; split
      · exact hI.sh.turnT_ n
      · exact hI.sh
     have hR1l : R1.length = R.length := by
      rw [<- hR1]; split
      · exact turnT_length ..
      · rfl
     have hR1b : ∀ x b, (ent R1 x b).natAbs < W ^ u := fun x b => by
      by_cases e : x = n
      · subst e; rw [hR1n.1]; exact hI.bd x b
      · rw [hR1e x e]; exact hI.bd x b
     have hsp1 : SpEq (n + 1) (ent R) (n + 1) (ent R1) := by
      rcases hR1n.2.2 with h | h
      · exact SpEq.of_eq (fun k hk b => by
         by_cases e : k = n
         · subst e; exact (h b).symm
         · exact (hR1e k e b).symm)
      · exact SpEq.neg (by omega) hR1e h
     have hsw := ent_swapsT (a := a) n R1 han (by omega);obtain ⟨R2, hR2⟩ : ∃ R2, swapsT a n R1 = R2 := ⟨_, rfl⟩;have hs2 : Sh c R2 := hR2 ▸ shSwapsT n R1 hR1s;have hl2 : R2.length = R.length := by rw [<- hR2, swapsT_length, hR1l]
     rw [hR2] at hsw;have hsw2 : ∀ i b, i <= n -> ent R2 i b = if i < a then ent R1 i b else if i = a then ent R1 n b else ent R1 (i - 1) b := fun i b hi => by
      rw [hsw];by_cases h1 : i < a
      · rw [if_pos h1, if_pos h1]
      · rw [if_neg h1, if_neg h1];by_cases h2 : i = a
        · rw [if_pos h2, if_pos h2]
        · rw [if_neg h2, if_neg h2, if_pos hi]
     have hb2 : ∀ x b, (ent R2 x b).natAbs < W ^ u := fun x b => by
      rw [hsw]; split
      · exact hR1b ..
      · split
        · exact hR1b ..
        · split <;> exact hR1b ..
     have hE1 : Ech n c (ent R1) l := hI.ech.congr (fun x hx b => hR1e x (by omega) b);have h10 : ∀ b, b < j -> ent R1 n b = 0 := fun b hb => by
      have h1 := hR1n.1 b;rw [hle.2.1 b hb] at h1; omega
     have hE2 := ech_insert hE1 han hlo hhi hjc h10 hR1n.2.1 hsw2;have hsp2 := SpEq.perm han hsw2;have hind : ∀ t : Int, Sp n E0 (fun b => t * v0 b) -> t = 0 := by
      intro t ht;obtain ⟨t', w, ht', hw, hv⟩ := hI.cb;by_cases h0 : t = 0
      · exact h0
      · exfalso;have hin : Sp n E0 (fun b => t * ent R n b) := ((ht.smul t').add (hw.smul t)).congr (fun b => by
         rw [hv, Int.mul_add, <- Int.mul_assoc, <- Int.mul_assoc, Int.mul_comm t' t])
        obtain ⟨k, hk, hlk, _⟩ := hH0.lead hin (q := j) (fun e => by
         rcases Int.mul_eq_zero.1 e with e | e
         · exact h0 e
         · exact hvj e) (fun b hb => by
           show t * ent R n b = 0;rw [hle.2.1 b hb, Int.mul_zero])
        by_cases hka : k < a
        · have := hlo k hka; omega
        · have := hhi k (by omega) hk; omega
     obtain ⟨R', h1, h2⟩ := settle_ok (B := B) (δ := δ) (n := n + 1) hs2 (by omega) hE2 hb2 (by omega) (fun E' hE' hsp => hS hind E' _ hE' (hI.sp.trans (hsp1.trans (hsp2.trans hsp))));refine ⟨true, R', .stop hFit (by rw [hj]; exact hjc) (by rw [hj]; exact hlast) a (by omega) han (fun i h3 h4 => ?_) ?_ ?_ ?_, h2.sh, h2.len.trans (hl2.trans hI.len), fun x hx b => ?_, fun h => (by cases h), fun _ => ⟨⟨_, h2.herm⟩, hI.sp.trans (hsp1.trans (hsp2.trans h2.sp)), hind⟩⟩
     · rw [hj, hlead i (by omega)]; exact hlo i h4
     · rcases Nat.lt_or_eq_of_le han with h | h
       · refine .inr ?_;rw [hj, hlead a h]; exact hhi a (Nat.le_refl _) h
       · exact .inl h
     · rw [hR1, hR2]; exact Fit.of hs2 (fun a b => pw_lt (hb2 a b) huB)
     · rw [hR1, hR2]; exact h1
     · rw [h2.same x (by omega), hsw, if_neg (by omega), if_neg (by omega), if_neg (by omega), hR1e x (by omega)];exact hI.oth x hx b
theorem putLoop {c n δ B U : Nat} {l : Nat -> Nat} {E0 : Nat -> Nat -> Int} {v0 : Nat -> Int} {Ro : List Hd} (hn : n < Ro.length) (hH0 : Ech n c E0 l) (hδ : ∀ a, a < n -> ∀ b, (E0 a b).natAbs < W ^ δ) (hUB : U + (n + 1) * δ <= B)
 (hZ : ∀ E' l', Herm n c E' l' -> SpEq (n + 1) (ent Ro) n E' -> ∀ i, i < n -> ∀ j, (E' i j).natAbs < W ^ δ)
 (hS : (∀ s : Int, Sp n E0 (fun j => s * v0 j) -> s = 0) -> ∀ E' l', Herm (n + 1) c E' l' -> SpEq (n + 1) (ent Ro) (n + 1) E' -> ∀ i, i < n + 1 -> ∀ j, (E' i j).natAbs < W ^ δ) :
 ∀ (f s u at_ : Nat) (last : Int) (R : List Hd), n - s <= f -> PI c n δ u s l last E0 v0 Ro R -> at_ <= s -> u + (n - s) * (2 * δ + 1) <= U -> ∃ b R', PutT B c n at_ last R b R' /\ PutOk c n E0 v0 Ro b R' := by
 intro f;induction f with
 | zero =>
  intro s u at_ last R hf hI hat hu;exact putLoop_end hn hH0 hδ hUB hZ hS s u at_ last R hI hat hu (fun a ha1 ha2 => by omega)
 | succ f ih =>
  intro s u at_ last R hf hI hat hu;refine putLoop_end hn hH0 hδ hUB hZ hS s u at_ last R hI hat hu (fun a ha1 ha2 R1 u1 hI1 hu1 => ?_);exact ih (a + 1) u1 a (l a) R1 (by omega) hI1 (by omega) hu1
/-! Reduce. -/
def hermW (N m : Nat) : Nat := 2 * (m + 1) * N + 1
theorem hermD_lt {n N m : Nat} (hn : n <= N) (hN : N <= 1048576) : hermD n (W ^ m) < W ^ hermW N m := by
 unfold hermD hermW;rcases Nat.eq_zero_or_pos n with h | h
 · subst h; simp; exact pw_pos _
 · have h1 : 2 * n * W ^ m + 1 <= W ^ (m + 1) := by
    rw [Nat.pow_succ, Nat.mul_comm (W ^ m)];have h2 : (2 * n + 1) * W ^ m <= W * W ^ m := Nat.mul_le_mul_right _ (by unfold W; omega);have h3 : (2 * n + 1) * W ^ m = 2 * n * W ^ m + W ^ m := by rw [Nat.add_mul, Nat.one_mul]
    have := pw_pos m;omega
   have h2 : (2 * n * W ^ m + 1) ^ (n - 1) <= W ^ ((m + 1) * (n - 1)) := by
    rw [Nat.pow_mul]; exact Nat.pow_le_pow_left h1 _
   have h3 : n * ((2 * n * W ^ m + 1) ^ (n - 1) * W ^ m) <= W ^ ((m + 1) * n) := by
    have h4 : (2 * n * W ^ m + 1) ^ (n - 1) * W ^ m <= W ^ ((m + 1) * (n - 1)) * W ^ m := Nat.mul_le_mul_right _ h2;have h5 : n * ((2 * n * W ^ m + 1) ^ (n - 1) * W ^ m) <= W * (W ^ ((m + 1) * (n - 1)) * W ^ m) := Nat.mul_le_mul (by unfold W; omega) h4;refine Nat.le_trans h5 ?_;have e : W * (W ^ ((m + 1) * (n - 1)) * W ^ m) = W ^ ((m + 1) * (n - 1) + m + 1) := by
     rw [<- Nat.pow_add, Nat.mul_comm W, <- Nat.pow_succ]
    rw [e];have e2 : (m + 1) * (n - 1) + m + 1 = (m + 1) * n := by
     have : n = n - 1 + 1 := by omega
     rw [Nat.add_assoc]
     conv => rhs; rw [this, Nat.mul_add, Nat.mul_one]
    rw [e2]; exact Nat.le_refl _
   obtain ⟨D, hD⟩ : ∃ D, n * ((2 * n * W ^ m + 1) ^ (n - 1) * W ^ m) = D := ⟨_, rfl⟩;rw [hD] at h3 ⊢;have h6 : D * D <= W ^ (2 * (m + 1) * n) := by
    have := Nat.mul_le_mul h3 h3;rw [<- Nat.pow_add] at this;have e : (m + 1) * n + (m + 1) * n = 2 * (m + 1) * n := by rw [Nat.mul_assoc]; omega
    rwa [e] at this
   have h7 : n * D * D < W * W ^ (2 * (m + 1) * n) := by
    rw [Nat.mul_assoc];refine Nat.lt_of_le_of_lt (Nat.mul_le_mul_left n h6) ?_;exact Nat.mul_lt_mul_of_pos_right (by unfold W; omega) (pw_pos _)
   refine Nat.lt_of_lt_of_le h7 ?_;rw [Nat.mul_comm W, <- Nat.pow_succ];refine pw_le ?_;have : 2 * (m + 1) * n <= 2 * (m + 1) * N := Nat.mul_le_mul_left _ hn;omega
def ladW (N m : Nat) : Nat := hermW N m + N * (2 * hermW N m + 1) + (N + 1) * hermW N m
theorem Indep.snoc {n : Nat} {a E0 : Nat -> Nat -> Int} {v : Nat -> Int} (h : Indep n a) (ha : ∀ k, k < n -> Sp n E0 (a k)) (hv : ∀ s : Int, Sp n E0 (fun j => s * v j) -> s = 0) : Indep (n + 1) (fun k => if k < n then a k else v) := by
 intro x hx k hk;have e : ∀ j, sm n (fun k => x k * a k j) + x n * v j = 0 := fun j => by
  have := hx j;unfold sm at this;rw [sm_congr (g := fun k => x k * a k j) (fun k hk => by simp [hk])] at this;simpa using this
 have h0 : x n = 0 := by
  refine hv _ (((Sp.sm (x := fun k => - x k) ha)).congr (fun j => ?_));have h1 := e j;have h2 : sm n (fun k => - x k * a k j) = - sm n (fun k => x k * a k j) := by
   have := sm_mul n (-1) (fun k => x k * a k j);rw [Int.neg_one_mul] at this;rw [<- this]; exact sm_congr (fun k _ => by rw [Int.neg_mul, Int.neg_one_mul])
  rw [h2]; omega
 by_cases hkn : k = n
 · subst hkn; exact h0
 · refine h x (fun j => ?_) k (by omega);have := e j;rw [h0] at this; simpa using this
theorem ent_rotT : ∀ (k i : Nat) (R : List Hd), i + k < R.length -> ∀ a b, ent (rotT k i R) a b = if a < i then ent R a b else if a < i + k then ent R (a + 1) b else if a = i + k then ent R i b else ent R a b
 | 0, i, R, h, a, b => by
  unfold rotT;by_cases h1 : a < i
  · rw [if_pos h1]
  · rw [if_neg h1, if_neg (by omega)];by_cases h2 : a = i + 0
    · rw [if_pos h2]; subst h2; rfl
    · rw [if_neg h2]
 | k + 1, i, R, h, a, b => by
  unfold rotT;rw [ent_rotT k (i + 1) _ (by rw [swapT_length]; omega)];have hsw := fun x => ent_swapT (R := R) (i := i) (j := i + 1) (by omega) (by omega) x b;rw [hsw, hsw, hsw];by_cases h1 : a < i
  · rw [if_pos (by omega), if_pos h1];unfold swp; rw [if_neg (by omega), if_neg (by omega)]
  · rw [if_neg h1];by_cases h2 : a = i
    · rw [if_pos (by omega), if_pos (by omega)];unfold swp; rw [if_neg (by omega), if_pos h2, h2]
    · rw [if_neg (by omega)];by_cases h3 : a < i + (k + 1)
      · rw [if_pos (by omega), if_pos h3];unfold swp; rw [if_neg (by omega), if_neg (by omega)]
      · rw [if_neg (by omega), if_neg h3];by_cases h4 : a = i + (k + 1)
        · rw [if_pos (by omega), if_pos h4];unfold swp; rw [if_pos rfl]
        · rw [if_neg (by omega), if_neg h4];unfold swp; rw [if_neg (by omega), if_neg (by omega)]
theorem shRotT {c : Nat} : ∀ (k i : Nat) (R : List Hd), Sh c R -> Sh c (rotT k i R)
 | 0, i, R, h => h
 | k + 1, i, R, h => shRotT k (i + 1) _ (h.swapT_ _ _)
theorem rotT_length : ∀ (k i : Nat) (R : List Hd), (rotT k i R).length = R.length
 | 0, i, R => rfl
 | k + 1, i, R => (rotT_length k (i + 1) _).trans (swapT_length ..)
theorem Herm.congr {n c : Nat} {E F : Nat -> Nat -> Int} {l : Nat -> Nat} (h : Herm n c E l) (e : ∀ a, a < n -> ∀ b, F a b = E a b) : Herm n c F l :=
 ⟨h.toEch.congr e, fun i k hik hk => by rw [e i (by omega), e k hk]; exact h.red i k hik hk⟩
structure RI (c m : Nat) (Ro : List Hd) (d e : Nat) (R : List Hd) : Prop where
 sh : Sh c R
 len : R.length = Ro.length
 de : d <= e
 el : e <= Ro.length
 herm : ∃ l, Herm d c (ent R) l
 raw : ∀ i, d <= i -> i < e -> ∀ b, (ent R i b).natAbs < W ^ m
 zero : ∀ i, e <= i -> ∀ b, ent R i b = 0
 sp : SpEq Ro.length (ent Ro) e (ent R)
 ind : ∃ a : Nat -> Nat -> Int, (∀ k, k < d -> Sp d (ent R) (a k)) /\ Indep d a /\ ∀ k b, k < d -> (a k b).natAbs <= W ^ m
structure RedOk (c D : Nat) (Ro : List Hd) (k : Nat) (R' : List Hd) : Prop where
 sh : Sh c R'
 len : R'.length = Ro.length
 kl : k <= Ro.length
 herm : ∃ l, Herm k c (ent R') l
 zero : ∀ i, k <= i -> ∀ b, ent R' i b = 0
 sp : SpEq Ro.length (ent Ro) k (ent R')
 bd : ∀ i b, (ent R' i b).natAbs < W ^ D
theorem RI.done {c m N d : Nat} {Ro R : List Hd} (hI : RI c m Ro d d R) (hN : Ro.length <= N) (hN1 : N <= 1048576) : RedOk c (hermW N m) Ro d R := by
 refine ⟨hI.sh, hI.len, hI.el, hI.herm, hI.zero, hI.sp, fun i b => ?_⟩;obtain ⟨l, hH⟩ := hI.herm;obtain ⟨a, ha1, ha2, ha3⟩ := hI.ind;by_cases h : i < d
 · exact Nat.lt_of_le_of_lt (hH.bound ha1 ha2 (fun k j hk => ha3 k j hk) i b h) (hermD_lt (by have := hI.el; omega) hN1)
 · rw [hI.zero i (by omega)]; simpa using pw_pos _
theorem red_ok {c m N B : Nat} {Ro : List Hd} (hN : Ro.length <= N) (hN1 : N <= 1048576) (hB : ladW N m <= B) : ∀ (f d e : Nat) (R : List Hd), e - d <= f -> RI c m Ro d e R -> ∃ k R', RedT B c d e R k R' /\ RedOk c (hermW N m) Ro k R'
 | 0, d, e, R, hf, hI => by
  have : d = e := by have := hI.de; omega
  subst this;exact ⟨d, R, .fin (Nat.le_refl _), hI.done hN hN1⟩
 | f + 1, d, e, R, hf, hI => by
  by_cases hde : d < e
  · obtain ⟨δ, hδ⟩ : ∃ δ, hermW N m = δ := ⟨_, rfl⟩;unfold ladW at hB;rw [hδ] at hB;obtain ⟨l, hH⟩ := hI.herm;obtain ⟨a, ha1, ha2, ha3⟩ := hI.ind;have hdl : d < Ro.length := by have := hI.el; omega
    have hmδ : m <= δ := by
     have h1 : (m + 1) * 1 <= (m + 1) * (2 * N) := Nat.mul_le_mul_left _ (by omega);rw [<- hδ]; unfold hermW;have h2 : 2 * (m + 1) * N = (m + 1) * (2 * N) := by rw [Nat.mul_comm 2, Nat.mul_assoc]
     omega
    have hbnd : ∀ i, i < d -> ∀ b, (ent R i b).natAbs < W ^ δ := fun i hi b => by
     have := hH.bound ha1 ha2 (fun k j hk => ha3 k j hk) i b hi;exact Nat.lt_of_le_of_lt this (hδ ▸ hermD_lt (by omega) hN1)
    have hall : ∀ x b, (ent R x b).natAbs < W ^ δ := fun x b => by
     by_cases h1 : x < d
     · exact hbnd x h1 b
     · by_cases h2 : x < e
       · exact pw_lt (hI.raw x (by omega) h2 b) hmδ
       · rw [hI.zero x (by omega)]; simpa using pw_pos δ
    have hsub : ∀ {M : Nat} {E' : Nat -> Nat -> Int}, SpEq (d + 1) (ent R) M E' -> ∀ k, k < d -> Sp M E' (a k) := fun hsp k hk =>
     (ha1 k hk).trans (fun i hi => hsp.1 i (by omega))
    have hZ : ∀ E' l', Herm d c E' l' -> SpEq (d + 1) (ent R) d E' -> ∀ i, i < d -> ∀ j, (E' i j).natAbs < W ^ δ := fun E' l' hE' hsp i hi j =>
     Nat.lt_of_le_of_lt (hE'.bound (hsub hsp) ha2 (fun k j hk => ha3 k j hk) i j hi) (hδ ▸ hermD_lt (by omega) hN1)
    have hS : (∀ s : Int, Sp d (ent R) (fun j => s * ent R d j) -> s = 0) -> ∀ E' l', Herm (d + 1) c E' l' -> SpEq (d + 1) (ent R) (d + 1) E' -> ∀ i, i < d + 1 -> ∀ j, (E' i j).natAbs < W ^ δ := fun hv E' l' hE' hsp i hi j => by
     have hb := hE'.bound (a := fun k => if k < d then a k else ent R d) (M := W ^ m) (fun k hk => by
      by_cases h : k < d
      · simp only [if_pos h]; exact hsub hsp k h
      · simp only [if_neg h]; exact hsp.1 d (by omega)) (ha2.snoc ha1 hv) (fun k j hk => by
      by_cases h : k < d
      · simp only [if_pos h]; exact ha3 k j h
      · simp only [if_neg h]; exact Nat.le_of_lt (hI.raw d (Nat.le_refl _) hde j)) i j hi
     exact Nat.lt_of_le_of_lt hb (hδ ▸ hermD_lt (by omega) hN1)
    have hmulN : (d - 0) * (2 * δ + 1) <= N * (2 * δ + 1) := Nat.mul_le_mul_right _ (by omega);have hmulN2 : (d + 1) * δ <= (N + 1) * δ := Nat.mul_le_mul_right _ (by omega);obtain ⟨b, R1, hput, hok⟩ := putLoop (δ := δ) (B := B) (U := δ + N * (2 * δ + 1)) (v0 := ent R d) (by rw [hI.len]; exact hdl : d < R.length) hH.toEch hbnd (by omega) hZ hS d 0 δ 0 (-1) R (by omega)
     ⟨hI.sh, rfl, hH.toEch, Nat.zero_le _, fun i hi => by omega, fun i _ _ => by omega, fun i _ _ _ => rfl, fun b hb => by omega, hall, ⟨1, fun _ => 0, by omega, Sp.zero _ _, fun b => by simp⟩, SpEq.refl _ _, fun _ _ _ => rfl⟩ (Nat.le_refl _) (by omega)
    cases b
    · obtain ⟨⟨l', hH'⟩, hz, hsp⟩ := hok.no rfl;have hl1 : R1.length = R.length := hok.len;have hrot := ent_rotT (e - 1 - d) d R1 (by rw [hl1, hI.len]; have := hI.el; omega);have e1 : d + (e - 1 - d) = e - 1 := by omega
      rw [e1] at hrot;obtain ⟨R2, hR2⟩ : ∃ R2, rotT (e - 1 - d) d R1 = R2 := ⟨_, rfl⟩;have hlo : ∀ i, i < d -> ∀ b, ent R2 i b = ent R1 i b := fun i hi b => by rw [<- hR2, hrot, if_pos hi]
      have hmid : ∀ i, d <= i -> i < e - 1 -> ∀ b, ent R2 i b = ent R (i + 1) b := fun i h1 h2 b => by
       rw [<- hR2, hrot, if_neg (by omega), if_pos h2, hok.oth (i + 1) (by omega)]
      have hsp2 : SpEq Ro.length (ent Ro) (e - 1) (ent R2) := by
       refine hI.sp.trans ⟨fun k hk => ?_, fun k hk => ?_⟩
       · by_cases h1 : k <= d
         · refine (hsp.1 k (by omega)).trans (fun i hi => ?_);exact (Sp.row (ent R2) (by omega : i < e - 1)).congr (fun b => (hlo i hi b).symm)
         · refine (Sp.row (ent R2) (by omega : k - 1 < e - 1)).congr (fun b => ?_);rw [hmid (k - 1) (by omega) (by omega)]; congr 1; omega
       · by_cases h1 : k < d
         · refine ((hsp.2 k h1).congr (hlo k h1)).trans (fun i hi => Sp.row _ (by omega))
         · exact (Sp.row (ent R) (by omega : k + 1 < e)).congr (hmid k (by omega) hk)
      have hRI : RI c m Ro d (e - 1) R2 := by
       refine ⟨hR2 ▸ shRotT _ _ _ hok.sh, by rw [<- hR2, rotT_length, hl1, hI.len], by omega, by have := hI.el; omega, ⟨l', hH'.congr hlo⟩, fun i h3 h4 b => ?_, fun i h3 b => ?_, hsp2, ⟨a, fun k hk => ?_, ha2, ha3⟩⟩
       · rw [hmid i h3 h4]; exact hI.raw (i + 1) (by omega) (by omega) b
       · rw [<- hR2, hrot, if_neg (by omega), if_neg (by omega)];by_cases h4 : i = e - 1
         · rw [if_pos h4]; exact hz b
         · rw [if_neg h4, hok.oth i (by omega)]; exact hI.zero i (by omega) b
       · refine (hsub hsp k hk).trans (fun i hi => ?_);exact (Sp.row (ent R2) hi).congr (fun b => (hlo i hi b).symm)
      obtain ⟨k, R', h1, h2⟩ := red_ok hN hN1 (by unfold ladW; rw [hδ]; exact hB) f d (e - 1) R2 (by omega) hRI;exact ⟨k, R', .zero hde hput (by rw [hR2]; exact h1), h2⟩
    · obtain ⟨⟨l', hH'⟩, hsp, hv⟩ := hok.yes rfl;have hl1 : R1.length = R.length := hok.len;have hsp2 : SpEq Ro.length (ent Ro) e (ent R1) := by
       refine hI.sp.trans ⟨fun k hk => ?_, fun k hk => ?_⟩
       · by_cases h1 : k < d + 1
         · exact (hsp.1 k h1).trans (fun i hi => Sp.row _ (by omega))
         · exact (Sp.row (ent R1) hk).congr (fun b => (hok.oth k (by omega) b).symm)
       · by_cases h1 : k < d + 1
         · exact (hsp.2 k h1).trans (fun i hi => Sp.row _ (by omega))
         · exact (Sp.row (ent R) hk).congr (fun b => hok.oth k (by omega) b)
      have hRI : RI c m Ro (d + 1) e R1 := by
       refine ⟨hok.sh, hl1.trans hI.len, by omega, hI.el, ⟨l', hH'⟩, fun i h3 h4 b => ?_, fun i h3 b => ?_, hsp2, ⟨fun k => if k < d then a k else ent R d, fun k hk => ?_, ha2.snoc ha1 hv, fun k b hk => ?_⟩⟩
       · rw [hok.oth i (by omega)]; exact hI.raw i (by omega) h4 b
       · rw [hok.oth i (by omega)]; exact hI.zero i h3 b
       · by_cases h : k < d
         · simp only [if_pos h]; exact hsub hsp k h
         · simp only [if_neg h]; exact hsp.1 d (by omega)
       · by_cases h : k < d
         · simp only [if_pos h]; exact ha3 k b h
         · simp only [if_neg h]; exact Nat.le_of_lt (hI.raw d (Nat.le_refl _) hde b)
      obtain ⟨k, R', h1, h2⟩ := red_ok hN hN1 (by unfold ladW; rw [hδ]; exact hB) f (d + 1) e R1 (by omega) hRI;exact ⟨k, R', .ok hde hput h1, h2⟩
  · have : d = e := by have := hI.de; omega
    subst this;exact ⟨d, R, .fin (Nat.le_refl _), hI.done hN hN1⟩
theorem reduce_ok {c m N B : Nat} {Ro : List Hd} (hs : Sh c Ro) (hm : ∀ i b, (ent Ro i b).natAbs < W ^ m) (hN : Ro.length <= N) (hN1 : N <= 1048576) (hB : ladW N m <= B) : ∃ k R', RedT B c 0 Ro.length Ro k R' /\ RedOk c (hermW N m) Ro k R' :=
 red_ok hN hN1 hB Ro.length 0 Ro.length Ro (by omega)
  ⟨hs, rfl, Nat.zero_le _, Nat.le_refl _, ⟨fun _ => 0, ⟨fun i k _ h => by omega, fun i h => by omega, fun i h => by omega, fun i h => by omega⟩, fun i k _ h => by omega⟩, fun i _ _ b => hm i b, fun i hi b => ent_out hi b, SpEq.refl _ _, ⟨fun _ _ => 0, fun k h => by omega, fun x _ k h => by omega, fun k b h => by omega⟩⟩
end Go.Proofs.Ytllkjlcdcbilcaa
namespace Go.Proofs.Ytllkjlcdcbilcaa
open Go.RowKit
structure KeepS (B : Nat) (S : Nat -> Prop) (w w' : World) : Prop where
 os : w'.os = w.os
 tape : w'.tape = w.tape
 output : w'.output = w.output
 size : w.heap.size <= w'.heap.size
 block : ∀ k, k < B -> ¬ S k -> w'.heap[k]? = w.heap[k]?
theorem KeepS.trans {B : Nat} {S : Nat -> Prop} {a b c : World} (h : KeepS B S a b) (k : KeepS B S b c) : KeepS B S a c :=
 ⟨k.os.trans h.os, k.tape.trans h.tape, k.output.trans h.output, Nat.le_trans h.size k.size, fun i hi hs => (k.block i hi hs).trans (h.block i hi hs)⟩
theorem KeepS.putObj {B : Nat} {S : Nat -> Prop} (w : World) {l : Nat} (o : Obj) (hl : B <= l) : KeepS B S w (w.putObj l o) :=
 ⟨rfl, rfl, rfl, by simp, fun k hk _ => World.putObj_heap_other (by omega)⟩
theorem KeepS.of_below {B : Nat} {S : Nat -> Prop} {w w' : World} (h : Below B w w') : KeepS B S w w' := ⟨h.os, h.tape, h.output, h.size, fun k hk _ => h.block k hk⟩
def handPost {α : Type} (B : Nat) (S : Nat -> Prop) (I : List α -> World -> Prop) (xs : List α) (W : World) : Exit -> Act -> World -> Prop
 | .normal, _, W' => KeepsOthers W W' /\ KeepS B S W W' /\ I xs W'
 | _, _, _ => False
theorem range_hand {α : Type} {P : Program} {n : Nat} {g : Operand} {ps : Array Tmp} {assign body : Code} {Q : Exit -> Act -> World -> Prop} {a : Act} {w : World}
 {gf : Nat} {lb : Array Value} (hg : a.eval g = .func (.func gf) #[] lb) (eg : ∀ args w, (callFunc gf args).run P w = .ok (.enter gf args) w)
 {encs : α -> Array Value} (hps : ∀ x, (encs x).size = ps.size) (S : Nat -> Prop) (N : Nat) (Sx : List α -> Prop)
 (E : List α -> α -> World -> Prop) (I : List α -> World -> Prop)
 (hE : ∀ s x W l o o', E s x W -> w.heap.size <= l -> W.heap[l]? = some o -> o.isCells = false -> E s x (W.putObj l o'))
 (hIl : ∀ s W l o o', I s W -> w.heap.size <= l -> W.heap[l]? = some o -> o.isCells = false -> I s (W.putObj l o'))
 (hIb : ∀ s A B, I s A -> Below A.heap.size A B -> I s B) (h0 : I [] w) (a₁ : α -> Act)
 (hseq : ∀ (l : Nat) (J : List α -> World -> Prop) (W : World), Below w.heap.size w W -> (∀ s A B, J s A -> Below A.heap.size A B -> J s B) ->
  (∀ pre x W1, J pre W1 -> E pre x W1 -> pre.length < N -> YieldAt Fence.wide (n - 1 - 1) P l (encs x) W1 fun e W' => e = .returned (.bool true) /\ J (pre ++ [x]) W' /\ KeepS w.heap.size S W1 W') ->
  J [] W -> CallsIn Fence.wide (n - 1) P gf (#[.func (.yield l) #[] #[]] ++ lb) W fun e W' => (∃ v, e = .returned v) /\ ∃ xs, Sx xs /\ J xs W')
 (hassign : ∀ (l : Nat) (x : α) (W : World) (K : Act -> World -> Prop), K (a₁ x) W ->
  assign.wpIn (Fence.wide.inRound l) (n - 1 - 1) P (Exit.then K (fun _ _ _ => False)) { tmps := (ps.zip (encs x)).foldl (fun t (p, v) => t.setIfInBounds p v) a.tmps, defers := [] } W)
 (hbody : ∀ (l : Nat) (pre : List α) (x : α) (W : World), I pre W -> E pre x W -> pre.length < N -> body.wpIn (Fence.wide.inRound l) (n - 1 - 1) P (handPost w.heap.size S I (pre ++ [x]) W) (a₁ x) W)
 (hdone : ∀ (D : Nat) (xs : List α) (W : World), w.heap.size <= D -> Sx xs -> I xs W -> W.heap[D]? = some (.deferred (some [])) -> Q .normal { a with defers := { target := .collected D, args := #[] } :: a.defers } W) :
 (Code.rangeFunc g ps assign body).wpIn Fence.wide n P Q a w := by
 refine wpIn_rangeFunc ?_;intro fn hfn;obtain ⟨R, hR⟩ : ∃ R : LoopState -> Option Code -> Loop, R = fun st pe => { state := st, pending := pe, fn, tmps := a.tmps, params := ps, assign, body, defers := w.heap.size } := ⟨_, rfl⟩;have hz0 : (w.alloc (.deferred (some []))).heap.size = w.heap.size + 1 := by simp
 have hbA : Below w.heap.size w (w.alloc (.deferred (some []))) := (Below.refl _ _).alloc (Nat.le_refl _) _;have hbB : Below (w.heap.size + 1) (w.alloc (.deferred (some []))) ((w.alloc (.deferred (some []))).alloc (.loop (R .ready none))) := (Below.refl _ _).alloc (by simp) _;have hl0 : ((w.alloc (.deferred (some []))).alloc (.loop (R .ready none))).heap[w.heap.size + 1]? = some (.loop (R .ready none)) := by
  have := World.alloc_heap_new (w.alloc (.deferred (some []))) (.loop (R .ready none)); rwa [World.size_alloc] at this
 have hd0 : ((w.alloc (.deferred (some []))).alloc (.loop (R .ready none))).heap[w.heap.size]? = some (.deferred (some [])) :=
  (hbB.block _ (by omega)).trans (World.alloc_heap_new w _)
 have hen := run_enterLoop_outer (P := P) (w := w) fn a.tmps ps assign body;have hI1 : I [] ((w.alloc (.deferred (some []))).alloc (.loop (R .ready none))) := hIb _ _ _ (hIb _ _ _ h0 hbA) (by rw [hz0]; exact hbB);have hbw : Below w.heap.size w ((w.alloc (.deferred (some []))).alloc (.loop (R .ready none))) := hbA.trans (hbB.mono (by omega));rw [show ({ state := .ready, pending := none, fn, tmps := a.tmps, params := ps, assign, body, defers := w.heap.size } : Loop) = R .ready none by rw [hR]] at hen;generalize (w.alloc (.deferred (some []))).alloc (.loop (R .ready none)) = W0 at *;refine ⟨w.heap.size + 1, [{ target := .collected w.heap.size, args := #[] }], W0, { target := .fn (.func gf) lb, args := #[.func (.yield (w.heap.size + 1)) #[] #[]] }, W0, gf,
  #[.func (.yield (w.heap.size + 1)) #[] #[]] ++ lb, W0, hen, ?_, fun _ _ => trivial, by simp [invoke, go_sem, eg], fun h => absurd h (by decide), ?_⟩
 · simp only [resolve, hg];simp [go_sem]
 have hlp : ∀ st pe, (Obj.loop (R st pe)).isCells = false := fun _ _ => rfl;refine (hseq (w.heap.size + 1) (fun pre W => I pre W /\ W.heap[w.heap.size + 1]? = some (.loop (R .ready none)) /\ W.heap[w.heap.size]? = some (.deferred (some []))) W0 hbw ?_ ?_ ⟨hI1, hl0, hd0⟩).mono ?_
 · rintro s A B ⟨h1, h2, h3⟩ hb;exact ⟨hIb _ _ _ h1 hb, (hb.block _ (Array.getElem?_eq_some_iff.1 h2).1).trans h2, (hb.block _ (Array.getElem?_eq_some_iff.1 h3).1).trans h3⟩
 · rintro pre x W ⟨hi, hl, hd⟩ hx hlen;have hlt : w.heap.size + 1 < W.heap.size := (Array.getElem?_eq_some_iff.1 hl).1;have hy := run_yield (P := P) (args := encs x) hl (by rw [hR]; exact hps x);have hbg := run_beginRound (P := P) hl (by rw [hR]);have hle : w.heap.size <= w.heap.size + 1 := by omega
   rw [hR] at hy hbg;refine ⟨fn, _, assign, body, hy, roundIn_of_wpIn hfn (hassign _ x W _ ⟨_, hbg, ?_⟩)⟩;have hl2 : (W.putObj (w.heap.size + 1) (.loop (R .busy none))).heap[w.heap.size + 1]? = some (.loop (R .busy none)) := World.putObj_heap_same hlt;have hd2 : (W.putObj (w.heap.size + 1) (.loop (R .busy none))).heap[w.heap.size]? = some (.deferred (some [])) := (World.putObj_heap_other (by omega)).trans hd;have hk2 : KeepS w.heap.size S W (W.putObj (w.heap.size + 1) (.loop (R .busy none))) := KeepS.putObj W _ hle;have hi2 := hIl pre W (w.heap.size + 1) _ (.loop (R .busy none)) hi hle hl rfl;have hx2 := hE pre x W (w.heap.size + 1) _ (.loop (R .busy none)) hx hle hl rfl;rw [show ({ state := .busy, pending := none, fn, tmps := a.tmps, params := ps, assign, body, defers := w.heap.size } : Loop) = R .busy none by rw [hR]];generalize W.putObj (w.heap.size + 1) (.loop (R .busy none)) = W2 at *;refine wpIn_mono (hbody (w.heap.size + 1) pre x W2 hi2 hx2 hlen) ?_;intro e a3 W3 hp;cases e with
   | normal =>
    obtain ⟨hk3, hkp3, hi3⟩ := hp;have hl3 := hk3.same _ _ hl2 rfl;have hd3 := hk3.same _ _ hd2 rfl;have hend := run_endRound (P := P) none hl3;rw [hR] at hend;refine ⟨_, _, hend, rfl, ⟨hIl _ _ _ _ _ hi3 hle hl3 rfl, ?_, ?_⟩, ?_⟩
    · rw [World.putObj_heap_same (Array.getElem?_eq_some_iff.1 hl3).1, hR]; rfl
    · exact (World.putObj_heap_other (by omega)).trans hd3
    · exact hk2.trans (hkp3.trans (KeepS.putObj _ _ hle))
   | ret => exact hp.elim
   | exit id => exact hp.elim
   | goto t => exact hp.elim
   | panic ch => exact hp.elim
   | outgrown => exact hp.elim
 · rintro e W2 ⟨⟨v, rfl⟩, xs, hS, hi, hl, hd⟩;have hle : w.heap.size <= w.heap.size + 1 := by omega
   have hend := run_endLoop (P := P) hl (by rw [hR]; simp);rw [hR] at hend;exact ⟨none, _, hend, hdone _ xs _ (Nat.le_refl _) hS (hIl _ _ _ _ _ hi hle hl rfl) ((World.putObj_heap_other (by omega)).trans hd)⟩
attribute [local go_sem] Oper.semAt_some
abbrev NR := Nat × Hd
def NR.enc (x : NR) : Array Value := #[.int .i64 (x.1 : Int), .slice (some ⟨x.2.blk, 0, none⟩) x.2.xs.length x.2.cap]
def HandE (B : Nat) (pre : List NR) (x : NR) (W : World) : Prop := RowN W x.2.blk x.2.xs /\ B <= x.2.blk /\ ∀ y ∈ pre, y.2.blk ≠ x.2.blk
def HandS (r c : Nat) (xs : List Int) (zs : List NR) : Prop := zs.length = r /\ ∀ k (h : k < zs.length), zs[k] = (k, ⟨(zs[k]).2.blk, c, rowOf xs c k⟩)
theorem LsAt.piece {w : World} {b : Nat} {xs : List Int} (h : RowN w b xs) (L : Nat) (hL : ∀ x ∈ xs, wlen x.natAbs <= L) (k c : Nat) : LsAt w L (some ⟨b, k * c * 2, none⟩) (rowOf xs c k) := by
 intro hp;refine ⟨b, k * c * 2, rfl, h.lt, fun i hi => ?_⟩;have h0 : i < c := by simp [rowOf] at hi; omega
 have h1 : k * c + i < xs.length := by simp [rowOf] at hi; omega
 obtain ⟨p, h2, h3, h4⟩ := h.get h1;have e : (k * c + i) * 2 = k * c * 2 + i * 2 := by omega
 rw [e] at h2 h3;refine ⟨p, h2, h3, ?_⟩;have e2 : (rowOf xs c k)[i] = xs[k * c + i] := by simp [rowOf]
 rw [e2];exact h4.int (hL _ (List.getElem_mem _))
set_option maxRecDepth 100000 in
set_option maxHeartbeats 4000000 in
theorem Lines1_handT (n g b r c : Nat) (xs : List Int) (w : World) (S : Nat -> Prop) (hS : Wordless S w) (hg : RowAt w g 24 [.int .i64 (r : Int), .int .i64 (c : Int), .slice (some ⟨b, 0, none⟩) xs.length xs.length]) (hgS : ¬ S g) (hb : RowN w b xs) (hbS : ¬ S b) (hl : xs.length = r * c) (hr : r <= 100000) (hc : c <= 100000)
 (hL : ∀ x ∈ xs, wlen x.natAbs <= 17592186044415)
 (l : Nat) (J : List NR -> World -> Prop) (W : World) (hW : Below w.heap.size w W) (hJ : ∀ s A B, J s A -> Below A.heap.size A B -> J s B)
 (hY : ∀ pre x Wp W1, J pre Wp -> Below Wp.heap.size Wp W1 -> Wp.heap.size <= x.2.blk -> HandE w.heap.size pre x W1 -> x = (pre.length, ⟨x.2.blk, c, rowOf xs c pre.length⟩) -> pre.length < r -> YieldAt Fence.wide (n - 1) Try.prog l (NR.enc x) W1 fun e W' => e = .returned (.bool true) /\ J (pre ++ [x]) W' /\ KeepS w.heap.size S W1 W')
 (h0 : J [] W) (hn : 1 <= n) :
 CallsIn Fence.wide n Try.prog 62 (#[.func (.yield l) #[] #[]] ++ #[.pointer (some ⟨g, 0, none⟩)]) W fun e W' => (∃ v, e = .returned v) /\ ∃ zs, HandS r c xs zs /\ J zs W' := by
 have HG := Lib.hid hg; clear hg;have HB := Lib.hid hb; clear hb;have HL := Lib.hid hl; clear hl;have HW := Lib.hid hW; clear hW;have HY := Lib.hid hY; clear hY;have HWL := Lib.hid hS; clear hS;have g0 := (HG.out.below HW.out HG.out.lt).cell 0;refine callsIn_of_wp Try.func62 rfl trivial ?_ rfl;simp only [Try.ntmps62, List.size_toArray, List.length_cons, List.length_nil, Nat.reduceAdd, Nat.reduceSub, Array.replicate_succ, Array.replicate_zero, List.push_toArray, List.append_toArray, List.nil_append, List.cons_append];simp only [List.getElem?_cons_zero] at g0
 gi_wp2
 clear g0
 gi_loopw [6] (fun i wr => ∃ (k : Nat) (zs : List NR), k <= r /\ i = .int .i64 (k : Int) /\ Hid (zs.length = k /\ (∀ j (h : j < zs.length), zs[j] = (j, ⟨(zs[j]).2.blk, c, rowOf xs c j⟩)) /\ (∀ y ∈ zs, y.2.blk < wr.heap.size) /\ J zs wr /\ Chg S w wr))
  (fun i _ => r - (intOf i).toNat)
 case atStart => exact ⟨0, [], Nat.zero_le _, rfl, Lib.hid ⟨rfl, fun j h => absurd h (by simp), fun y h => absurd h (by simp), h0, Chg.of_below HW.out⟩⟩
 case round =>
  obtain ⟨k, zs, hk, rfl, HI⟩ := hrel;by_cases hlt : k < r
  · have hlt' : (k : Int) < (r : Int) := by omega
    have g0 := (HI.out.2.2.2.2.row HG.out hgS).cell 0;have g1 := (HI.out.2.2.2.2.row HG.out hgS).cell 1;have g2 := (HI.out.2.2.2.2.row HG.out hgS).cell 2;simp only [List.getElem?_cons_zero, List.getElem?_cons_succ] at g0 g1 g2;obtain ⟨q, hq⟩ : ∃ q, k * c = q := ⟨_, rfl⟩;have hq2 : (k + 1) * c = q + c := by rw [Nat.succ_mul, hq]
    have hq3 : q + c <= xs.length := by rw [<- hq2, HL.out]; exact Nat.mul_le_mul_right _ hlt
    have hxl : xs.length <= 10000000000 := by rw [HL.out]; exact Nat.mul_le_mul hr hc
    have hw1 : wrap64 ((k : Int) * (c : Int)) = (q : Int) := by
     rw [<- Int.natCast_mul, hq]; unfold wrap64; omega
    have hw2 : wrap64 (((k : Int) + 1) * (c : Int)) = (q : Int) + (c : Int) := by
     have : ((k : Int) + 1) * (c : Int) = ((q + c : Nat) : Int) := by rw [<- hq2]; push_cast; rfl
     rw [this]; push_cast; unfold wrap64; omega
    have hpc : LsAt wr 17592186044415 (some ⟨b, q * 2, none⟩) (rowOf xs c k) := by
     rw [<- hq]; exact LsAt.piece (HI.out.2.2.2.2.rowN HWL.out HB.out hbS) _ hL k c
    have hrl : (rowOf xs c k).length = c := rowOf_length HL.out hlt;have HP := Lib.hid hpc; clear hpc;have HQ := Lib.hid hq; clear hq;have HQ2 := Lib.hid hq2; clear hq2;have hle1 : (q : Int) + (c : Int) <= (xs.length : Int) := by omega
    have hle2 : (q : Int) <= (q : Int) + (c : Int) := by omega
    have hcap : xs.length - q ≠ 0 ∨ c = 0 := by omega
    gi_wp2_with fail
    · refine ⟨trivial, ?_⟩;have hE := EachLeast_c (some ⟨b, 0, none⟩) 0 (rowOf xs c k) wr (fun h => by rw [hrl] at h; omega) (by rw [hrl]; omega);rw [hrl] at hE;refine (callsIn_wide.2 hE).mono ?_;rintro e w3 ⟨⟨bn, rfl, hbn, hrow⟩, hb3⟩;have hs3 := hb3.size;have hJ3 : J zs w3 := hJ _ _ _ HI.out.2.2.2.1 hb3;have hlt3 : bn < w3.heap.size := hrow.lt;obtain ⟨fn, tmps, assign, body, hy, hR⟩ := HY.out zs (k, ⟨bn, c, rowOf xs c k⟩) wr w3 HI.out.2.2.2.1 hb3 hbn ⟨hrow, by have := HI.out.2.2.2.2.size; show w.heap.size <= bn; omega, fun y hy => by have := HI.out.2.2.1 y hy; show y.2.blk ≠ bn; omega⟩ (by rw [HI.out.1]) (by rw [HI.out.1]; exact hlt);simp only [NR.enc] at hy;rw [hrl] at hy;have HI3 : Hid (Chg S w w3) := Lib.hid (HI.out.2.2.2.2.below hb3);have HZ := Lib.hid (And.intro HI.out.1 (And.intro HI.out.2.1 HI.out.2.2.1));have HB3 := Lib.hid hb3;clear hb3 HI HP hrow hJ3 g0 g1 g2
      gi_wp2
      refine hR.mono ?_;rintro e W' ⟨rfl, hJ', hk'⟩;have HJ' := Lib.hid hJ';have HK' := Lib.hid hk';clear hJ' hk' hy hR
      gi_wp2
      go_roundw
      case rel =>
       refine ⟨k + 1, zs ++ [(k, ⟨bn, c, rowOf xs c k⟩)], by omega, by go_num, Lib.hid ⟨by simp [HZ.out.1], fun j hj => ?_, fun y hy => ?_, HJ'.out, ?_⟩⟩
       · by_cases hjk : j < zs.length
         · rw [List.getElem_append_left hjk];exact HZ.out.2.1 j hjk
         · have hjl : j = zs.length := by simp at hj; omega
           subst hjl;simp [HZ.out.1]
       · have hsz := HK'.out.size;rcases List.mem_append.1 hy with hy | hy
         · have := HZ.out.2.2 y hy; have := HB3.out.size; omega
         · simp only [List.mem_singleton] at hy; subst hy; show bn < _; omega
       · exact ⟨HK'.out.os.trans HI3.out.os, HK'.out.tape.trans HI3.out.tape, HK'.out.output.trans HI3.out.output, Nat.le_trans HI3.out.size HK'.out.size, fun i hi hs => (HK'.out.block i hi hs).trans (HI3.out.block i hi hs)⟩
      case measure => simp [intOf]; omega
    · refine ⟨trivial, ?_⟩;have hE := EachLeast_c (some ⟨b, q * 2, none⟩) (xs.length - q) (rowOf xs c k) wr HP.out (by rw [hrl]; omega);rw [hrl] at hE;refine (callsIn_wide.2 hE).mono ?_;rintro e w3 ⟨⟨bn, rfl, hbn, hrow⟩, hb3⟩;have hs3 := hb3.size;have hJ3 : J zs w3 := hJ _ _ _ HI.out.2.2.2.1 hb3;have hlt3 : bn < w3.heap.size := hrow.lt;obtain ⟨fn, tmps, assign, body, hy, hR⟩ := HY.out zs (k, ⟨bn, c, rowOf xs c k⟩) wr w3 HI.out.2.2.2.1 hb3 hbn ⟨hrow, by have := HI.out.2.2.2.2.size; show w.heap.size <= bn; omega, fun y hy => by have := HI.out.2.2.1 y hy; show y.2.blk ≠ bn; omega⟩ (by rw [HI.out.1]) (by rw [HI.out.1]; exact hlt);simp only [NR.enc] at hy;rw [hrl] at hy;have HI3 : Hid (Chg S w w3) := Lib.hid (HI.out.2.2.2.2.below hb3);have HZ := Lib.hid (And.intro HI.out.1 (And.intro HI.out.2.1 HI.out.2.2.1));have HB3 := Lib.hid hb3;clear hb3 HI HP hrow hJ3 g0 g1 g2
      gi_wp2
      refine hR.mono ?_;rintro e W' ⟨rfl, hJ', hk'⟩;have HJ' := Lib.hid hJ';have HK' := Lib.hid hk';clear hJ' hk' hy hR
      gi_wp2
      go_roundw
      case rel =>
       refine ⟨k + 1, zs ++ [(k, ⟨bn, c, rowOf xs c k⟩)], by omega, by go_num, Lib.hid ⟨by simp [HZ.out.1], fun j hj => ?_, fun y hy => ?_, HJ'.out, ?_⟩⟩
       · by_cases hjk : j < zs.length
         · rw [List.getElem_append_left hjk];exact HZ.out.2.1 j hjk
         · have hjl : j = zs.length := by simp at hj; omega
           subst hjl;simp [HZ.out.1]
       · have hsz := HK'.out.size;rcases List.mem_append.1 hy with hy | hy
         · have := HZ.out.2.2 y hy; have := HB3.out.size; omega
         · simp only [List.mem_singleton] at hy; subst hy; show bn < _; omega
       · exact ⟨HK'.out.os.trans HI3.out.os, HK'.out.tape.trans HI3.out.tape, HK'.out.output.trans HI3.out.output, Nat.le_trans HI3.out.size HK'.out.size, fun i hi hs => (HK'.out.block i hi hs).trans (HI3.out.block i hi hs)⟩
      case measure => simp [intOf]; omega
  · obtain rfl : k = r := by omega
    gi_wp2
    go_end0
    exact ⟨⟨_, rfl⟩, zs, ⟨HI.out.1, HI.out.2.1⟩, HI.out.2.2.2.1⟩
theorem Lines1_hand (n g b r c : Nat) (xs : List Int) (w : World) (S : Nat -> Prop) (hS : Wordless S w) (hg : RowAt w g 24 [.int .i64 (r : Int), .int .i64 (c : Int), .slice (some ⟨b, 0, none⟩) xs.length xs.length]) (hgS : ¬ S g) (hb : RowN w b xs) (hbS : ¬ S b) (hl : xs.length = r * c) (hr : r <= 100000) (hc : c <= 100000)
 (hL : ∀ x ∈ xs, wlen x.natAbs <= 17592186044415)
 (l : Nat) (J : List NR -> World -> Prop) (W : World) (hW : Below w.heap.size w W) (hJ : ∀ s A B, J s A -> Below A.heap.size A B -> J s B)
 (hY : ∀ pre x W1, J pre W1 -> HandE w.heap.size pre x W1 -> pre.length < r -> YieldAt Fence.wide (n - 1) Try.prog l (NR.enc x) W1 fun e W' => e = .returned (.bool true) /\ J (pre ++ [x]) W' /\ KeepS w.heap.size S W1 W')
 (h0 : J [] W) (hn : 1 <= n) :
 CallsIn Fence.wide n Try.prog 62 (#[.func (.yield l) #[] #[]] ++ #[.pointer (some ⟨g, 0, none⟩)]) W fun e W' => (∃ v, e = .returned v) /\ ∃ zs, HandS r c xs zs /\ J zs W' :=
 Lines1_handT n g b r c xs w S hS hg hgS hb hbS hl hr hc hL l J W hW hJ (fun pre x Wp W1 hj hb _ hx _ hl => hY pre x W1 (hJ _ _ _ hj hb) hx hl) h0 hn
end Go.Proofs.Ytllkjlcdcbilcaa
namespace Go.Proofs.Ytllkjlcdcbilcaa
def matE (xs : List Int) (r c i j : Nat) : Int := if i < r /\ j < c then xs.getD (i * c + j) 0 else 0
theorem idx_lt {r c i j : Nat} (hi : i < r) (hj : j < c) : i * c + j < r * c := by
 have h1 : (i + 1) * c <= r * c := Nat.mul_le_mul_right _ hi;have h2 : (i + 1) * c = i * c + c := Nat.succ_mul i c;omega
theorem idx_of {r c n : Nat} (h : n < r * c) : ∃ i j, i < r /\ j < c /\ n = i * c + j := by
 have hc : 0 < c := by
  rcases Nat.eq_zero_or_pos c with h0 | h0
  · subst h0; simp at h
  · exact h0
 exact ⟨n / c, n % c, (Nat.div_lt_iff_lt_mul hc).2 h, Nat.mod_lt _ hc, by have := Nat.div_add_mod n c; rw [Nat.mul_comm] at this; omega⟩
theorem matE_eq {xs : List Int} {r c i j : Nat} (hi : i < r) (hj : j < c) : matE xs r c i j = xs.getD (i * c + j) 0 := by
 unfold matE; rw [if_pos ⟨hi, hj⟩]
theorem matE_row {xs : List Int} {r c i : Nat} (hi : r <= i) (j : Nat) : matE xs r c i j = 0 := by
 unfold matE; rw [if_neg (by omega)]
theorem matE_col {xs : List Int} {r c j : Nat} (i : Nat) (hj : c <= j) : matE xs r c i j = 0 := by
 unfold matE; rw [if_neg (by omega)]
theorem matE_ext {xs ys : List Int} {r c : Nat} (hx : xs.length = r * c) (hy : ys.length = r * c) (h : ∀ i j, i < r -> j < c -> matE xs r c i j = matE ys r c i j) : xs = ys := by
 refine List.ext_getElem (by omega) fun n h1 h2 => ?_;obtain ⟨i, j, hi, hj, e⟩ := idx_of (by omega : n < r * c);have := h i j hi hj;rw [matE_eq hi hj, matE_eq hi hj, <- e, gd_lt _ _ h1, gd_lt _ _ h2] at this;exact this
theorem matE_bound {xs : List Int} {r c B : Nat} (hB : 0 < B) (h : ∀ x ∈ xs, x.natAbs < B) (i j : Nat) : (matE xs r c i j).natAbs < B := by
 unfold matE;split
 · by_cases hl : i * c + j < xs.length
   · rw [gd_lt _ _ hl]; exact h _ (List.getElem_mem _)
   · rw [gd_ge _ _ (by omega)]; simpa using hB
 · simpa using hB
theorem bound_matE {xs : List Int} {r c B : Nat} (hx : xs.length = r * c) (h : ∀ i j, i < r -> j < c -> (matE xs r c i j).natAbs < B) : ∀ x ∈ xs, x.natAbs < B := by
 intro x hm;obtain ⟨n, hn, rfl⟩ := List.getElem_of_mem hm;obtain ⟨i, j, hi, hj, e⟩ := idx_of (by omega : n < r * c);have := h i j hi hj;rw [matE_eq hi hj, <- e, gd_lt _ _ hn] at this;exact this
theorem getD_rowOf (xs : List Int) (c k j : Nat) (hj : j < c) : (rowOf xs c k).getD j 0 = xs.getD (k * c + j) 0 := by
 unfold rowOf;simp [hj]
theorem getD_flatten : ∀ (xss : List (List Int)) (c : Nat), (∀ x ∈ xss, x.length = c) -> ∀ i j, (hi : i < xss.length) -> j < c -> xss.flatten.getD (i * c + j) 0 = (xss[i]).getD j 0
 | [], c, h, i, j, hi, hj => by simp at hi
 | x :: xss, c, h, 0, j, hi, hj => by
  have hx := h x (List.mem_cons_self ..);rw [List.flatten_cons, Nat.zero_mul, Nat.zero_add, List.getElem_cons_zero];rw [gd_lt _ _ (by rw [List.length_append]; omega), gd_lt _ _ (by omega), List.getElem_append_left]
 | x :: xss, c, h, i + 1, j, hi, hj => by
  have hx := h x (List.mem_cons_self ..);rw [List.flatten_cons, List.getElem_cons_succ, <- getD_flatten xss c (fun y hy => h y (List.mem_cons_of_mem _ hy)) i j (by simpa using hi) hj];have e : (i + 1) * c + j = x.length + (i * c + j) := by rw [Nat.succ_mul, hx]; omega
  rw [e, List.getD_eq_getElem?_getD, List.getElem?_append_right (by omega), List.getD_eq_getElem?_getD];congr 2; omega
structure IsHnf (r c : Nat) (xs hs : List Int) (k : Nat) (l : Nat -> Nat) : Prop where
 len : hs.length = r * c
 kr : k <= r
 herm : Herm k c (matE hs r c) l
 zero : ∀ i, k <= i -> ∀ b, matE hs r c i b = 0
 sp : SpEq r (matE xs r c) k (matE hs r c)
theorem IsHnf.unique {r c : Nat} {xs hs hs' : List Int} {k k' : Nat} {l l' : Nat -> Nat} (h : IsHnf r c xs hs k l) (h' : IsHnf r c xs hs' k' l') : hs = hs' /\ k = k' /\ ∀ i, i < k -> l i = l' i := by
 obtain ⟨h1, h2, h3⟩ := h.herm.unique h'.herm (h.sp.symm.trans h'.sp);refine ⟨matE_ext h.len h'.len fun i j hi hj => ?_, h1, h2⟩;by_cases hk : i < k
 · exact h3 i hk j
 · rw [h.zero i (by omega), h'.zero i (by omega)]
theorem ent_rows {R : List Hd} {xs : List Int} {r c : Nat} (hl : R.length = r) (hx : xs.length = r * c) (h : ∀ k (hk : k < R.length), R[k].xs = rowOf xs c k) : Sh c R /\ ∀ i j, ent R i j = matE xs r c i j := by
 have hlen : ∀ k, k < r -> (rowOf xs c k).length = c := fun k hk => by
  have := idx_lt (c := c + 1) hk (Nat.lt_succ_self c);unfold rowOf;have h1 : (k + 1) * c <= r * c := Nat.mul_le_mul_right _ hk;have h2 : (k + 1) * c = k * c + c := Nat.succ_mul k c;simp [hx]; omega
 have hsh : Sh c R := fun q hq => by
  obtain ⟨k, hk, rfl⟩ := List.getElem_of_mem hq;rw [h k hk]; exact hlen k (by omega)
 refine ⟨hsh, fun i j => ?_⟩;by_cases hi : i < r
 · by_cases hj : j < c
   · rw [ent_get (by omega), h i (by omega), getD_rowOf _ _ _ _ hj, matE_eq hi hj]
   · rw [hsh.wide i (by omega), matE_col _ (by omega)]
 · rw [ent_out (by omega), matE_row (by omega)]
theorem matE_rows {R : List Hd} {r c : Nat} (hl : R.length = r) (hs : Sh c R) : (R.map Hd.xs).flatten.length = r * c /\ ∀ i j, matE (R.map Hd.xs).flatten r c i j = ent R i j := by
 have hc : ∀ x ∈ R.map Hd.xs, x.length = c := fun x hx => by
  obtain ⟨q, hq, rfl⟩ := List.mem_map.1 hx; exact hs q hq
 refine ⟨?_, fun i j => ?_⟩
 · have : ∀ (xss : List (List Int)), (∀ x ∈ xss, x.length = c) -> xss.flatten.length = xss.length * c := by
    intro xss;induction xss with
    | nil => intro _; simp
    | cons x xs ih =>
     intro h;rw [List.flatten_cons, List.length_append, ih (fun y hy => h y (List.mem_cons_of_mem _ hy)), h x (List.mem_cons_self ..), List.length_cons, Nat.succ_mul]; omega
   rw [this _ hc, List.length_map, hl]
 · by_cases hi : i < r
   · by_cases hj : j < c
     · rw [matE_eq hi hj, getD_flatten _ c hc i j (by simp; omega) hj, List.getElem_map, ent_get (by omega)]
     · rw [hs.wide i (by omega), matE_col _ (by omega)]
   · rw [ent_out (by omega), matE_row (by omega)]
theorem SpEq.left {n m : Nat} {E E' F : Nat -> Nat -> Int} (h : SpEq n E m F) (e : ∀ i j, E' i j = E i j) : SpEq n E' m F :=
 (SpEq.of_eq (fun k _ j => e k j)).trans h
theorem SpEq.right {n m : Nat} {E F F' : Nat -> Nat -> Int} (h : SpEq n E m F) (e : ∀ i j, F' i j = F i j) : SpEq n E m F' :=
 h.trans (SpEq.of_eq (fun k _ j => (e k j).symm))
theorem hnf_of {R R' : List Hd} {xs : List Int} {r c D k : Nat} (hl : R.length = r) (he : ∀ i j, ent R i j = matE xs r c i j) (h : RedOk c D R k R') : ∃ l, IsHnf r c xs (R'.map Hd.xs).flatten k l /\ ∀ x ∈ (R'.map Hd.xs).flatten, x.natAbs < W ^ D := by
 obtain ⟨l, hH⟩ := h.herm;have hm := matE_rows (h.len.trans hl) h.sh;refine ⟨l, ⟨hm.1, hl ▸ h.kl, hH.congr (fun a _ b => hm.2 a b), fun i hi b => (hm.2 i b).trans (h.zero i hi b), ?_⟩, bound_matE hm.1 (fun i j _ _ => by rw [hm.2]; exact h.bd i j)⟩;have := h.sp;rw [hl] at this;exact (this.left (fun i j => (he i j).symm)).right hm.2
end Go.Proofs.Ytllkjlcdcbilcaa
namespace Go.Proofs.Ytllkjlcdcbilcaa
open Go.RowKit
attribute [local go_sem] Oper.semAt_some
theorem cell_putObj {w : World} {l : Nat} {o o' : Obj} (hl : w.heap[l]? = some o) (hn : o.isCells = false) {p : Addr} {v : Value} (h : w.cell? p = some v) : (w.putObj l o').cell? p = some v := by
 by_cases e : p.block = l
 · exfalso;unfold World.cell? at h;rw [e, hl] at h;cases o <;> simp_all [Obj.isCells]
 · exact (World.cell?_of_block (World.putObj_heap_other e)).trans h
theorem row_putObj {w : World} {l : Nat} {o o' : Obj} (hl : w.heap[l]? = some o) (hn : o.isCells = false) {b : Nat} {t : TypeId} {cs : List Value} (h : RowAt w b t cs) : RowAt (w.putObj l o') b t cs := by
 by_cases e : b = l
 · exfalso;unfold RowAt at h;rw [e, hl] at h;injection h with h
   subst h;simp [Obj.isCells] at hn
 · unfold RowAt at *;rw [World.putObj_heap_other e]; exact h
theorem size_putObj (w : World) (l : Nat) (o : Obj) : (w.putObj l o).heap.size = w.heap.size := by simp
theorem wat_putObj {w : World} {l : Nat} {o o' : Obj} (hl : w.heap[l]? = some o) (hn : o.isCells = false) {ao : Option Addr} {ws : List Nat} (h : WAt w ao ws) : WAt (w.putObj l o') ao ws := by
 refine ⟨h.1, fun hp => ?_⟩;obtain ⟨b, q, e, hb, hc⟩ := h.2 hp;exact ⟨b, q, e, by rw [size_putObj]; exact hb, fun i hi => cell_putObj hl hn (hc i hi)⟩
theorem int_putObj {w : World} {l : Nat} {o o' : Obj} (hl : w.heap[l]? = some o) (hn : o.isCells = false) {L : Nat} {v : Value} {x : Int} (h : IntAt w L v x) : IntAt (w.putObj l o') L v x := by
 obtain ⟨n, ao, len, cap, ws, e, hW, r⟩ := h;exact ⟨n, ao, len, cap, ws, e, wat_putObj hl hn hW, r⟩
theorem rowN_putObj {w : World} {l : Nat} {o o' : Obj} (hl : w.heap[l]? = some o) (hn : o.isCells = false) {b : Nat} {xs : List Int} (h : RowN w b xs) : RowN (w.putObj l o') b xs := by
 obtain ⟨ps, tl, nt, hr, hl', hN⟩ := h;exact ⟨ps, tl, nt, row_putObj hl hn hr, hl', fun i h1 h2 => ⟨int_putObj hl hn (hN i h1 h2).1, (hN i h1 h2).2⟩⟩
theorem info_row : (Try.prog.info? 22).map (fun i => (i.zero, i.size, i.bytes)) = some (some (.slice none 0 0), 1, 24) := by kernel_rfl
def hdrsTo (r : Nat) (zs : List NR) : List Value := zs.map (fun z => z.2.hdr) ++ List.replicate (r - zs.length) (.slice none 0 0)
structure LinesI (w : World) (B g o r : Nat) (zs : List NR) (W : World) : Prop where
 box : RowAt W g 62 [.slice (some ⟨o, 0, none⟩) zs.length r]
 row : RowAt W o 22 (hdrsTo r zs)
 nums : ∀ z ∈ zs, RowN W z.2.blk z.2.xs /\ B <= z.2.blk
 nd : (zs.map (fun z => z.2.blk)).Nodup
 chg : Chg (fun k => k = g ∨ k = o) w W
theorem wpListIn_app {F : Fence} {n : Nat} {P : Program} {w : World} {ops : Array Oper} {rest : List Oper} {o : Oper} {a : Act} {Q : Exit -> Act -> World -> Prop}
 (hg : o.guard = none) (s x : Operand) (t : TypeId) (hop : o.op = Op.call { callee := Callee.builtin Builtin.append, args := #[s, x], argTypes := #[t, t] })
 (e : TypeId) (z : Value) (size bytes : Nat) (h1 : P.underlying t = some (.slice e)) (h2 : (P.info? e).map (fun i => (i.zero, i.size, i.bytes)) = some (some z, size, bytes))
 (b off sLen sCap : Nat) (ad : Addr) (m c : Nat) (news : List Value) (hs : a.eval s = .slice (some ⟨b, off, none⟩) sLen sCap) (hx : a.eval x = .slice (some ad) m c)
 (hl : news.length = m * size) (hnews : ∀ j u, news[j]? = some u -> w.cell? (ad.add j) = some u) (h1c : ∀ u ∈ news, u.oneCell' = true) (hroom : sLen + m <= sCap)
 (hc : ∀ j, j < news.length -> (w.cell? ⟨b, off + sLen * size + j, none⟩).isSome = true) (hf : ∀ j, j < news.length -> w.frozen? ⟨b, off + sLen * size + j, none⟩ = false)
 (hK : wpListIn F n P ops Q rest (a.put o.dst (.slice (some ⟨b, off, none⟩) (sLen + m) sCap)) (w.setCells b (off + sLen * size) news)) :
 wpListIn F n P ops Q (o :: rest) a w := by
 refine wpListIn_plain hg fun K hK' => ?_;obtain ⟨i, hi, hz, hsz, hb⟩ := info_parts h2;subst hsz;have hrun := run_append_room_cells (P := P) (w := w) t o.type e i h1 hi b off sLen sCap ad m c news hl hnews h1c hroom hc hf;unfold Oper.wpIn;refine ⟨?_, ?_⟩
 · simp [Oper.about, hop, resolve, Target.leads, Sem.run_pure]
 · rw [Oper.semAt_plain F _ _ (by rw [hop]; intro c hc'; cases hc')];simp [execOp, hop, resolve, invoke, builtin, hs, hx, hrun, Result.andThen];exact hK' _ _ hK
theorem made_hdrs (n : Nat) : (madeCells (Value.slice none 0 0).cells (n * 1)).toList = List.replicate n (.slice none 0 0) := by
 rw [madeCells_one _ rfl]
theorem mk_rows {w : World} {ops : Array Oper} {rest : List Oper} {o : Oper} {a : Act} {Q : Exit -> Act -> World -> Prop}
 (hg : o.guard = none) (l c : Operand) (hop : o.op = Op.makeSlice 62 l c)
 {kl kc : IntKind} {L C : Int} (n m : Nat) (hl : a.eval l = .int kl L) (hc : a.eval c = .int kc C) (hL : L = (n : Int)) (hC : C = (m : Int)) (hnm : n <= m) (b2 : m <= 1000000)
 (hK : ∀ b w', Made w w' b 22 (List.replicate m (.slice none 0 0)) -> wpList Try.prog ops Q rest (a.put o.dst (.slice (some ⟨b, 0, none⟩) n m)) w') :
 wpList Try.prog ops Q (o :: rest) a w :=
 wpList_make_row hg l c 62 hop 22 (.slice none 0 0) 1 24 Try.underlying62 info_row n m hl hc hL hC hnm (by omega) (by unfold maxLen; omega)
  (fun b w' h => hK b w' (by rw [made_hdrs] at h; exact h))
set_option maxRecDepth 100000 in
set_option maxHeartbeats 4000000 in
theorem lines_e (r c : Nat) (ao : Option Addr) (len cap : Nat) (xs : List Int) (w : World) (hr : r <= 64) (hc : c <= 64) (h : LsAt w 17592186044415 ao xs) (hL : ∀ x ∈ xs, wlen x.natAbs <= 17592186044415) (hl : len = xs.length) (hs : xs.length = r * c) :
 CallsIn Fence.wide 6 Try.prog 41 #[.agg #[.int .i64 (r : Int), .int .i64 (c : Int), .slice ao len cap]] w fun e w' => (∃ o R, e = .returned (.slice (some ⟨o, 0, none⟩) R.length r) /\ MatN w' o R /\ R.length = r /\ (∀ k (h : k < R.length), R[k].xs = rowOf xs c k) /\ w.heap.size <= o /\ (∀ x ∈ R, w.heap.size <= x.blk) /\ RowAt w' o 22 (R.map Hd.hdr) /\ ∀ k (h : k < R.length), R[k].cap = c) /\ Below w.heap.size w w' := by
 subst hl;have HX := Lib.hid h; clear h;have HS := Lib.hid hs; clear hs;refine callsIn_of_wp_marks Try.func41 rfl trivial ?_ rfl;simp only [Try.ntmps41, List.size_toArray, List.length_cons, List.length_nil, Nat.reduceAdd, Nat.reduceSub, Array.replicate_succ, Array.replicate_zero, List.push_toArray, List.append_toArray, List.nil_append, List.cons_append];refine wpIn_wide.2 ?_;have hb0 : Below w.heap.size w (w.alloc (.cells #[.int .i64 (r : Int), .int .i64 (c : Int), .slice ao xs.length cap] 24)) := (Below.refl _ _).alloc (Nat.le_refl _) _;have hr0 := RowAt.new w #[.int .i64 (r : Int), .int .i64 (c : Int), .slice ao xs.length cap] 24;have HB0 := Lib.hid hb0; clear hb0;have HR0 := Lib.hid hr0; clear hr0;go_wp2_with (at_make; refine mk_rows rfl _ _ rfl 0 r rfl rfl rfl rfl (Nat.zero_le _) (by omega) ?_; intro o w1 hm1; have hr1 := (HR0.out.below hm1.below HR0.out.lt).alloc (.cells #[.slice (some ⟨o, 0, none⟩) 0 r] 62); have c0 := hr1.cell 0; have c1 := hr1.cell 1; have c2 := hr1.cell 2; have hm := Lib.hid hm1; clear hm1 hr1; simp only [List.getElem?_cons_zero, List.getElem?_cons_succ] at c0 c1 c2)
 have hr2 := hm.out.row.alloc (.cells #[.slice (some ⟨o, 0, none⟩) 0 r] 62);have hr3 := RowAt.new w1 #[.slice (some ⟨o, 0, none⟩) 0 r] 62;have hb2 : Below w.heap.size w (w1.alloc (.cells #[.slice (some ⟨o, 0, none⟩) 0 r] 62)) := (HB0.out.trans (hm.out.below.mono HB0.out.size)).alloc (by have := HB0.out.size; have := hm.out.below.size; omega) _;have hg1 : w.heap.size < w1.heap.size := Nat.lt_of_lt_of_le HR0.out.lt hm.out.below.size;have ho1 : w.heap.size < o /\ o < w1.heap.size := by
  have h1 := hm.out.at_;have h2 := HR0.out.lt;have h3 := hm.out.size;omega
 generalize hw2 : w1.alloc (.cells #[.slice (some ⟨o, 0, none⟩) 0 r] 62) = w2 at *;have hs2 : w2.heap.size = w1.heap.size + 1 := by rw [<- hw2]; simp
 have HR2 := Lib.hid hr2; clear hr2;have HR3 := Lib.hid hr3; clear hr3;have HB2 := Lib.hid hb2; clear hb2;clear hm hw2 HB0 HR0 c0 c1 c2;have hsnd : soundM (r : Int) (c : Int) xs.length = true := by
  unfold soundM sideOk;rw [HS.out];simp; omega
 refine (MLines_c (r : Int) (c : Int) ao xs.length cap xs w2 (by omega) (by omega) (HX.out.below HB2.out) rfl hsnd (by rw [HS.out]; have := Nat.mul_le_mul hr hc; omega)).mono ?_;rintro e w3 ⟨⟨g, b, rfl, hg, hb, hRg, hRb⟩, hb3⟩;have hs3 := hb3.size;have HG := Lib.hid hRg; clear hRg;have HRB := Lib.hid hRb; clear hRb;have HR2' := Lib.hid (HR2.out.below hb3 HR2.out.lt);have HR3' := Lib.hid (HR3.out.below hb3 HR3.out.lt);have HB3 : Hid (Below w.heap.size w w3) := Lib.hid (HB2.out.trans (hb3.mono HB2.out.size));clear hb3 HR2 HR3 HB2;go_wp2_with fail
 refine (wpIn_wide (n := 6)).1 ?_;have hne : w1.heap.size ≠ o := by omega
 have hI0 : LinesI w3 w3.heap.size w1.heap.size o r [] w3 := ⟨HR3'.out, by simpa [hdrsTo] using HR2'.out, fun z hz => by simp at hz, by simp, Chg.refl _ _⟩;have HI0 := Lib.hid hI0; clear hI0;refine range_hand (S := fun k => k = w1.heap.size ∨ k = o) (N := r) (Sx := HandS r c xs) (E := HandE w3.heap.size) (I := LinesI w3 w3.heap.size w1.heap.size o r) (gf := 62) (lb := #[.pointer (some ⟨g, 0, none⟩)]) (encs := NR.enc) rfl (enters_of Try.func62 (by kernel_rfl) rfl) (fun _ => rfl) ?hE ?hIl ?hIb HI0.out
  (fun x => { tmps := #[.agg #[.int .i64 (r : Int), .int .i64 (c : Int), .slice ao xs.length cap], .pointer (some ⟨w.heap.size, 0, none⟩), .slice none 0 0, .pointer (some ⟨w1.heap.size, 0, none⟩), undef, .slice (some ⟨x.2.blk, 0, none⟩) x.2.xs.length x.2.cap, .pointer (some ⟨w.heap.size, 0, none⟩), .int .i64 (r : Int), .slice (some ⟨o, 0, none⟩) 0 r, .agg #[.int .i64 (r : Int), .int .i64 (c : Int), .slice ao xs.length cap], .func (.func 62) #[] #[.pointer (some ⟨g, 0, none⟩)], .int .i64 (x.1 : Int), .slice (some ⟨x.2.blk, 0, none⟩) x.2.xs.length x.2.cap, undef, undef, undef, undef, undef], defers := [] })
  ?hseq ?assign ?body ?done
 case hE =>
  intro s x W l o1 o2 h hl ho hn;exact ⟨rowN_putObj ho hn h.1, h.2⟩
 case hIl =>
  intro s W l o1 o2 h hl ho hn;exact ⟨row_putObj ho hn h.box, row_putObj ho hn h.row, fun z hz => ⟨rowN_putObj ho hn (h.nums z hz).1, (h.nums z hz).2⟩, h.nd, ⟨h.chg.os, h.chg.tape, h.chg.output, by have := h.chg.size; simpa using this, fun k hk hs => (World.putObj_heap_other (by omega)).trans (h.chg.block k hk hs)⟩⟩
 case hIb =>
  intro s A B h hb;exact ⟨h.box.below hb h.box.lt, h.row.below hb h.row.lt, fun z hz => ⟨(h.nums z hz).1.below hb, (h.nums z hz).2⟩, h.nd, h.chg.below hb⟩
 case hseq =>
  intro l J W hW hJ hY hJ0;refine (Lines1_hand 5 g b r c xs w3 (fun k => k = w1.heap.size ∨ k = o) ?_ HG.out (by omega) HRB.out (by omega) HS.out (by omega) (by omega) hL l J W hW hJ hY hJ0 (by omega));rintro q (rfl | rfl)
  · exact ⟨_, _, HR3'.out, NoW.slice NoW.nil⟩
  · exact ⟨_, _, HR2'.out, fun v hv n => by simp at hv; simp [hv.2]⟩
 case assign =>
  intro l x W K hK;simp only [NR.enc]
  gi_wp2
  exact hK
 case body =>
  rintro l pre x W hI hE hlen;have hoW := hI.row.lt;have hbW := hI.box.lt;have hlenR : (hdrsTo r pre).length = r := by simp [hdrsTo]; omega
  have hA : ∀ X : Obj, RowAt (W.alloc X) o 22 (hdrsTo r pre) := fun X => hI.row.alloc X;have hAb : ∀ X : Obj, RowAt (W.alloc X) w1.heap.size 62 [.slice (some ⟨o, 0, none⟩) pre.length r] := fun X => hI.box.alloc X;have c0 : W.cell? ⟨w1.heap.size, 0, none⟩ = some (.slice (some ⟨o, 0, none⟩) pre.length r) := hI.box.cell 0;have f0 : W.frozen? ⟨w1.heap.size, 0, none⟩ = false := hI.box.free 0;have HI := Lib.hid hI; clear hI;have HE := Lib.hid hE; clear hE
  gi_wp2_with (gi_at_builtin; refine wpListIn_app rfl _ _ 62 rfl 22 (.slice none 0 0) 1 24 Try.underlying62 info_row o 0 pre.length r ⟨W.heap.size, 0, none⟩ 1 1 [x.2.hdr] rfl rfl rfl (cell_one_new _ _ _) (by simp [Value.oneCell', Hd.hdr]) (by omega) (fun j hj => by simp at hj; subst hj; rw [(hA _).cell]; simp [hlenR, hlen]) (fun j hj => by simp at hj; subst hj; exact (hA _).free _) ?_; simp only [Nat.zero_add, Nat.mul_one, World.setCells]; have hrW := (hA (.cells #[x.2.hdr] 22)).set pre.length x.2.hdr; have hrB := (hAb (.cells #[x.2.hdr] 22)).other (p := ⟨o, pre.length, none⟩) hne x.2.hdr; skip)
  have hI := HI.out;have hE := HE.out;have hsw := hI.chg.size;have hrW' := hI.row.set pre.length x.2.hdr;have hrB' := hI.box.other (p := ⟨o, pre.length, none⟩) hne x.2.hdr;have hNo : NoW (hdrsTo r pre) := fun v hv n => by
   simp only [hdrsTo, List.mem_append, List.mem_map, List.mem_replicate] at hv;rcases hv with ⟨z, _, rfl⟩ | ⟨_, rfl⟩ <;> simp [Hd.hdr]
  obtain ⟨Wf, hWf⟩ : ∃ Wf, (W.setCell ⟨o, pre.length, none⟩ x.2.hdr).setCell ⟨w1.heap.size, 0, none⟩ (.slice (some ⟨o, 0, none⟩) (pre.length + 1) r) = Wf := ⟨_, rfl⟩;rw [hWf];have hsf : Wf.heap.size = W.heap.size := by rw [<- hWf]; simp
  have hbl : Below Wf.heap.size Wf (Wf.alloc (.cells #[.slice (some ⟨x.2.blk, 0, none⟩) x.2.xs.length x.2.cap] 22)) := (Below.refl _ _).alloc (Nat.le_refl _) _;have hnum : ∀ y : NR, RowN W y.2.blk y.2.xs -> RowN Wf y.2.blk y.2.xs := by
   intro y hy;rw [<- hWf];exact (hy.setFar hI.row (by decide) hNo pre.length x.2.hdr).setFar hrB' (by decide) (NoW.slice NoW.nil) 0 _
  refine ⟨?_, ?_, ?_⟩
  · rw [<- hWf]; exact ((KeepsOthers.setCell _ _ _).trans (KeepsOthers.setCell _ _ _)).trans (KeepsOthers.alloc _ _)
  · refine KeepS.trans (b := Wf) ?_ (KeepS.of_below (hbl.mono (by omega)));rw [<- hWf];refine ⟨rfl, rfl, rfl, by simp, fun k hk hs => ?_⟩;exact (Below.heap_setCell _ _ _ _ (fun e => hs (.inl e))).trans (Below.heap_setCell _ _ _ _ (fun e => hs (.inr e)))
  · have hbx : RowAt Wf w1.heap.size 62 [.slice (some ⟨o, 0, none⟩) (pre.length + 1) r] := by
     rw [<- hWf]; exact hrB'.set 0 (.slice (some ⟨o, 0, none⟩) (pre.length + 1) r)
    have hrw : RowAt Wf o 22 (hdrsTo r (pre ++ [x])) := by
     have h1 := hrW'.other (p := ⟨w1.heap.size, 0, none⟩) (fun e => hne e.symm) (.slice (some ⟨o, 0, none⟩) (pre.length + 1) r);have e : (hdrsTo r pre).set pre.length x.2.hdr = hdrsTo r (pre ++ [x]) := by
      unfold hdrsTo;obtain ⟨q, hq⟩ : ∃ q, r - pre.length = q + 1 := ⟨r - pre.length - 1, by omega⟩;have hq2 : r - (pre ++ [x]).length = q := by simp; omega
      rw [hq, hq2, List.replicate_succ, List.set_append_right _ _ (by simp)];simp
     rw [<- e, <- hWf]; exact h1
    refine ⟨?_, hrw.below hbl hrw.lt, ?_, ?_, ?_⟩
    · have := hbx.below hbl hbx.lt;simpa using this
    · intro z hz;rcases List.mem_append.1 hz with hz | hz
      · exact ⟨(hnum z (hI.nums z hz).1).below hbl, (hI.nums z hz).2⟩
      · simp only [List.mem_singleton] at hz; subst hz;exact ⟨(hnum z hE.1).below hbl, hE.2.1⟩
    · rw [List.map_append, List.nodup_append];refine ⟨hI.nd, by simp, fun u hu v hv => ?_⟩;simp only [List.map_cons, List.map_nil, List.mem_singleton] at hv;obtain ⟨y, hy, rfl⟩ := List.mem_map.1 hu;subst hv;exact hE.2.2 y hy
    · refine Chg.below ?_ hbl;rw [<- hWf];exact (hI.chg.set (p := ⟨o, pre.length, none⟩) (.inr rfl) _).set (p := ⟨w1.heap.size, 0, none⟩) (.inl rfl) _
 case done =>
  rintro D zs W hD hS hI hK;have hl : zs.length = r := hS.1;have c0 : W.cell? ⟨w1.heap.size, 0, none⟩ = some (.slice (some ⟨o, 0, none⟩) zs.length r) := hI.box.cell 0;have HI := Lib.hid hI; clear hI;simp only [Exit.inBlock];go_wp2;refine ⟨by simp, .inl ⟨_, _, rfl, run_takeDeferred hK, ?_⟩⟩;refine ⟨_, results_tmp rfl _ _ _, ?_⟩;have hI := HI.out;have hS2 := hS.2;have hrow : RowAt W o 22 (zs.map (fun z => z.2.hdr)) := by
   have := hI.row;unfold hdrsTo at this;rw [hl, Nat.sub_self] at this;simpa using this
  refine ⟨⟨o, zs.map (fun z => z.2), ?_, ⟨?_, ?_, ?_⟩, by simp [hl], ?_, by omega, ?_, by rw [List.map_map]; exact row_putObj hK rfl hrow, fun k hk => by rw [List.getElem_map, hS2 k (by simpa using hk)]⟩, ?_⟩
  · simp [hl]
  · rw [List.map_map]; exact (row_putObj hK rfl hrow).pre
  · intro h hh;obtain ⟨z, hz, rfl⟩ := List.mem_map.1 hh;exact rowN_putObj hK rfl (hI.nums z hz).1
  · rw [List.map_map]; exact hI.nd
  · intro k hk;have hk' : k < zs.length := by simpa using hk
    have := hS2 k hk';rw [List.getElem_map, this]
  · intro x hx;obtain ⟨z, hz, rfl⟩ := List.mem_map.1 hx;have := (hI.nums z hz).2;have := HB3.out.size;omega
  · refine HB3.out.trans ?_;refine (hI.chg.to_below (B := w.heap.size) ?_ HB3.out.size).trans ⟨rfl, rfl, rfl, by simp, fun k hk => World.putObj_heap_other (by have := HB3.out.size; omega)⟩;rintro k (rfl | rfl) <;> omega
theorem lines_c (r c : Nat) (ao : Option Addr) (len cap : Nat) (xs : List Int) (w : World) (hr : r <= 64) (hc : c <= 64) (h : LsAt w 17592186044415 ao xs) (hL : ∀ x ∈ xs, wlen x.natAbs <= 17592186044415) (hl : len = xs.length) (hs : xs.length = r * c) :
 CallsIn Fence.wide 6 Try.prog 41 #[.agg #[.int .i64 (r : Int), .int .i64 (c : Int), .slice ao len cap]] w fun e w' => (∃ o R, e = .returned (.slice (some ⟨o, 0, none⟩) R.length r) /\ MatN w' o R /\ R.length = r /\ (∀ k (h : k < R.length), R[k].xs = rowOf xs c k) /\ w.heap.size <= o /\ (∀ x ∈ R, w.heap.size <= x.blk)) /\ Below w.heap.size w w' :=
 (lines_e r c ao len cap xs w hr hc h hL hl hs).mono (fun e w' ⟨⟨o, R, h1, h2, h3, h4, h5, h6, _⟩, hb⟩ => ⟨⟨o, R, h1, h2, h3, h4, h5, h6⟩, hb⟩)
set_option maxRecDepth 100000 in
set_option maxHeartbeats 4000000 in
theorem reduced_c (o cap B c k : Nat) (R R' : List Hd) (w : World) (h : MatN w o R) (hB : B <= 4000000000000) (hP : RedT B c 0 R.length R k R') (hR : R.length <= 100000) (hc : c <= 1000000) :
 Calls Try.prog 40 #[.slice (some ⟨o, 0, none⟩) R.length cap] w fun e w' => e = .returned (.tuple #[.slice (some ⟨o, 0, none⟩) R'.length cap, .int .i64 (k : Int)]) /\ MatN w' o R' /\ Chg (fun q => q = o ∨ ∃ r ∈ R, r.blk = q) w w' := by
 have HM := Lib.hid h; clear h;have HP := Lib.hid hP; clear hP;go_enter Try.func40, Try.ntmps40;go_wp2_with fail
 refine (New_c o cap R _ HM.out).mono ?_;rintro e w2 ⟨⟨lb, sb, g, rfl, hL, h1, h2, h3⟩, hb2⟩;have HL := Lib.hid hL; clear hL;have HB2 := Lib.hid hb2; clear hb2;go_wp2_with fail
 refine (Reduce_c ⟨lb, o, sb, g, cap, R, none⟩ B c k R' _ HL.out hB HP.out hR hc (fun t h => by cases h)).mono ?_;rintro e w3 ⟨rfl, hL3, hC3⟩;have L3 := Lib.hid hL3;have C3 : Hid (Chg (fun q => q = o ∨ ∃ r ∈ R, r.blk = q) w w3) := Lib.hid ((Chg.of_below HB2.out).trans (hC3.mono (fun q _ e => by rcases e with e | ⟨t, ht, _⟩; exact e; cases ht)));have cb : w3.cell? ⟨lb, 0, none⟩ = some (.slice (some ⟨o, 0, none⟩) R'.length cap) := L3.out.lad.cell 0;clear hL3 hC3;go_wp2;refine bodyPost_ret (results_tmp2 (t := 2) (u := 3) (by kernel_rfl) _ _ _) rfl ?_;exact ⟨rfl, L3.out.mat, C3.out⟩
theorem results_mat {fn : Func} {p : Tmp} (h : fn.results = #[.cell p 24]) (tmps : Array Value) (w : World) (g : Nat) (a b c : Value) (hp : tmps.getD p undef = .pointer (some ⟨g, 0, none⟩)) (hr : RowAt w g 24 [a, b, c]) :
 (results fn tmps).run Try.prog w = .ok (.agg #[a, b, c]) w :=
 results_cell_row h tmps w g 24 #[a, b, c] (0, 0) _ hp hr Try.underlying24 rfl (by kernel_rfl)
structure RowsAt (w : World) (L o : Nat) (xss : List (List Int)) : Prop where
 lt : o < w.heap.size
 row : ∀ i (h : i < xss.length), ∃ ao cap, w.cell? ⟨o, i, none⟩ = some (.slice ao xss[i].length cap) /\ LsAt w L ao xss[i]
structure MatI (w : World) (b m n c N : Nat) (cu : List Int) (W : World) : Prop where
 box : RowAt W m 24 [.int .i64 (n : Int), .int .i64 (c : Int), .slice (some ⟨b, 0, none⟩) cu.length N]
 row : RowN W b (cu ++ List.replicate (N - cu.length) 0)
 res : RowAt W w.heap.size 24 [.int .i64 0, .int .i64 0, .slice none 0 0]
 bel : Below w.heap.size w W
theorem MatI.app {w : World} {b m n c N k : Nat} {cu : List Int} {W : World} (h : MatI w b m n c N cu W) (hb : w.heap.size < b /\ b < m) (hk : cu.length = k) (hkN : k + 1 <= N) {p : P4} {x : Int} (hx : NumAt W (av p) x) (W2 : World)
 (e : (W.alloc (.cells #[.bool p.1, .slice p.2.1 p.2.2.1 p.2.2.2] 39)).setCells b (k * 2) [.bool p.1, .slice p.2.1 p.2.2.1 p.2.2.2] = W2) :
 RowAt W2 m 24 [.int .i64 (n : Int), .int .i64 (c : Int), .slice (some ⟨b, 0, none⟩) k N] /\ MatI w b m n c N (cu ++ [x]) (W2.setCell ⟨m, 2, none⟩ (.slice (some ⟨b, 0, none⟩) (k + 1) N)) := by
 have hb1 : Below W.heap.size W (W.alloc (.cells #[.bool p.1, .slice p.2.1 p.2.2.1 p.2.2.2] 39)) := (Below.refl _ _).alloc (Nat.le_refl _) _;generalize W.alloc (.cells #[.bool p.1, .slice p.2.1 p.2.2.1 p.2.2.2] 39) = W1 at *;subst hk;have hx1 := hx.below hb1;have hr1 := h.row.below hb1;have hm1 := h.box.below hb1 h.box.lt;have hs1 := h.res.below hb1 h.res.lt;have hB1 := h.bel.trans (hb1.mono h.bel.size);have e2 : (W1.setCell ⟨b, cu.length * 2, none⟩ (.bool p.1)).setCell ⟨b, cu.length * 2 + 1, none⟩ (.slice p.2.1 p.2.2.1 p.2.2.2) = W2 := by rw [<- e]; rfl
 have hr2 : RowN W2 b ((cu ++ List.replicate (N - cu.length) 0).set cu.length x) := by rw [<- e2]; exact hr1.set cu.length hx1
 have hne : m ≠ b := by omega
 have hm2 : RowAt W2 m 24 [.int .i64 (n : Int), .int .i64 (c : Int), .slice (some ⟨b, 0, none⟩) cu.length N] := by
  rw [<- e2]; exact (hm1.other (p := ⟨b, cu.length * 2, none⟩) hne _).other (p := ⟨b, cu.length * 2 + 1, none⟩) hne _
 have hs2 : RowAt W2 w.heap.size 24 [.int .i64 0, .int .i64 0, .slice none 0 0] := by
  rw [<- e2]; exact (hs1.other (p := ⟨b, cu.length * 2, none⟩) (by show w.heap.size ≠ b; omega) _).other (p := ⟨b, cu.length * 2 + 1, none⟩) (by show w.heap.size ≠ b; omega) _
 have hB2 : Below w.heap.size w W2 := by
  rw [<- e2]; exact (hB1.setCell (p := ⟨b, cu.length * 2, none⟩) (Nat.le_of_lt hb.1) _).setCell (p := ⟨b, cu.length * 2 + 1, none⟩) (Nat.le_of_lt hb.1) _
 refine ⟨hm2, ?_, ?_, ?_, ?_⟩
 · have := hm2.set 2 (.slice (some ⟨b, 0, none⟩) (cu.length + 1) N);simpa using this
 · have e3 : (cu ++ List.replicate (N - cu.length) 0).set cu.length x = (cu ++ [x]) ++ List.replicate (N - (cu ++ [x]).length) 0 := by
    obtain ⟨q, hq⟩ : ∃ q, N - cu.length = q + 1 := ⟨N - cu.length - 1, by omega⟩;have hq2 : N - (cu ++ [x]).length = q := by simp; omega
    rw [hq, hq2, List.replicate_succ, List.set_append_right _ _ (Nat.le_refl _)];simp
   rw [<- e3];exact hr2.setFar hm2 (by decide) (NoW.mat (n : Int) (c : Int) _ _ _) 2 _
 · exact hs2.other (p := ⟨m, 2, none⟩) (by show w.heap.size ≠ m; omega) _
 · exact hB2.setCell (p := ⟨m, 2, none⟩) (by show w.heap.size <= m; omega) _
theorem two_cells (w : World) (x y : Value) (t : TypeId) : ∀ j u, [x, y][j]? = some u -> (w.alloc (.cells #[x, y] t)).cell? ((⟨w.heap.size, 0, none⟩ : Addr).add j) = some u := by
 intro j u hj;have := (RowAt.new w #[x, y] t).cell j;have e : ((⟨w.heap.size, 0, none⟩ : Addr).add j) = ⟨w.heap.size, j, none⟩ := by unfold Addr.add; simp; omega
 rw [e, this]; exact hj
theorem MatI.spare {w : World} {b m n c N k : Nat} {cu : List Int} {W : World} (h : MatI w b m n c N cu W) (hk : cu.length = k) (hkN : k + 1 <= N) (X : Obj) (j : Nat) (hj : j < 2) : ((W.alloc X).cell? ⟨b, 0 + k * 2 + j, none⟩).isSome = true /\ (W.alloc X).frozen? ⟨b, 0 + k * 2 + j, none⟩ = false := by
 have hb1 : Below W.heap.size W (W.alloc X) := (Below.refl _ _).alloc (Nat.le_refl _) _;have hr1 := h.row.below hb1;refine ⟨?_, hr1.free _⟩;obtain ⟨q, h0, h1, _⟩ := hr1.get (i := k) (by simp [hk]; omega);have hj2 : j = 0 ∨ j = 1 := by omega
 rcases hj2 with rfl | rfl
 · rw [Nat.zero_add, Nat.add_zero, h0]; rfl
 · rw [Nat.zero_add, h1]; rfl
theorem flatten_len {xss : List (List Int)} {c : Nat} (hc : ∀ x ∈ xss, x.length = c) : xss.flatten.length = xss.length * c := by
 induction xss with
 | nil => simp
 | cons x xs ih =>
  rw [List.flatten_cons, List.length_append, ih (fun y hy => hc y (List.mem_cons_of_mem _ hy)), hc x (List.mem_cons_self ..), List.length_cons, Nat.succ_mul]; omega
theorem flatten_take_len {xss : List (List Int)} {c i : Nat} (hc : ∀ x ∈ xss, x.length = c) (hi : i <= xss.length) : (xss.take i).flatten.length = i * c := by
 rw [flatten_len (fun x hx => hc x (List.mem_of_mem_take hx)), List.length_take, Nat.min_eq_left hi]
theorem flatten_take_succ {xss : List (List Int)} {i : Nat} (hi : i < xss.length) : (xss.take (i + 1)).flatten = (xss.take i).flatten ++ xss[i] := by
 rw [List.take_succ_eq_append_getElem hi, List.flatten_append]; simp
set_option maxRecDepth 100000 in
set_option maxHeartbeats 4000000 in
theorem matrix_c (o cap n c : Nat) (xss : List (List Int)) (w : World) (h : RowsAt w 17592186044415 o xss) (hn : xss.length = n) (hc : ∀ x ∈ xss, x.length = c) (hn1 : n <= 10000) (hc1 : c <= 10000) :
 Calls Try.prog 42 #[.slice (some ⟨o, 0, none⟩) n cap, .int .i64 (c : Int)] w fun e w' => (∃ b, e = .returned (.agg #[.int .i64 (n : Int), .int .i64 (c : Int), .slice (some ⟨b, 0, none⟩) (n * c) (n * c)]) /\ w.heap.size <= b /\ RowN w' b xss.flatten) /\ Below w.heap.size w w' := by
 have hnc : n * c <= 100000000 := Nat.mul_le_mul hn1 hc1;have hw1 : wrap64 ((n : Int) * (c : Int)) = ((n * c : Nat) : Int) := by
  rw [<- Int.natCast_mul]; unfold wrap64; omega
 obtain ⟨N, hN⟩ : ∃ N, n * c = N := ⟨_, rfl⟩;rw [hN] at hw1 hnc ⊢;have HN := Lib.hid hN; clear hN;have HX := Lib.hid h; clear h;go_enter Try.func42, Try.ntmps42;go_wp2_with (at_make; refine mk_nums rfl _ _ rfl 0 N rfl rfl rfl (by omega) (Nat.zero_le _) (by omega) ?_; intro b w1 hm1)
 have hI : MatI w b w1.heap.size n c N [] (w1.alloc (.cells #[.int .i64 (n : Int), .int .i64 (c : Int), .slice (some ⟨b, 0, none⟩) 0 N] 24)) := by
  have h0 := RowAt.new w #[.int .i64 0, .int .i64 0, .slice none 0 0] 24;have hb0 : Below w.heap.size w (w.alloc (.cells #[.int .i64 0, .int .i64 0, .slice none 0 0] 24)) := (Below.refl _ _).alloc (Nat.le_refl _) _;have hb1 : Below w1.heap.size w1 (w1.alloc (.cells #[.int .i64 (n : Int), .int .i64 (c : Int), .slice (some ⟨b, 0, none⟩) 0 N] 24)) := (Below.refl _ _).alloc (Nat.le_refl _) _;refine ⟨RowAt.new _ _ _, ?_, ?_, ?_⟩
  · simpa using (RowN.zeros hm1.row).below hb1
  · exact (h0.below hm1.below h0.lt).alloc _
  · exact (hb0.trans (hm1.below.mono hb0.size)).trans (hb1.mono (Nat.le_trans hb0.size hm1.below.size))
 have hbl : w.heap.size < b /\ b < w1.heap.size := by
  have h1 := hm1.at_; have h2 := hm1.size; rw [World.size_alloc] at h1 h2; omega
 have HI := Lib.hid hI; clear hI;clear hm1;generalize w1.alloc (.cells #[.int .i64 (n : Int), .int .i64 (c : Int), .slice (some ⟨b, 0, none⟩) 0 N] 24) = w2 at *;obtain ⟨m, hm⟩ : ∃ m, w1.heap.size = m := ⟨_, rfl⟩;rw [hm] at hbl HI ⊢;clear hm;have HC := Lib.hid hc; clear hc;go_loopw [21] (fun i_ wr => ∃ (i : Nat), i <= n /\ i_ = .int .i64 (i : Int) /\ Hid (MatI w b m n c N (xss.take i).flatten wr)) (fun i_ _ => n - (intOf i_).toNat)
 case atStart => exact ⟨0, Nat.zero_le _, rfl, Lib.hid (by simpa using HI.out)⟩
 case round =>
  obtain ⟨i, hi, rfl, hIr⟩ := hrel;by_cases hin : i < n
  · have hix : i < xss.length := by omega
    have hin1 : (i : Int) < (n : Int) := by omega
    obtain ⟨ra, rc, hroww, hls⟩ := HX.out.row i hix;have hrow0 := (hIr.out.bel.cell (p := ⟨o, i, none⟩) HX.out.lt).trans hroww;clear hroww;have hxl : xss[i].length = c := HC.out _ (List.getElem_mem hix);rw [hxl] at hrow0;have HXL := Lib.hid hxl; clear hxl;have HLS := Lib.hid hls; clear hls;have hmul : (i + 1) * c <= N := by rw [<- HN.out]; exact Nat.mul_le_mul_right _ hin
    have hmul2 : (i + 1) * c = i * c + c := Nat.succ_mul i c;have hfl : (xss.take i).flatten.length = i * c := flatten_take_len HC.out (by omega);have HFL := Lib.hid hfl; clear hfl;have HM := Lib.hid (And.intro hmul hmul2); clear hmul hmul2;go_wp2;go_loopw [27] (fun j_ wq => ∃ (j : Nat), j <= c /\ j_ = .int .i64 (j : Int) /\ Hid (MatI w b m n c N ((xss.take i).flatten ++ xss[i].take j) wq)) (fun j_ _ => c - (intOf j_).toNat)
    case atStart => exact ⟨0, Nat.zero_le _, rfl, Lib.hid (by simpa using hIr.out)⟩
    case round =>
     obtain ⟨j, hj, rfl, hIq⟩ := hrel;by_cases hjc : j < c
     · have hjc1 : (j : Int) < (c : Int) := by omega
       have hjx : j < xss[i].length := by rw [HXL.out]; exact hjc
       obtain ⟨k, hk⟩ : ∃ k, i * c + j = k := ⟨_, rfl⟩;have hkN : k + 1 <= N := by have := HM.out; omega
       obtain ⟨cu, hcu⟩ : ∃ cu, (xss.take i).flatten ++ xss[i].take j = cu := ⟨_, rfl⟩;rw [hcu] at hIq;have hcl : cu.length = k := by rw [<- hcu, List.length_append, HFL.out, List.length_take, Nat.min_eq_left (by omega)]; exact hk
       have hcu2 : (xss.take i).flatten ++ xss[i].take (j + 1) = cu ++ [xss[i][j]] := by
        rw [List.take_succ_eq_append_getElem hjx, <- List.append_assoc, hcu]
       obtain ⟨x, hx⟩ : ∃ x, xss[i][j] = x := ⟨_, rfl⟩;obtain ⟨ab, aoff, hra, hab, hcells⟩ := (HLS.out.below hIq.out.bel) (by omega);subst hra;obtain ⟨px, cx0, cx1, hnx⟩ := hcells j hjx;rw [hx] at hnx hcu2;have HCU := Lib.hid hcu2; clear hcu2 hcu hcells hx;have HK := Lib.hid hk; clear hk;have hb1 : Below wr.heap.size wr (wr.alloc (.cells #[.bool px.1, .slice px.2.1 px.2.2.1 px.2.2.2] 39)) := (Below.refl _ _).alloc (Nat.le_refl _) _;have Hnx := Lib.hid (hnx.below hb1); clear hnx;have hIa : MatI w b m n c N cu (wr.alloc (.cells #[.bool px.1, .slice px.2.1 px.2.2.1 px.2.2.2] 39)) :=
        ⟨hIq.out.box.below hb1 hIq.out.box.lt, hIq.out.row.below hb1, hIq.out.res.below hb1 hIq.out.res.lt, hIq.out.bel.trans (hb1.mono hIq.out.bel.size)⟩
       have HIa := Lib.hid hIa; clear hIa;have hxr := RowAt.new wr #[.bool px.1, .slice px.2.1 px.2.2.1 px.2.2.2] 39;have HXR := Lib.hid hxr; clear hxr;have hsm : m < wr.heap.size := hIq.out.box.lt;clear hIq hb1;go_wp2;generalize wr.alloc (.cells #[.bool px.1, .slice px.2.1 px.2.2.1 px.2.2.2] 39) = w5 at *;obtain ⟨xb, hxb⟩ : ∃ xb, wr.heap.size = xb := ⟨_, rfl⟩;rw [hxb] at HXR hsm ⊢;have q0 : w5.cell? ⟨xb, 0, none⟩ = some (.bool px.1) := HXR.out.cell 0;have q1 : w5.cell? ⟨xb, 1, none⟩ = some (.slice px.2.1 px.2.2.1 px.2.2.2) := HXR.out.cell 1;have c2 : w5.cell? ⟨m, 2, none⟩ = some (.slice (some ⟨b, 0, none⟩) k N) := by have := HIa.out.box.cell 2; rw [hcl] at this; exact this
       clear cx0 cx1 hrow0;obtain ⟨i0, hi0, hz0, hsz0, hby0⟩ := info_parts info_Int;have hrl : (cu ++ List.replicate (N - cu.length) 0).length = N := by rw [List.length_append, List.length_replicate, hcl]; omega
       go_region_law (first
        | (refine step_append_room rfl (.tmp 32) (.tmp 35) 22 rfl 39 i0 2 Try.underlying22 hi0 hsz0 b 0 k N rfl ⟨w6.heap.size, 0, none⟩ 1 1 [.bool pz.1, .slice pz.2.1 pz.2.2.1 pz.2.2.2] rfl rfl (two_cells w6 _ _ _) (by simp [Value.oneCell']) (by omega) (fun j hj => HI6.out.spare hcl hkN _ j hj) ?_; obtain ⟨w7, hw7⟩ : ∃ w7, (w6.alloc (.cells #[.bool pz.1, .slice pz.2.1 pz.2.2.1 pz.2.2.2] 39)).setCells b (k * 2) [.bool pz.1, .slice pz.2.1 pz.2.2.1 pz.2.2.2] = w7 := ⟨_, rfl⟩; have hI7 := HI6.out.app hbl hcl hkN HZ6.out w7 hw7; simp only [Nat.zero_add]; rw [hw7]; have g2 := hI7.1.cell 2; have gf2 := hI7.1.free 2; simp only [List.getElem?_cons_zero, List.getElem?_cons_succ] at g2; have HI7 := Lib.hid hI7; clear hI7 hw7)
        | (go_simp; go_at_call 20; refine (ILeast_c (av px) x _ (IntAt.below (w := w5) Hnx.out (Below.refl _ _).drew)).mono ?_; rintro e w6 ⟨⟨vz, rfl, hvz⟩, hb6⟩; obtain ⟨pz, rfl⟩ := NumAt.parts hvz.num; have HZ6 := Lib.hid hvz.num; unfold av at *; have hI6 : MatI w b m n c N cu w6 := ⟨RowAt.below (w := w5.drew) HIa.out.box hb6 HIa.out.box.lt, RowN.below (w := w5.drew) HIa.out.row hb6, RowAt.below (w := w5.drew) HIa.out.res hb6 HIa.out.res.lt, HIa.out.bel.drew.trans (hb6.mono HIa.out.bel.size)⟩; have HI6 := Lib.hid hI6; clear hI6; have k2 := HI6.out.box.cell 2; rw [hcl] at k2; have k3 := (HI6.out.box.alloc (.cells #[.bool pz.1, .slice pz.2.1 pz.2.2.1 pz.2.2.2] 39)).cell 2; rw [hcl] at k3; simp only [List.getElem?_cons_zero, List.getElem?_cons_succ] at k2 k3; clear hb6 hvz))
       all_goals go_wp2
       all_goals refine ⟨⟨j + 1, by omega, by go_num, Lib.hid ?_⟩, ?_⟩
       all_goals first
        | (rw [HCU.out]; exact HI7.out.2)
        | (simp [intOf]; omega)
     · obtain rfl : j = c := by omega
       go_wp2;go_roundw
       case rel =>
        refine ⟨i + 1, by omega, by go_num, Lib.hid ?_⟩;rw [flatten_take_succ hix];have h9 := hIq.out;rw [List.take_of_length_le (l := xss[i]) (by rw [HXL.out]; exact Nat.le_refl _)] at h9;exact h9
       case measure => simp [intOf]; omega
  · obtain rfl : i = n := by omega
    have hce : (xss.take i).flatten = xss.flatten := by rw [List.take_of_length_le (by omega)]
    have HCE := Lib.hid hce; clear hce;have hcl : (xss.take i).flatten.length = N := by rw [HCE.out, flatten_len HC.out, hn]; exact HN.out
    have c0 := hIr.out.box.cell 0;have c1 := hIr.out.box.cell 1;have c2 := hIr.out.box.cell 2;have d0 := hIr.out.res.cell 0;have d1 := hIr.out.res.cell 1;have d2 := hIr.out.res.cell 2;have f0 := hIr.out.res.free 0;have f1 := hIr.out.res.free 1;have f2 := hIr.out.res.free 2;rw [hcl] at c2;simp only [List.getElem?_cons_zero, List.getElem?_cons_succ] at c0 c1 c2 d0 d1 d2;clear hcl;go_wp2;have hrm := hIr.out.row;rw [HCE.out, flatten_len HC.out, hn, HN.out, Nat.sub_self] at hrm;simp only [List.replicate_zero, List.append_nil] at hrm;refine bodyPost_ret (results_mat (p := 4) (by kernel_rfl) _ _ w.heap.size _ _ _ rfl (hIr.out.res.set3 (.int .i64 (i : Int)) (.int .i64 (c : Int)) (.slice (some ⟨b, 0, none⟩) N N))) rfl ?_;exact ⟨⟨b, rfl, by omega, hrm.setMat hIr.out.res (i : Int) (c : Int) _ _ _⟩, ((hIr.out.bel.setCell (p := ⟨w.heap.size, 0, none⟩) (Nat.le_refl _) _).setCell (p := ⟨w.heap.size, 1, none⟩) (Nat.le_refl _) _).setCell (p := ⟨w.heap.size, 2, none⟩) (Nat.le_refl _) _⟩
theorem results_mat_err {fn : Func} {p q : Tmp} (h : fn.results = #[.cell p 24, .tmp q]) (tmps : Array Value) (w : World) (g : Nat) (a b c : Value) (hp : tmps.getD p undef = .pointer (some ⟨g, 0, none⟩)) (hr : RowAt w g 24 [a, b, c]) :
 (results fn tmps).run Try.prog w = .ok (.tuple #[.agg #[a, b, c], tmps.getD q undef]) w := results_mat_tmp h tmps w g a b c hp hr
theorem RowN.lsAt {w : World} {b : Nat} {xs : List Int} (h : RowN w b xs) {L : Nat} (hL : ∀ x ∈ xs, wlen x.natAbs <= L) : LsAt w L (some ⟨b, 0, none⟩) xs := by
 intro _;refine ⟨b, 0, rfl, h.lt, fun i hi => ?_⟩;obtain ⟨p, h0, h1, hn⟩ := h.get hi;exact ⟨p, by simpa using h0, by simpa using h1, hn.int (hL _ (List.getElem_mem hi))⟩
theorem MatN.rowsAt {w : World} {o : Nat} {R : List Hd} (h : MatN w o R) {L : Nat} (hL : ∀ r ∈ R, ∀ x ∈ r.xs, wlen x.natAbs <= L) (k : Nat) (hk : k <= R.length) : RowsAt w L o ((R.take k).map Hd.xs) := by
 refine ⟨h.lt, fun i hi => ?_⟩;have hi' : i < R.length := by simp at hi; omega
 have hm : R[i] ∈ R := List.getElem_mem hi';refine ⟨some ⟨R[i].blk, 0, none⟩, R[i].cap, ?_, ?_⟩
 · rw [h.hdr hi'];simp [Hd.hdr]
 · have := (h.row _ hm).lsAt (hL _ hm);simpa using this
theorem ent_words {R : List Hd} {D : Nat} (h : ∀ i b, (ent R i b).natAbs < W ^ D) : ∀ r ∈ R, ∀ x ∈ r.xs, wlen x.natAbs <= D := by
 intro r hr x hx;obtain ⟨i, hi, rfl⟩ := List.getElem_of_mem hr;obtain ⟨j, hj, rfl⟩ := List.getElem_of_mem hx;have := h i j;rw [ent_get hi, gd_lt _ _ hj] at this;exact wlen_le_of_lt this
abbrev hW (m : Nat) : Nat := hermW 66 m
set_option maxRecDepth 100000 in
set_option maxHeartbeats 4000000 in
theorem Form_c (r c m : Nat) (ao : Option Addr) (len cap : Nat) (xs : List Int) (w : World) (hr : r <= 64) (hc : c <= 64) (h : LsAt w 17592186044415 ao xs) (hm : ∀ x ∈ xs, x.natAbs < W ^ m) (hm1 : m <= 140000000) (hl : len = xs.length) (hs : xs.length = r * c) :
 Calls Try.prog 25 #[.agg #[.int .i64 (r : Int), .int .i64 (c : Int), .slice ao len cap]] w fun e w' => (∃ b hs k l, e = .returned (.tuple #[.agg #[.int .i64 (r : Int), .int .i64 (c : Int), .slice (some ⟨b, 0, none⟩) (r * c) (r * c)], .int .i64 0]) /\ w.heap.size <= b /\ RowN w' b hs /\ IsHnf r c xs hs k l /\ ∀ x ∈ hs, x.natAbs < W ^ hW m) /\ Below w.heap.size w w' := by
 subst hl;have hlad : ladW 66 m <= 4000000000000 := by unfold ladW hermW; omega
 have hhw : hW m <= 17592186044415 := by unfold hW hermW; omega
 have hwl : ∀ x ∈ xs, wlen x.natAbs <= 17592186044415 := fun x hx => Nat.le_trans (wlen_le_of_lt (hm x hx)) (by omega);have HXS := Lib.hid h; clear h;have HLad := Lib.hid (And.intro hlad (And.intro hhw hwl)); clear hlad hhw hwl;have HMM := Lib.hid hm; clear hm;have hsnd : soundM (r : Int) (c : Int) xs.length = true := by
  unfold soundM sideOk;rw [hs]; simp; omega
 have HS := Lib.hid hs; clear hs;have HCK := Lib.hid (chkM_ok hsnd); clear hsnd;go_enter Try.func25, Try.ntmps25;go_wp2_with fail
 obtain ⟨r1, r2, hb⟩ := two_new w #[.int .i64 (r : Int), .int .i64 (c : Int), .slice ao xs.length cap] #[.int .i64 0, .int .i64 0, .slice none 0 0] 24 24;generalize (w.alloc (.cells #[.int .i64 (r : Int), .int .i64 (c : Int), .slice ao xs.length cap] 24)).alloc (.cells #[.int .i64 0, .int .i64 0, .slice none 0 0] 24) = w2 at *;refine (Check_c (r : Int) (c : Int) ao xs.length cap _ (by omega) (by omega)).mono ?_;rintro e w3 ⟨rfl, hb3⟩;rw [HCK.out];have R1 := Lib.hid (r1.below hb3 r1.lt);have R2 := Lib.hid (r2.below hb3 r2.lt);have L3 := Lib.hid ((HXS.out.below hb).below hb3);have B3 := Lib.hid (hb.trans (hb3.mono hb.size));have hs2 : w.heap.size + 1 < w3.heap.size := R2.out.lt;have e0 : w3.cell? ⟨w.heap.size, 0, none⟩ = some (.int .i64 (r : Int)) := R1.out.cell 0;have e1 : w3.cell? ⟨w.heap.size, 1, none⟩ = some (.int .i64 (c : Int)) := R1.out.cell 1;have e2 : w3.cell? ⟨w.heap.size, 2, none⟩ = some (.slice ao xs.length cap) := R1.out.cell 2;clear r1 r2 hb hb3;go_wp2_with fail
 refine (callsIn_wide.1 (lines_c r c ao xs.length cap xs w3 hr hc L3.out HLad.out.2.2 rfl HS.out)).mono ?_;rintro e w4 ⟨⟨o, R, rfl, hM, hRl, hRx, hob, hRb⟩, hb4⟩;obtain ⟨hSh, hE⟩ := ent_rows hRl HS.out hRx;obtain ⟨k, R', hRed, hOk⟩ := reduce_ok (N := 66) (B := 4000000000000) (m := m) hSh (fun i b => by rw [hE]; exact matE_bound (pw_pos m) HMM.out i b) (by omega) (by omega) HLad.out.1;have hlR' : R'.length = r := hOk.len.trans hRl;obtain ⟨l, hH, hHb⟩ := hnf_of hRl hE hOk;have hred := reduced_c o r 4000000000000 c k R R' w4 hM (Nat.le_refl _) hRed (by omega) (by omega);rw [hRl] at hred;have HRed := Lib.hid hred; clear hred;have HOk := Lib.hid hOk; clear hOk;have HH := Lib.hid (And.intro hH hHb); clear hH hHb;have R14 := Lib.hid (R1.out.below hb4 R1.out.lt);have R24 := Lib.hid (R2.out.below hb4 R2.out.lt);have B4 := Lib.hid (B3.out.trans (hb4.mono B3.out.size));have HRb := Lib.hid (And.intro hob hRb);clear hRed hM hb4 e0 e1 e2 hSh hE hRx hob hRb R1 R2 L3 B3;rw [hRl];go_wp2_with fail
 refine HRed.out.mono ?_;rintro e w5 ⟨rfl, hM5, hC5⟩;rw [hlR'];have hown : ∀ q, (q = o ∨ ∃ x ∈ R, x.blk = q) -> w3.heap.size <= q := by
  rintro q (rfl | ⟨x, hx, rfl⟩)
  · exact HRb.out.1
  · exact HRb.out.2 x hx
 have hns : ∀ q, q < w3.heap.size -> ¬ (q = o ∨ ∃ x ∈ R, x.blk = q) := fun q hq h => by have := hown q h; omega
 have R15 := Lib.hid (hC5.row R14.out (hns _ (by omega)));have R25 := Lib.hid (hC5.row R24.out (hns _ hs2));have B5 : Hid (Below w.heap.size w w5) := Lib.hid (B4.out.trans (hC5.to_below (B := w.heap.size) (fun q hq => by have := hown q hq; omega) B4.out.size));have hrows := hM5.rowsAt (L := 17592186044415) (fun x hx y hy => Nat.le_trans (ent_words HOk.out.bd x hx y hy) HLad.out.2.1) r (by omega);rw [List.take_of_length_le (by omega)] at hrows;have HRows := Lib.hid hrows; clear hrows;have c1 : w5.cell? ⟨w.heap.size, 1, none⟩ = some (.int .i64 (c : Int)) := R15.out.cell 1;have hsh5 : ∀ x ∈ R'.map Hd.xs, x.length = c := fun x hx => by
  obtain ⟨q, hq, rfl⟩ := List.mem_map.1 hx; exact HOk.out.sh q hq
 clear hM5 hC5 R14 R24 B4 HRed hown hns;go_wp2_with fail
 refine (matrix_c o r r c (R'.map Hd.xs) w5 HRows.out (by rw [List.length_map, hlR']) hsh5 (by omega) (by omega)).mono ?_;rintro e w6 ⟨⟨b, rfl, hbb, hRb6⟩, hb6⟩;have R26 := Lib.hid (R25.out.below hb6 R25.out.lt);have B6 := Lib.hid (B5.out.trans (hb6.mono B5.out.size));have HR6 := Lib.hid hRb6;have hs5 : w.heap.size <= w5.heap.size := B5.out.size;clear hRb6 hb6 c1;have z0 := R26.out.cell 0;have z1 := R26.out.cell 1;have z2 := R26.out.cell 2;have y0 := R26.out.free 0;have y1 := R26.out.free 1;have y2 := R26.out.free 2;go_wp2;refine bodyPost_ret (results_mat_err (p := 2) (q := 3) (by kernel_rfl) _ _ (w.heap.size + 1) _ _ _ rfl (R26.out.set3 (.int .i64 (r : Int)) (.int .i64 (c : Int)) (.slice (some ⟨b, 0, none⟩) (r * c) (r * c)))) rfl ?_;exact ⟨⟨b, _, k, l, rfl, by omega, HR6.out.setMat R26.out (r : Int) (c : Int) _ _ _, HH.out.1, HH.out.2⟩, ((B6.out.setCell (p := ⟨w.heap.size + 1, 0, none⟩) (Nat.le_succ _) _).setCell (p := ⟨w.heap.size + 1, 1, none⟩) (Nat.le_succ _) _).setCell (p := ⟨w.heap.size + 1, 2, none⟩) (Nat.le_succ _) _⟩
def trnF (c : Nat) (xs : List Int) (i j : Nat) : Int := gi xs (j * c + i)
def trn (r c : Nat) (xs : List Int) : List Int := tabK r (trnF c xs) (c * r)
theorem trn_length (r c : Nat) (xs : List Int) : (trn r c xs).length = c * r := tabK_length ..
theorem trn_gi {r c i j : Nat} (xs : List Int) (hi : i < c) (hj : j < r) : gi (trn r c xs) (i * r + j) = gi xs (j * c + i) := tabK_matE (trnF c xs) hi hj
theorem trn_mem {r c : Nat} {xs : List Int} (hs : xs.length = r * c) {x : Int} (h : x ∈ trn r c xs) : x ∈ xs := by
 unfold trn tabK at h;obtain ⟨q, hq, rfl⟩ := List.mem_map.1 h;have hq := List.mem_range.1 hq;have hr : 0 < r := by
  rcases Nat.eq_zero_or_pos r with h | h
  · subst h; simp at hq
  · exact h
 refine gi_mem ?_;rw [hs];exact idxL (Nat.mod_lt _ hr) (Nat.div_lt_of_lt_mul (by rw [Nat.mul_comm]; exact hq))
set_option maxRecDepth 100000 in
set_option maxHeartbeats 1000000 in
theorem Turn1n_c (r c i j g : Nat) (ao : Option Addr) (cap L : Nat) (xs : List Int) (w : World) (hr : r <= 64) (hc : c <= 64) (hi : i < c) (hj : j < r) (hg : RowAt w g 24 [.int .i64 (r : Int), .int .i64 (c : Int), .slice ao xs.length cap]) (hA : LsAt w L ao xs) (hL : L <= 17592186044415) (hs : xs.length = r * c) :
 Calls Try.prog 32 #[.int .i64 (i : Int), .int .i64 (j : Int), .pointer (some ⟨g, 0, none⟩)] w fun e w' => (∃ v, e = .returned v /\ OwnI w' w.heap.size v (trnF c xs i j)) /\ Below w.heap.size w w' := by
 have hlt := idxL (r := r) (c := c) hj hi;have hrc : r * c <= 4096 := Nat.mul_le_mul hr hc;obtain ⟨bx, ox, rfl⟩ := hA.pos (i := j * c + i) (by rw [hs]; exact hlt);obtain ⟨A, hA'⟩ : ∃ A, j * c = A := ⟨_, rfl⟩;obtain ⟨B, hB⟩ : ∃ B, A + i = B := ⟨_, rfl⟩;have hBl : B < xs.length := by rw [hs, <- hB, <- hA']; exact hlt
 have hBl' : (B : Int) < (xs.length : Int) := by omega
 have hAs : j * c < 9223372036854775808 := by omega
 have hgl : A + i < 9223372036854775807 := by omega
 have e0 : trnF c xs i j = gi xs B := by rw [trnF, hA', hB]
 rw [e0];have HB : Hid (B < xs.length) := Lib.hid hBl;clear hs hlt hrc e0 hBl;refine funW (S0 := fun _ => False) Try.func32 ((((Fr.nil _ w).l hA (by simp)).cl (hg.cell 2) (by simp [En.wr])).cl (hg.cell 1) (by simp [En.wr])) ?_;refine goW ?_;refine rW [] ?_;refine aW fun g5 => ?_;refine eW ?_;refine numW (L := L) (xs := xs) (b := bx) (o := ox) B (by simp) HB.out fun p => ?_;refine goW ?_;refine rW [] ?_;refine dW ?_;refine dW ?_;refine dW ?_;refine dW ?_;refine dW ?_;refine dE ((mulI (a := j) (b := c) hAs).trans (by rw [hA'])) ?_;refine dW ?_;refine dE ((sumI (a := A) (b := i) hgl).trans (by rw [hB])) ?_;refine dW ?_;refine dW ?_;refine cN (fun w' H => ILeast_c (av p) _ w' (H.m2.mono hL)) fun q => ?_;refine sW ?_;refine eW ?_;refine goW ?_;refine fin1 fun w' H => ?_;exact ⟨_, rvI H.m4, ⟨_, rfl, H.m0⟩, H.below⟩
set_option maxRecDepth 100000 in
set_option maxHeartbeats 1000000 in
theorem MTurn2_c (r c : Nat) (ao : Option Addr) (cap L : Nat) (xs : List Int) (w : World) (hr : r <= 64) (hc : c <= 64) (hA : LsAt w L ao xs) (hL : L <= 17592186044415) (hs : xs.length = r * c) :
 Calls Try.prog 18 #[.agg #[.int .i64 (r : Int), .int .i64 (c : Int), .slice ao xs.length cap]] w fun e w' => (∃ p : Option Addr × Nat, e = .returned (.tuple #[.agg #[.int .i64 (c : Int), .int .i64 (r : Int), .slice p.1 (c * r) p.2], .int .i64 0]) /\ LsN w' p.1 (trn r c xs) /\ True /\ ∀ b o, p.1 = some ⟨b, o, none⟩ -> w.heap.size <= b) /\ Below w.heap.size w w' := by
 have hC : ∀ w', Calls Try.prog 31 #[.agg #[.int .i64 (r : Int), .int .i64 (c : Int), .slice ao xs.length cap]] w' fun e w'' => e = .returned (.int .i64 0) /\ Below w'.heap.size w' w'' := fun w' => by
  have := Check_c (r : Int) (c : Int) ao xs.length cap w' (by omega) (by omega);rw [chkM_ok (by unfold soundM sideOk; rw [hs]; simp; omega)] at this; exact this
 have HS : Hid (xs.length = r * c) := Lib.hid hs;clear hs;refine funW (S0 := fun _ => False) Try.func18 ((Fr.nil _ w).l hA (by simp)) ?_;refine goW ?_;refine rW [] ?_;refine aW fun g1 => ?_;refine aW fun g2 => ?_;refine dW ?_;refine eW ?_;refine goW ?_;refine rW [] ?_;refine dW ?_;refine cV (fun w' H => hC w') ?_;refine dW ?_;refine eW ?_;refine goW ?_;refine rW [] ?_;refine dW ?_;refine dW ?_;refine eW ?_;refine goW ?_;refine cfW ?_;refine goW ?_;refine rW [] ?_;refine dW ?_;refine dW ?_;refine dW ?_;refine dW ?_;refine fW ?_;refine cLn (α := Option Addr × Nat) (mk := fun p => .agg #[.int .i64 (c : Int), .int .i64 (r : Int), .slice p.1 (c * r) p.2]) (ao := fun p => p.1) (xs := fun _ => trn r c xs) (A := fun _ => True)
  (fun w' H => (Build1_c 32 (fun _ _ => by go_simp) c r g1 (trnF c xs) w' hc hr (fun i j w2 hi hj hb => by
   have h1 : RowAt w' g1 24 [.int .i64 (r : Int), .int .i64 (c : Int), .slice ao xs.length cap] := H.m1;have h2 : LsAt w' L ao xs := H.m2;exact Turn1n_c r c i j g1 ao cap L xs w2 hr hc hi hj (h1.below hb h1.lt) (h2.below hb) hL HS.out)).mono (by
    rintro e w3 ⟨⟨ao', cap', rfl, hl, _, hS⟩, hb⟩;exact ⟨⟨(ao', cap'), rfl, hl, trivial, hS⟩, hb⟩)) fun q => ?_
 refine sW ?_;refine dW ?_;refine eW ?_;refine goW ?_;refine fin2 fun w' H => ?_;exact ⟨_, _, rvM H.m2, rvT, ⟨q, rfl, H.m0, trivial, (show True /\ ∀ b o, q.1 = some ⟨b, o, none⟩ -> w.heap.size <= b from H.m1).2⟩, H.below⟩
theorem Form_n (r c m : Nat) (ao : Option Addr) (cap : Nat) (xs : List Int) (w : World) (hr : r <= 64) (hc : c <= 64) (h : LsAt w 17592186044415 ao xs) (hm : ∀ x ∈ xs, x.natAbs < W ^ m) (hm1 : m <= 140000000) (hs : xs.length = r * c) :
 Calls Try.prog 25 #[.agg #[.int .i64 (r : Int), .int .i64 (c : Int), .slice ao (r * c) cap]] w fun e w' => (∃ p : Nat × List Int, e = .returned (.tuple #[.agg #[.int .i64 (r : Int), .int .i64 (c : Int), .slice (some ⟨p.1, 0, none⟩) (r * c) (r * c)], .int .i64 0]) /\ LsN w' (some ⟨p.1, 0, none⟩) p.2 /\ ((∃ k l, IsHnf r c xs p.2 k l) /\ p.2.length = r * c /\ ∀ x ∈ p.2, x.natAbs < W ^ hW m) /\ ∀ b o, some (⟨p.1, 0, none⟩ : Addr) = some ⟨b, o, none⟩ -> w.heap.size <= b) /\ Below w.heap.size w w' :=
 (Form_c r c m ao (r * c) cap xs w hr hc h hm hm1 hs.symm hs).mono fun e w'' ⟨⟨b, hs', k, l, he, hb, hR, hH, hB⟩, hbl⟩ => ⟨⟨(b, hs'), he, hR.lsN, ⟨⟨k, l, hH⟩, hH.len, hB⟩, fun b' o e => by cases e; exact hb⟩, hbl⟩
theorem lsN_at {w : World} {m : Nat} {ao : Option Addr} {xs : List Int} (h : LsN w ao xs) (hm : ∀ x ∈ xs, x.natAbs < W ^ m) (h1 : m <= 17592186044415) : LsAt w 17592186044415 ao xs := h.lsAt fun x hx => Nat.le_trans (wlen_le_of_lt (hm x hx)) h1
set_option maxRecDepth 100000 in
set_option maxHeartbeats 1000000 in
theorem STurned_c (r c m : Nat) (ao : Option Addr) (cap : Nat) (xs : List Int) (w : World) (hr : r <= 64) (hc : c <= 64) (hA : LsAt w 17592186044415 ao xs) (hm : ∀ x ∈ xs, x.natAbs < W ^ m) (hm1 : m <= 140000000) (hs : xs.length = r * c) :
 Calls Try.prog 27 #[.agg #[.int .i64 (r : Int), .int .i64 (c : Int), .slice ao (r * c) cap]] w fun e w' => (∃ p : List Int × Option Addr × Nat, e = .returned (.agg #[.int .i64 (r : Int), .int .i64 (c : Int), .slice p.2.1 (r * c) p.2.2]) /\ LsN w' p.2.1 (trn c r p.1) /\ ((∃ k l, IsHnf c r (trn r c xs) p.1 k l) /\ p.1.length = c * r /\ ∀ x ∈ p.1, x.natAbs < W ^ hW m) /\ ∀ b o, p.2.1 = some ⟨b, o, none⟩ -> w.heap.size <= b) /\ Below w.heap.size w w' := by
 have hT1 := fun w' h => MTurn2_c r c ao cap 17592186044415 xs w' hr hc h (Nat.le_refl _) hs;rw [hs] at hT1;have hF := fun w' ao cap (h : LsN w' ao (trn r c xs)) => Form_n c r m ao cap (trn r c xs) w' hc hr (lsN_at h (fun x hx => hm x (trn_mem hs hx)) (by omega)) (fun x hx => hm x (trn_mem hs hx)) hm1 (trn_length ..);have hhw : hW m <= 17592186044415 := by unfold hW hermW; omega
 have hT2 := fun w' ao cap (ts : List Int) (h : LsN w' ao ts) (hl : ts.length = c * r) (hB : ∀ x ∈ ts, x.natAbs < W ^ hW m) => by
  have := MTurn2_c c r ao cap 17592186044415 ts w' hc hr (lsN_at h hB hhw) (Nat.le_refl _) hl;rw [hl] at this; exact this
 obtain ⟨M, hM⟩ : ∃ M, hW m = M := ⟨_, rfl⟩;rw [hM] at hF hT2 ⊢;have HT1 := Lib.hid hT1;have HF := Lib.hid hF;have HT2 := Lib.hid hT2;clear hT1 hF hT2 hM hhw hs hm;refine funW (S0 := fun _ => False) Try.func27 ((Fr.nil _ w).l hA (by simp)) ?_;refine goW ?_;refine rW [] ?_;refine aW fun g1 => ?_;refine aW fun g2 => ?_;refine eW ?_;refine goW ?_;refine rW [] ?_;refine dW ?_;refine cLn (α := Option Addr × Nat) (mk := fun p => .tuple #[.agg #[.int .i64 (c : Int), .int .i64 (r : Int), .slice p.1 (c * r) p.2], .int .i64 0]) (ao := fun p => p.1) (xs := fun _ => trn r c xs) (A := fun _ => True) (fun w' H => HT1.out w' H.m2) fun q1 => ?_;refine dW ?_;refine dW ?_;refine dW ?_;refine aW fun g3 => ?_;refine sG ?_;refine dW ?_;refine eW ?_;refine goW ?_;refine rW [] ?_;refine dW ?_;refine cLn (α := Nat × List Int) (mk := fun p => .tuple #[.agg #[.int .i64 (c : Int), .int .i64 (r : Int), .slice (some ⟨p.1, 0, none⟩) (c * r) (c * r)], .int .i64 0]) (ao := fun p => some ⟨p.1, 0, none⟩) (xs := fun p => p.2) (A := fun p => (∃ k l, IsHnf c r (trn r c xs) p.2 k l) /\ p.2.length = c * r /\ ∀ x ∈ p.2, x.natAbs < W ^ M) (fun w' H => HF.out w' _ _ H.m1) fun q2 => ?_;obtain ⟨b, ts⟩ := q2;refine dW ?_;refine dW ?_;refine dW ?_;refine sW ?_;refine eW ?_;refine prW (A := ((∃ k l, IsHnf c r (trn r c xs) ts k l) /\ ts.length = c * r /\ ∀ x ∈ ts, x.natAbs < W ^ M) /\ ∀ b' o, some (⟨b, 0, none⟩ : Addr) = some ⟨b', o, none⟩ -> w.heap.size <= b') (by simp) fun hA => ?_;have HH := Lib.hid hA.1;clear hA;refine pickW (es' := [.row g3 24 [.int .i64 (c : Int), .int .i64 (r : Int), .slice (some ⟨b, 0, none⟩) (c * r) (c * r)], .row g2 24 [.int .i64 0, .int .i64 0, .slice none 0 0], .lsn (some ⟨b, 0, none⟩) ts]) ?_;refine goW ?_;refine rW [] ?_;refine dW ?_;refine cLn (α := Option Addr × Nat) (mk := fun p => .tuple #[.agg #[.int .i64 (r : Int), .int .i64 (c : Int), .slice p.1 (r * c) p.2], .int .i64 0]) (ao := fun p => p.1) (xs := fun _ => trn c r ts) (A := fun _ => True) (fun w' H => HT2.out w' _ _ ts H.m2 HH.out.2.1 HH.out.2.2) fun q3 => ?_;refine dW ?_;refine dW ?_;refine dW ?_;refine sW ?_;refine eW ?_;refine pickW (es' := [.row g3 24 [.int .i64 (r : Int), .int .i64 (c : Int), .slice q3.1 (r * c) q3.2], .row g2 24 [.int .i64 0, .int .i64 0, .slice none 0 0], .lsn q3.1 (trn c r ts), .pr (True /\ ∀ b o, q3.1 = some ⟨b, o, none⟩ -> w.heap.size <= b)]) ?_;refine goW ?_;refine rW [] ?_;refine dW ?_;refine sW ?_;refine eW ?_;refine goW ?_;refine fin1 fun w' H => ?_;exact ⟨_, rvM H.m1, ⟨(ts, q3), rfl, H.m2, HH.out, (show True /\ ∀ b o, q3.1 = some ⟨b, o, none⟩ -> w.heap.size <= b from H.m3).2⟩, H.below⟩
def nt (l : List Nat) : List Int := l.map fun n : Nat => (n : Int)
theorem nt_length (l : List Nat) : (nt l).length = l.length := by simp [nt]
theorem gi_nt (l : List Nat) (i : Nat) : gi (nt l) i = ((l.getD i 0 : Nat) : Int) := by
 unfold gi nt;rw [List.getD_eq_getElem?_getD, List.getElem?_map, List.getD_eq_getElem?_getD];cases l[i]? <;> rfl
theorem nt_set (l : List Nat) (i v : Nat) : (nt l).set i (v : Int) = nt (l.set i v) := by simp [nt, List.map_set]
theorem NsAt.nat {w : World} {ps : List P4} {l : List Nat} (h : NsAt w ps (nt l)) {i : Nat} (hi : i < l.length) : NumAt w (av (gp ps i)) ((l.getD i 0 : Nat) : Int) := by
 have := h.2 i (by rw [h.1, nt_length]; exact hi)
 rwa [gi_nt] at this
structure C1X where
 i : Nat
 ps : List P4
 zs : List Int
structure C1I (xs : List Int) (n : Nat) (z : C1X) : Prop where
 hi : z.i <= n
 hp : z.ps.length = n
 hz : z.zs.length = n
 ok : ∀ k, k < n -> gi z.zs k = if k < z.i then (((gi xs k).natAbs : Nat) : Int) else 0
structure C2X where
 i : Nat
 pre : List Nat
 suf : List Nat
 ps : List P4
structure C2I (R : List Nat) (P n : Nat) (z : C2X) : Prop where
 hi : z.pre.length = z.i
 hp : z.ps.length = n
 hl : (z.pre ++ z.suf).length = n
 fin : z.pre ++ chProg z.suf = R
 dv : ∀ y ∈ z.pre ++ z.suf, Dv P y
structure C3X where
 j : Nat
 g : Nat
 mid : List Nat
 suf : List Nat
 ps : List P4
structure C3I (R : List Nat) (P n i : Nat) (pre : List Nat) (z : C3X) : Prop where
 hj : i + 1 + z.mid.length = z.j
 hp : z.ps.length = n
 hl : (pre ++ z.g :: (z.mid ++ z.suf)).length = n
 fin : chFin pre z.g z.mid z.suf = R
 dv : ∀ y ∈ pre ++ z.g :: (z.mid ++ z.suf), Dv P y
theorem getD_at (a : List Nat) (x : Nat) (b : List Nat) : (a ++ x :: b).getD a.length 0 = x := by simp
theorem set_at (a : List Nat) (x y : Nat) (b : List Nat) : (a ++ x :: b).set a.length y = a ++ y :: b := by simp
set_option maxRecDepth 100000 in
set_option maxHeartbeats 4000000 in
theorem SChain_c (ao : Option Addr) (cap L : Nat) (xs : List Int) (w : World) (hA : LsAt w L ao xs) (hL : L <= 17592186044415) (hn : xs.length <= 8796093022208) (hP : wlen (prodNZ (xs.map Int.natAbs)) <= 8796093022207) :
 Calls Try.prog 11 #[.slice ao xs.length cap] w fun e w' => (∃ b, e = .returned (.slice (some ⟨b, 0, none⟩) xs.length xs.length) /\ w.heap.size <= b /\ RowN w' b (nt (chProg (xs.map Int.natAbs)))) /\ Below w.heap.size w w' := by
 obtain ⟨R, hR⟩ : ∃ R, chProg (xs.map Int.natAbs) = R := ⟨_, rfl⟩;have hdv0 : ∀ y ∈ xs.map Int.natAbs, Dv (prodNZ (xs.map Int.natAbs)) y := fun y hy => Dv.of_mem hy;have hP0 := prodNZ_pos (xs.map Int.natAbs);obtain ⟨P, hPP⟩ : ∃ P, prodNZ (xs.map Int.natAbs) = P := ⟨_, rfl⟩;obtain ⟨n, hnn⟩ : ∃ n, xs.length = n := ⟨_, rfl⟩;rw [hPP] at hdv0 hP hP0;rw [hR, hnn];rw [hnn] at hn;have hb : ∀ y, Dv P y -> wlen y <= 8796093022207 := fun y hy => Nat.le_trans (wlen_mono (hy.le hP0)) hP;have HB := Lib.hid hb;have HN := Lib.hid hnn;have HR := Lib.hid hR;have HD := Lib.hid hdv0;clear hb hnn hR hPP hP hP0 hdv0;refine funW (S0 := fun _ => False) Try.func11 ((Fr.nil _ w).l hA (by simp)) ?_;refine goW ?_;refine rW [] ?_;refine dW ?_;refine eW ?_;refine goW ?_;refine rW [] ?_;refine dW ?_;refine dW ?_;refine mN n n rfl rfl (Nat.le_refl _) hn fun b => ?_;refine dW ?_;refine eW ?_;refine addW (e := .ns (List.replicate n p0) (List.replicate n 0)) (fun w' _ => NsAt.zeros w' n) ?_;refine goW ?_;refine rW [] ?_;refine dW ?_;refine dW ?_;refine dW ?_;refine eW ?_;refine goW ?_;refine loopW (X := C1X) (C1I xs n) (fun z => n - z.i) (fun z => [(14, .int .i64 (z.i : Int)), (13, .int .i64 (n : Int)), (12, .slice ao n cap), (3, .slice (some ⟨b, 0, none⟩) n n)]) (fun z => [.ns z.ps z.zs, .row b 39 (rn z.ps []), .ls L ao xs]) ⟨0, List.replicate n p0, List.replicate n 0⟩ ⟨Nat.zero_le _, by simp, by simp, fun k hk => by rw [gi_eq (by simpa using hk)]; simp⟩ fun z hz => ?_;obtain ⟨i, ps, zs⟩ := z;obtain ⟨hi, hp, hz, hok⟩ := hz
 replace hi : i <= n := hi
 replace hp : ps.length = n := hp
 replace hz : zs.length = n := hz
 replace hok : ∀ k, k < n -> gi zs k = if k < i then (((gi xs k).natAbs : Nat) : Int) else 0 := hok
 have HZ := Lib.hid (And.intro hp hz);clear hp hz;by_cases h : i < n
 · obtain ⟨bx, ox, rfl⟩ := hA.pos (i := i) (by rw [HN.out]; exact h);have h01 : (i : Int) < (n : Int) := by omega
   refine goW ?_;refine rW [] ?_;refine dB true ?_;refine eW ?_;refine goW ?_;refine ctW ?_;refine numW (L := L) (xs := xs) (b := bx) (o := ox) i (by simp) (by rw [HN.out]; exact h) fun p => ?_;refine goW ?_;refine rW [] ?_;refine dW ?_;refine dW ?_;refine dW ?_;refine aW fun g5 => ?_;refine dW ?_;refine sG ?_;refine eW ?_;refine goW ?_;refine rW [] ?_;refine dW ?_;refine dW ?_;refine dW ?_;refine cN (fun w' H => IAbs_c (av p) _ w' (H.m3.mono hL)) fun q => ?_;refine dW ?_;refine moreW (e := .ns (ps.set i q) (zs.set i ((gi xs i).natAbs : Nat))) (fun w' H => NsAt.set H.m5 i H.m0.num) ?_;refine sN i q (by rw [HZ.out.1]; exact h) NoW.nil rfl ?_;refine eW ?_;refine goW ?_;refine rW [] ?_;refine dE (incB (a := i) (by omega)) ?_;refine dW ?_;refine eW ?_;refine goW ?_;refine backW (⟨i + 1, ps.set i q, zs.set i ((gi xs i).natAbs : Nat)⟩ : C1X) ⟨⟨h, by simpa using HZ.out.1, by simpa using HZ.out.2, fun k hk => ?_⟩, by show n - (i + 1) < n - i; omega⟩;show gi (zs.set i ((gi xs i).natAbs : Nat)) k = if k < i + 1 then (((gi xs k).natAbs : Nat) : Int) else 0;rw [gi_set (by rw [HZ.out.2]; exact h)];by_cases e : k = i
   · subst e; rw [if_pos rfl, if_pos (by omega)]
   · rw [if_neg e, hok k hk];by_cases e2 : k < i
     · rw [if_pos e2, if_pos (by omega)]
     · rw [if_neg e2, if_neg (by omega)]
 · obtain rfl : i = n := by omega
   have hzs : zs = nt (xs.map Int.natAbs) := by
    refine List.ext_getElem (by rw [HZ.out.2, nt_length, List.length_map, HN.out]) fun k h1 h2 => ?_;have hk : k < i := by rw [HZ.out.2] at h1; exact h1
    have := hok k hk;rw [if_pos hk, gi_eq h1, gi_eq (by rw [HN.out]; exact hk)] at this;rw [this]; simp [nt]
   subst hzs;clear hok hi;refine goW ?_;refine rW [] ?_;refine dB false ?_;refine eW ?_;refine goW ?_;refine cfW ?_;refine goW ?_;refine rW [] ?_;refine dW ?_;refine dW ?_;refine dW ?_;refine eW ?_;refine goW ?_;refine loopW (X := C2X) (C2I R P i) (fun z => i - z.i) (fun z => [(27, .int .i64 (z.i : Int)), (26, .int .i64 (i : Int)), (3, .slice (some ⟨b, 0, none⟩) i i)]) (fun z => [.row b 39 (rn z.ps []), .ns z.ps (nt (z.pre ++ z.suf))]) ⟨0, [], xs.map Int.natAbs, ps⟩ ⟨rfl, HZ.out.1, by simp [HN.out], HR.out, HD.out⟩ fun z hz => ?_;clear HZ HD HR;obtain ⟨I, pre, suf, ps⟩ := z;obtain ⟨hI, hp, hl, hfin, hdv⟩ := hz
   replace hI : pre.length = I := hI
   replace hp : ps.length = i := hp
   replace hl : (pre ++ suf).length = i := hl
   replace hfin : pre ++ chProg suf = R := hfin
   replace hdv : ∀ y ∈ pre ++ suf, Dv P y := hdv
   cases suf with
   | nil =>
    have e : I = i := by simpa [hI] using hl
    have hfin : pre = R := by simpa [chProg] using hfin
    subst e hfin;clear hl hI hp;refine goW ?_;refine rW [] ?_;refine dB false ?_;refine eW ?_;refine goW ?_;refine cfW ?_;refine goW ?_;refine rW [] ?_;refine dW ?_;refine dW ?_;refine eW ?_;refine goW ?_;refine fin1 fun w' H => ?_;exact ⟨_, rvT, ⟨b, rfl, (H.own _ (List.mem_cons_self ..) rfl _ rfl).elim (fun h => h.elim) id, RowN.mk' H.m0 NoW.nil (by have := H.m1; rw [List.append_nil] at this; exact this)⟩, H.below⟩
   | cons x suf =>
    have hIn : I < i := by simp at hl; omega
    have h01 : (I : Int) < (i : Int) := by omega
    have HL := Lib.hid (And.intro hI (And.intro hp hl));clear hI hp hl;refine goW ?_;refine rW [] ?_;refine dB true ?_;refine eW ?_;refine goW ?_;refine ctW ?_;refine goW ?_;refine rW [] ?_;refine dW ?_;refine dW ?_;refine eW ?_;refine goW ?_;refine rW [] ?_;refine dW ?_;refine dE (incB (a := I) (by omega)) ?_;refine dW ?_;refine eW ?_;refine goW ?_;refine loopW (X := C3X) (C3I R P i I pre) (fun z => z.suf.length) (fun z => [(7, .int .i64 (z.j : Int)), (6, .int .i64 (I : Int)), (27, .int .i64 (I : Int)), (26, .int .i64 (i : Int)), (3, .slice (some ⟨b, 0, none⟩) i i)]) (fun z => [.row b 39 (rn z.ps []), .ns z.ps (nt (pre ++ z.g :: (z.mid ++ z.suf)))]) ⟨I + 1, x, [], suf, ps⟩ ⟨rfl, HL.out.2.1, HL.out.2.2, by rw [chFin_start]; exact hfin, hdv⟩ fun z hz => ?_;have HI := Lib.hid HL.out.1;clear HL hfin hdv;obtain ⟨J, g, mid, suf', ps⟩ := z;obtain ⟨hJ, hp, hl, hfin, hdv⟩ := hz
    replace hJ : I + 1 + mid.length = J := hJ
    replace hp : ps.length = i := hp
    replace hl : (pre ++ g :: (mid ++ suf')).length = i := hl
    replace hfin : chFin pre g mid suf' = R := hfin
    replace hdv : ∀ y ∈ pre ++ g :: (mid ++ suf'), Dv P y := hdv
    cases suf' with
    | nil =>
     have e : J = i := by have := HI.out; simp at hl; omega
     subst e;refine goW ?_;refine rW [] ?_;refine dW ?_;refine dW ?_;refine dW ?_;refine dB false ?_;refine eW ?_;refine goW ?_;refine cfW ?_;refine goW ?_;refine rW [] ?_;refine dE (incB (a := I) (by omega)) ?_;refine dW ?_;refine eW ?_;refine goW ?_;refine backW (⟨I + 1, pre ++ [g], mid, ps⟩ : C2X) ⟨⟨by simp [HI.out], hp, by simpa using hl, by rw [<- hfin, chFin_end], by simpa using hdv⟩, by show J - (I + 1) < J - I; omega⟩ (he := fun w' H => by simpa using H)
    | cons y suf' =>
     obtain ⟨l, hle⟩ : ∃ l, pre ++ g :: (mid ++ y :: suf') = l := ⟨_, rfl⟩;have hll : l.length = i := by rw [<- hle]; exact hl
     have e1 : (pre ++ g :: mid).length = J := by have := HI.out; simp; omega
     have e2 : pre ++ g :: (mid ++ y :: suf') = (pre ++ g :: mid) ++ y :: suf' := by simp
     have eI : l.getD I 0 = g := by rw [<- hle, <- HI.out]; exact getD_at ..
     have eJ : l.getD J 0 = y := by rw [<- hle, e2, <- e1]; exact getD_at ..
     have eS : (l.set J (Nat.lcm g y)).set I (Nat.gcd g y) = pre ++ Nat.gcd g y :: ((mid ++ [Nat.lcm g y]) ++ suf') := by
      rw [<- hle, e2, <- e1, set_at, <- HI.out, List.append_assoc, List.cons_append, set_at]; simp
     have hJn : J < i := by simp at hl; have := HI.out; omega
     have hIJ : I < J := by omega
     have hg : wlen g <= 8796093022207 := HB.out g (hdv g (by simp));have hy : wlen y <= 8796093022207 := HB.out y (hdv y (by simp));have hdv' : ∀ z ∈ pre ++ Nat.gcd g y :: ((mid ++ [Nat.lcm g y]) ++ suf'), Dv P z := by
      have dg := hdv g (by simp);have dy := hdv y (by simp);intro z hz;simp only [List.mem_append, List.mem_cons, List.not_mem_nil, or_false] at hz;rcases hz with hz | rfl | (hz | rfl) | hz
      · exact hdv z (by simp [hz])
      · exact dg.gcd dy
      · exact hdv z (by simp [hz])
      · exact dg.lcm dy
      · exact hdv z (by simp [hz])
     have rI : ∀ w, NsAt w ps (nt l) -> IntAt w 8796093022207 (av (gp ps I)) (g : Int) := fun w h => by
      have := h.nat (i := I) (by rw [hll]; omega);rw [eI] at this; exact this.int hg
     have rJ : ∀ w, NsAt w ps (nt l) -> IntAt w 8796093022207 (av (gp ps J)) (y : Int) := fun w h => by
      have := h.nat (i := J) (by rw [hll]; omega);rw [eJ] at this; exact this.int hy
     have sIJ : ∀ w (p q : P4), NsAt w ps (nt l) -> NumAt w (av p) ((Nat.gcd g y : Nat) : Int) -> NumAt w (av q) ((Nat.lcm g y : Nat) : Int) -> NsAt w ((ps.set J q).set I p) (nt (pre ++ Nat.gcd g y :: ((mid ++ [Nat.lcm g y]) ++ suf'))) := fun w p q h hp hq => by
      have := (h.set J hq).set I hp;rw [nt_set, nt_set, eS] at this; exact this
     have k0 := rn0 [] (ps := ps) (i := I) (by omega);have k1 := rn1 [] (ps := ps) (i := I) (by omega);have k2 := rn0 [] (ps := ps) (i := J) (by omega);have k3 := rn1 [] (ps := ps) (i := J) (by omega);have hfin' := chFin_step pre g y mid suf';rw [hfin] at hfin';have h01 : (I : Int) < (i : Int) := by omega
     have h02 : (J : Int) < (i : Int) := by omega
     have HQ := Lib.hid (And.intro hp (And.intro hfin' (And.intro hdv' (And.intro hJ hl))));rw [show pre ++ (⟨J, g, mid, y :: suf', ps⟩ : C3X).g :: ((⟨J, g, mid, y :: suf', ps⟩ : C3X).mid ++ (⟨J, g, mid, y :: suf', ps⟩ : C3X).suf) = l from hle];clear hp hfin hfin' hdv hdv' hJ hl e1 e2 eI eJ eS hle hll;refine goW ?_;refine rW [] ?_;refine dW ?_;refine dW ?_;refine dW ?_;refine dB true ?_;refine eW ?_;refine goW ?_;refine ctW ?_;refine goW ?_;refine rW [] ?_;refine dW ?_;refine dW ?_;refine dW ?_;refine dW ?_;refine dW ?_;refine dW ?_;refine dW ?_;refine dW ?_;refine cN (x := ((Nat.gcd g y : Nat) : Int)) (fun w' H => BGcd_c (av (gp ps I)) (av (gp ps J)) g y w' ((rI w' H.m1).mono (by omega)) ((rJ w' H.m1).mono (by omega))) fun p46 => ?_;refine aW fun g8 => ?_;refine sG ?_;refine eW ?_;refine goW ?_;refine rW [] ?_;refine dW ?_;refine dW ?_;refine dW ?_;refine dW ?_;refine dW ?_;refine dW ?_;refine dW ?_;refine dW ?_;refine dW ?_;refine dW ?_;refine cN (x := ((Nat.lcm g y : Nat) : Int)) (fun w' H => BLcm_c (av (gp ps I)) (av (gp ps J)) g y 8796093022207 w' (rI w' H.m3) (rJ w' H.m3) (Nat.le_refl _)) fun p57 => ?_;refine dW ?_;refine sN J p57 (by rw [HQ.out.1]; omega) NoW.nil rfl ?_;refine eW ?_;refine goW ?_;refine rW [] ?_;refine dW ?_;refine dW ?_;refine dW ?_;refine dW ?_;refine moreW (e := .ns ((ps.set J p57).set I p46) (nt (pre ++ Nat.gcd g y :: ((mid ++ [Nat.lcm g y]) ++ suf')))) (fun w' H => sIJ w' p46 p57 H.m4 H.m2.num H.m0.num) ?_;refine sN (ps := ps.set J p57) I p46 (by rw [List.length_set, HQ.out.1]; omega) NoW.nil rfl ?_;refine eW ?_;refine goW ?_;refine rW [] ?_;refine dW ?_;refine dE (incB (a := J) (by omega)) ?_;refine dW ?_;refine eW ?_;refine goW ?_;refine backW (⟨J + 1, Nat.gcd g y, mid ++ [Nat.lcm g y], suf', (ps.set J p57).set I p46⟩ : C3X) ⟨⟨by have := HQ.out.2.2.2.1; simp; omega, by simpa using HQ.out.1, by have := HQ.out.2.2.2.2; simp at this ⊢; omega, HQ.out.2.1, HQ.out.2.2.1⟩, by simp⟩
end Go.Proofs.Ytllkjlcdcbilcaa
namespace Go.Proofs.Ytllkjlcdcbilcaa
end Go.Proofs.Ytllkjlcdcbilcaa
namespace Go.Proofs.Ytllkjlcdcbilcaa
open Go.RowKit
def diagN (c k : Nat) (xs : List Int) : List Nat := (diagL c k xs).map Int.natAbs
set_option maxRecDepth 100000 in
set_option maxHeartbeats 2000000 in
theorem SForm_c (r c m : Nat) (ao : Option Addr) (cap : Nat) (xs : List Int) (w : World) (hr : r <= 64) (hc : c <= 64) (h : LsAt w 17592186044415 ao xs) (hm : ∀ x ∈ xs, x.natAbs < W ^ m) (hm1 : m <= 1048576) (hs : xs.length = r * c) (hd : ∀ hs k l, IsHnf r c xs hs k l -> IsDg r c hs) :
 Calls Try.prog 12 #[.agg #[.int .i64 (r : Int), .int .i64 (c : Int), .slice ao xs.length cap]] w fun e w' => (∃ p : List Int × Option Addr × Nat, e = .returned (.tuple #[.agg #[.int .i64 (r : Int), .int .i64 (c : Int), .slice p.2.1 (r * c) p.2.2], .int .i64 0]) /\ LsN w' p.2.1 (tabK c (diagF (nt (chProg (diagN c (min r c) p.1)))) (r * c)) /\ (∃ k l, IsHnf r c xs p.1 k l) /\ ∀ b o, p.2.1 = some ⟨b, o, none⟩ -> w.heap.size <= b) /\ Below w.heap.size w w' := by
 have HF0 : Hid (∀ w', LsAt w' 17592186044415 ao xs -> Calls Try.prog 25 #[.agg #[.int .i64 (r : Int), .int .i64 (c : Int), .slice ao xs.length cap]] w' fun e w'' => (∃ p : Nat × List Int, e = .returned (.tuple #[.agg #[.int .i64 (r : Int), .int .i64 (c : Int), .slice (some ⟨p.1, 0, none⟩) (r * c) (r * c)], .int .i64 0]) /\ LsN w'' (some ⟨p.1, 0, none⟩) p.2 /\ ((∃ k l, IsHnf r c xs p.2 k l) /\ p.2.length = r * c /\ ∀ x ∈ p.2, x.natAbs < W ^ hW m) /\ ∀ b o, some (⟨p.1, 0, none⟩ : Addr) = some ⟨b, o, none⟩ -> w'.heap.size <= b) /\ Below w'.heap.size w' w'') :=
  Lib.hid fun w' h' => (Form_c r c m ao xs.length cap xs w' hr hc h' hm (by omega) rfl hs).mono fun e w'' ⟨⟨b, hs', k, l, he, hb, hR, hH, hB⟩, hbl⟩ => ⟨⟨(b, hs'), he, hR.lsN, ⟨⟨k, l, hH⟩, hH.len, hB⟩, fun b' o e => by cases e; exact hb⟩, hbl⟩
 have hhw : hW m * 64 + 1 <= 8796093022207 := by unfold hW hermW; omega
 obtain ⟨M, hM⟩ : ∃ M, hW m = M := ⟨_, rfl⟩;rw [hM] at HF0 hhw;have HD : Hid (∀ hs k l, IsHnf r c xs hs k l -> IsDg r c hs) := Lib.hid hd;have hrc : r * c <= 4096 := Nat.mul_le_mul hr hc;clear hs hd hm hM;refine funW (S0 := fun _ => False) Try.func12 ((Fr.nil _ w).l h (by simp)) ?_;refine goW ?_;refine rW [] ?_;refine aW fun g1 => ?_;refine aW fun g2 => ?_;refine dW ?_;refine eW ?_;refine goW ?_;refine rW [] ?_;refine dW ?_;refine cLn (α := Nat × List Int) (mk := fun p => .tuple #[.agg #[.int .i64 (r : Int), .int .i64 (c : Int), .slice (some ⟨p.1, 0, none⟩) (r * c) (r * c)], .int .i64 0]) (ao := fun p => some ⟨p.1, 0, none⟩) (xs := fun p => p.2) (A := fun p => (∃ k l, IsHnf r c xs p.2 k l) /\ p.2.length = r * c /\ ∀ x ∈ p.2, x.natAbs < W ^ M) (fun w' H => HF0.out w' H.m2) fun p => ?_;obtain ⟨b, hs⟩ := p;refine dW ?_;refine dW ?_;refine dW ?_;refine aW fun g4 => ?_;refine sG ?_;refine dW ?_;refine eW ?_;refine prW (A := ((∃ k l, IsHnf r c xs hs k l) /\ hs.length = r * c /\ ∀ x ∈ hs, x.natAbs < W ^ M) /\ ∀ b' o, some (⟨b, 0, none⟩ : Addr) = some ⟨b', o, none⟩ -> w.heap.size <= b') (by simp) fun hA => ?_;obtain ⟨⟨hH, hl, hB⟩, _⟩ := hA;have hdg : IsDg r c hs := by obtain ⟨k, l, h⟩ := hH; exact HD.out _ _ _ h
 have HH : Hid ((∃ k l, IsHnf r c xs hs k l) /\ IsDg r c hs /\ hs.length = r * c /\ ∀ x ∈ hs, x.natAbs < W ^ M) := Lib.hid ⟨hH, hdg, hl, hB⟩;have hwl : ∀ x ∈ hs, wlen x.natAbs <= 17592186044415 := fun x hx => Nat.le_trans (wlen_le_of_lt (hB x hx)) (by omega);have HWL : Hid (∀ x ∈ hs, wlen x.natAbs <= 17592186044415) := Lib.hid hwl;clear hH hl hB hdg hwl;refine goW ?_;refine rW [] ?_;refine dW ?_;refine dW ?_;refine eW ?_;refine goW ?_;refine cfW ?_;refine goW ?_;refine rW [] ?_;refine dW ?_;refine eW ?_;refine goW ?_;refine loopW (X := Unit) (fun _ => True) (fun _ => 0) (fun _ => [(6, .bool false), (4, .pointer (some ⟨g4, 0, none⟩)), (2, .pointer (some ⟨g2, 0, none⟩)), (1, .pointer (some ⟨g1, 0, none⟩))])
  (fun _ => [.row g4 24 [.int .i64 (r : Int), .int .i64 (c : Int), .slice (some ⟨b, 0, none⟩) (r * c) (r * c)], .row g2 24 [.int .i64 0, .int .i64 0, .slice none 0 0], .row g1 24 [.int .i64 (r : Int), .int .i64 (c : Int), .slice ao xs.length cap], .lsn (some ⟨b, 0, none⟩) hs]) () trivial fun _ _ => ?_
 refine goW ?_;refine rW [] ?_;refine dW ?_;refine cV (v := .bool true) (fun w' H => by
  have h1 : LsN w' (some ⟨b, 0, none⟩) hs := H.m3;have := SDiag_v (cap := r * c) true hr hc (h1.lsAt HWL.out) (by omega) HH.out.2.2.1 ⟨fun _ => HH.out.2.1, fun _ => rfl⟩;rw [HH.out.2.2.1] at this; exact this) ?_
 refine dW ?_;refine eW ?_;refine goW ?_;refine cfW ?_;refine goW ?_;have hkr : min r c <= 64 := Nat.le_trans (Nat.min_le_left ..) hr;have HDN : Hid (∀ w', LsN w' (some ⟨b, 0, none⟩) hs -> Calls Try.prog 15 #[.agg #[.int .i64 (r : Int), .int .i64 (c : Int), .slice (some ⟨b, 0, none⟩) (r * c) (r * c)]] w' fun e w'' => (∃ q : Nat, e = .returned (.slice (some ⟨q, 0, none⟩) (min r c) (min r c)) /\ LsN w'' (some ⟨q, 0, none⟩) (diagL c (min r c) hs) /\ True /\ ∀ b o, some (⟨q, 0, none⟩ : Addr) = some ⟨b, o, none⟩ -> w'.heap.size <= b) /\ Below w'.heap.size w' w'') := Lib.hid fun w' h1 => by
  have := SList_c r c (some ⟨b, 0, none⟩) (r * c) 17592186044415 hs w' hr hc (h1.lsAt HWL.out) (by omega) HH.out.2.2.1;rw [HH.out.2.2.1] at this;exact this.mono fun e w'' ⟨⟨q, he, hq, hR⟩, hb⟩ => ⟨⟨q, he, hR.lsN, trivial, fun b' o e => by cases e; exact hq⟩, hb⟩
 have hdl : ∀ x ∈ diagL c (min r c) hs, x.natAbs < W ^ M := fun x hx => by
  unfold diagL at hx;obtain ⟨i, hi, rfl⟩ := List.mem_map.1 hx;have hi := List.mem_range.1 hi;refine HH.out.2.2.2 _ (gi_mem ?_);rw [HH.out.2.2.1];exact idxL (by have := Nat.min_le_left r c; omega) (by have := Nat.min_le_right r c; omega)
 have hP : wlen (prodNZ (diagN c (min r c) hs)) <= 8796093022207 := by
  have h1 := prodNZ_lt M (diagN c (min r c) hs) (fun x hx => by
   unfold diagN at hx;obtain ⟨y, hy, rfl⟩ := List.mem_map.1 hx;exact hdl y hy)
  have h2 : (diagN c (min r c) hs).length = min r c := by rw [diagN, List.length_map, diagL_length]
  rw [h2] at h1;have h3 : M * min r c <= M * 64 := Nat.mul_le_mul_left _ hkr;have h4 := wlen_le_of_lt (Nat.lt_of_le_of_lt h1 (Nat.pow_lt_pow_right (by decide : 1 < W) (Nat.lt_succ_self (M * min r c))));omega
 have hcl : (chProg (diagN c (min r c) hs)).length = min r c := by rw [chProg_ref, chRef_length, diagN, List.length_map, diagL_length]
 have HCH : Hid (∀ w' q, LsN w' (some ⟨q, 0, none⟩) (diagL c (min r c) hs) -> Calls Try.prog 11 #[.slice (some ⟨q, 0, none⟩) (min r c) (min r c)] w' fun e w'' => (∃ q2 : Nat, e = .returned (.slice (some ⟨q2, 0, none⟩) (min r c) (min r c)) /\ LsN w'' (some ⟨q2, 0, none⟩) (nt (chProg (diagN c (min r c) hs))) /\ True /\ ∀ b o, some (⟨q2, 0, none⟩ : Addr) = some ⟨b, o, none⟩ -> w'.heap.size <= b) /\ Below w'.heap.size w' w'') := Lib.hid fun w' q h1 => by
  have := SChain_c (some ⟨q, 0, none⟩) (min r c) 17592186044415 (diagL c (min r c) hs) w' (h1.lsAt fun x hx => Nat.le_trans (wlen_le_of_lt (hdl x hx)) (by omega)) (Nat.le_refl _) (by rw [diagL_length]; omega) hP;rw [diagL_length] at this;exact this.mono fun e w'' ⟨⟨q2, he, hq, hR⟩, hb⟩ => ⟨⟨q2, he, hR.lsN, trivial, fun b' o e => by cases e; exact hq⟩, hb⟩
 have hnl : ∀ x ∈ nt (chProg (diagN c (min r c) hs)), wlen x.natAbs <= 17592186044415 := fun x hx => by
  unfold nt at hx;obtain ⟨y, hy, rfl⟩ := List.mem_map.1 hx;have := chProg_dv (P := prodNZ (diagN c (min r c) hs)) (fun z hz => Dv.of_mem hz) y hy;exact Nat.le_trans (wlen_mono (this.le (prodNZ_pos _))) (Nat.le_trans hP (by omega))
 have HDG : Hid (∀ w' q, LsN w' (some ⟨q, 0, none⟩) (nt (chProg (diagN c (min r c) hs))) -> Calls Try.prog 16 #[.int .i64 (r : Int), .int .i64 (c : Int), .slice (some ⟨q, 0, none⟩) (min r c) (min r c)] w' fun e w'' => (∃ p : Option Addr × Nat, e = .returned (.tuple #[.agg #[.int .i64 (r : Int), .int .i64 (c : Int), .slice p.1 (r * c) p.2], .int .i64 0]) /\ LsN w'' p.1 (tabK c (diagF (nt (chProg (diagN c (min r c) hs)))) (r * c)) /\ True /\ ∀ b o, p.1 = some ⟨b, o, none⟩ -> w'.heap.size <= b) /\ Below w'.heap.size w' w'') := Lib.hid fun w' q h1 => by
  have := MDiag_c r c (some ⟨q, 0, none⟩) (min r c) 17592186044415 (nt (chProg (diagN c (min r c) hs))) w' hr hc (by rw [nt_length, hcl]; exact Nat.le_refl _) (h1.lsAt hnl) (Nat.le_refl _);rw [nt_length, hcl] at this;exact this
 clear hcl hnl hP hdl hkr;obtain ⟨k, hk⟩ : ∃ k, min r c = k := ⟨_, rfl⟩;rw [hk] at HDN HCH HDG ⊢;clear hk;refine rW [] ?_;refine dW ?_;refine dW ?_;refine dW ?_;refine dW ?_;refine dW ?_;refine cLn (α := Nat) (mk := fun q => .slice (some ⟨q, 0, none⟩) k k) (ao := fun q => some ⟨q, 0, none⟩) (xs := fun _ => diagL c k hs) (A := fun _ => True) (fun w' H => HDN.out w' H.m3) fun q1 => ?_;refine cLn (α := Nat) (mk := fun q => .slice (some ⟨q, 0, none⟩) k k) (ao := fun q => some ⟨q, 0, none⟩) (xs := fun _ => nt (chProg (diagN c k hs))) (A := fun _ => True) (fun w' H => HCH.out w' q1 H.m0) fun q2 => ?_;refine cLn (α := Option Addr × Nat) (mk := fun p => .tuple #[.agg #[.int .i64 (r : Int), .int .i64 (c : Int), .slice p.1 (r * c) p.2], .int .i64 0]) (ao := fun p => p.1) (xs := fun _ => tabK c (diagF (nt (chProg (diagN c k hs)))) (r * c)) (A := fun _ => True) (fun w' H => HDG.out w' q2 H.m0) fun q3 => ?_;refine dW ?_;refine dW ?_;refine sW ?_;refine dW ?_;refine eW ?_;refine goW ?_;refine fin2 fun w' H => ?_;exact ⟨_, _, rvM H.m7, rvT, ⟨(hs, q3), rfl, H.m0, HH.out.1, (show True /\ ∀ b o, q3.1 = some ⟨b, o, none⟩ -> w.heap.size <= b from H.m1).2⟩, H.below⟩
end Go.Proofs.Ytllkjlcdcbilcaa
namespace Go.Proofs.Ytllkjlcdcbilcaa
def Smf (r c : Nat) (xs : List Int) (R : List Nat) : Prop := R.length = min r c /\ Chn R /\ Eqv r c (matE xs r c) (Dl R)
theorem trn_E {r c : Nat} (xs : List Int) : matE (trn r c xs) c r = tp (matE xs r c) := by
 funext i j;show matE (trn r c xs) c r i j = matE xs r c j i;unfold matE;by_cases h : i < c /\ j < r
 · rw [if_pos h, if_pos ⟨h.2, h.1⟩]; exact trn_gi xs h.1 h.2
 · rw [if_neg h, if_neg fun q => h ⟨q.2, q.1⟩]
theorem sp_zero {n : Nat} (E : Mx) {v : Nat -> Int} (h : ∀ j, v j = 0) : Sp n E v := ⟨fun _ => 0, fun j => by rw [h j]; exact (sm_zero fun t _ => Int.zero_mul _).symm⟩
theorem speq_more {r k : Nat} {A H : Mx} (hk : k <= r) (hz : ∀ i, k <= i -> ∀ j, H i j = 0) (h : SpEq r A k H) : SpEq r A r H :=
 ⟨fun i hi => (h.1 i hi).more hk, fun i hi => by
  by_cases q : i < k
  · exact h.2 i q
  · exact sp_zero A (hz i (by omega))⟩
theorem mat_absS {xs : List Int} {r c B : Nat} (h : ∀ x ∈ xs, x.natAbs <= B) (i j : Nat) : (matE xs r c i j).natAbs <= B := by
 unfold matE;split
 · by_cases q : i * c + j < xs.length
   · rw [show xs.getD (i * c + j) 0 = xs[i * c + j] by simp [q]]; exact h _ (List.getElem_mem q)
   · simp [Nat.le_of_not_lt q]
 · exact Nat.zero_le _
theorem mem_matE {xs : List Int} {r c : Nat} (hl : xs.length = r * c) {x : Int} (h : x ∈ xs) : ∃ i j, i < r /\ j < c /\ x = matE xs r c i j := by
 obtain ⟨q, hq, rfl⟩ := List.getElem_of_mem h;have hc : 0 < c := Nat.pos_of_ne_zero fun e => by rw [hl, e, Nat.mul_zero] at hq; omega
 have h1 : q / c < r := Nat.div_lt_of_lt_mul (by rw [Nat.mul_comm]; omega);have h2 : q % c < c := Nat.mod_lt _ hc;refine ⟨q / c, q % c, h1, h2, ?_⟩;rw [matE_eq h1 h2, show q / c * c + q % c = q by rw [Nat.mul_comm]; exact Nat.div_add_mod q c];simp [hq]
def Dp (m : Nat) : Nat := (64 * W ^ m) ^ 64
theorem dp_lt (m : Nat) : Dp m < W ^ (64 * (m + 1)) := by
 unfold Dp;rw [Nat.mul_comm 64 (m + 1), Nat.pow_mul];refine Nat.pow_lt_pow_left ?_ (by omega);rw [Nat.pow_succ, Nat.mul_comm];exact (Nat.mul_lt_mul_left (Nat.pow_pos (by unfold W; omega))).2 (by unfold W; omega)
theorem Upr.pp_le {k : Nat} {T : Mx} (h : Upr k T) {i : Nat} (hi : i <= k) : Pp T i <= Pp T k := by
 obtain ⟨d, rfl⟩ : ∃ d, k = i + d := ⟨k - i, by omega⟩;have : ∀ e, e <= d -> Pp T i <= Pp T (i + e) := by
  intro e;induction e with
  | zero => intro _; exact Nat.le_refl _
  | succ e ih =>
   intro he;refine Nat.le_trans (ih (by omega)) ?_;exact Nat.le_mul_of_pos_right _ (show 0 < (T (i + e) (i + e)).natAbs by have := h.pos (i + e) (by omega); omega)
 exact this d (Nat.le_refl _)
theorem Upr.mu_le {k B : Nat} {T : Mx} (h : Upr k T) (hB : Pp T k <= B) : mu k T <= (k + 1) * B := by
 have : ∀ n, n <= k + 1 -> ((List.range n).map (Pp T)).sum <= n * B := by
  intro n;induction n with
  | zero => intro _; exact Nat.zero_le _
  | succ n ih =>
   intro hn;rw [List.range_succ, List.map_append, List.sum_append, Nat.succ_mul];have h1 := ih (by omega);have h2 := h.pp_le (i := n) (by omega);simp only [List.map_cons, List.map_nil, List.sum_cons, List.sum_nil];omega
 exact this (k + 1) (Nat.le_refl _)
def DgT (T : Mx) : Prop := ∀ a j, a ≠ j -> T a j = 0
structure UI (m k w n : Nat) (T : Mx) : Prop where
 up : Upr k T
 hm : ∃ l, Herm k w T l /\ ∀ i < k, l i = i
 bd : Pp T k <= Dp m
 fu : 2 * mu k T + 1 <= n ∨ 2 * mu k T <= n /\ DgT T
theorem UI.next {m k w n v k' : Nat} {T H : Mx} {l : Nat -> Nat} (h : UI m k w n T) (hnd : ¬ DgT T) (hH : Herm k' v H l) (hz : ∀ i, k' <= i -> ∀ j, H i j = 0) (hsp : SpEq w (tp T) k' H) : ∃ n', n' < n /\ UI m k' v n' H := by
 obtain ⟨l0, h0, hl0⟩ := h.hm;have hkw : k <= w := Nat.le_of_not_lt fun q => by have := h0.lt w q; rw [hl0 w q] at this; omega
 obtain ⟨rfl, hl, hu⟩ := h.up.next hkw hH hz hsp;have hf : 2 * mu k' T + 1 <= n := h.fu.elim id fun q => absurd q.2 hnd;have hpd := Nat.le_of_dvd (h.up.pp k' (Nat.le_refl _)) (h.up.dvd hu hkw hsp (Nat.le_refl _));rcases h.up.less hu hkw hH hl hsp with q | ⟨q, q2⟩
 · exact ⟨2 * mu k' H + 1, by omega, hu, ⟨l, hH, hl⟩, Nat.le_trans hpd h.bd, .inl (Nat.le_refl _)⟩
 · exact ⟨2 * mu k' H, by omega, hu, ⟨l, hH, hl⟩, Nat.le_trans hpd h.bd, .inr ⟨Nat.le_refl _, q2⟩⟩
theorem UI.first {m r c k k' : Nat} {xs hs : List Int} {G : Mx} {l l' : Nat -> Nat} (hr : r <= 64) (hm : ∀ x ∈ xs, x.natAbs < W ^ m) (h : IsHnf r c xs hs k l) (hG : Herm k' r G l') (hzG : ∀ i, k' <= i -> ∀ j, G i j = 0) (hspG : SpEq c (tp (matE hs r c)) k' G) : ∃ n', n' < 130 * Dp m + 4 /\ UI m k' r n' G := by
 obtain ⟨rfl, hl, hu, σ, hσ, hd⟩ := Upr.first h.herm h.zero h.sp hG hzG hspG;have h1 := det_bd k' (fun a b => matE xs r c (σ a) (l b)) fun i j => mat_absS (fun x hx => Nat.le_of_lt (hm x hx)) (σ i) (l j);have hk : k' <= 64 := Nat.le_trans h.kr hr;have hB : 0 < 64 * W ^ m := Nat.mul_pos (by omega) (Nat.pow_pos (by unfold W; omega));have h2 : (k' * W ^ m) ^ k' <= Dp m := Nat.le_trans (Nat.pow_le_pow_left (Nat.mul_le_mul_right _ hk) k') (Nat.pow_le_pow_right hB hk);have hb : Pp G k' <= Dp m := Nat.le_trans hd (Nat.le_trans h1 h2);have h3 := hu.mu_le hb;have h4 : (k' + 1) * Dp m <= 65 * Dp m := Nat.mul_le_mul_right _ (by omega);exact ⟨2 * mu k' G + 1, by omega, hu, ⟨l', hG, hl⟩, hb, .inl (Nat.le_refl _)⟩
theorem UI.get {m k w n : Nat} {T : Mx} (h : UI m k w n T) (i j : Nat) : 0 <= T i j /\ (T i j).natAbs <= Dp m := by
 obtain ⟨l, h0, hl⟩ := h.hm;have := h.up.bound h0 hl i j;exact ⟨this.1, Nat.le_trans this.2 h.bd⟩
structure F3X where
 rows : Bool
 n : Nat
 ao : Option Addr
 cap : Nat
 hs : List Int
structure F3I (r c m : Nat) (xs : List Int) (z : F3X) : Prop where
 len : z.hs.length = r * c
 eqv : Eqv r c (matE xs r c) (matE z.hs r c)
 ok : (z.rows = false /\ (∃ k l, IsHnf r c xs z.hs k l) /\ (∀ x ∈ z.hs, x.natAbs < W ^ hW m) /\ 130 * Dp m + 4 <= z.n) ∨ (z.rows = true /\ ∃ k, UI m k r z.n (tp (matE z.hs r c))) ∨ (z.rows = false /\ ∃ k, UI m k c z.n (matE z.hs r c))
section
variable {r c m n k n' : Nat} {xs hs ts : List Int} {ao ao' : Option Addr} {cap cap' : Nat} {l : Nat -> Nat} {b : Bool}
theorem F3I.start (h : IsHnf r c xs hs k l) (hb : ∀ x ∈ hs, x.natAbs < W ^ hW m) : F3I r c m xs ⟨false, 130 * Dp m + 4, ao, cap, hs⟩ :=
 ⟨h.len, .rows (speq_more h.kr h.zero h.sp), .inl ⟨rfl, ⟨k, l, h⟩, hb, Nat.le_refl _⟩⟩
theorem F3I.bnd (h : F3I r c m xs ⟨b, n, ao, cap, hs⟩) : ∀ x ∈ hs, x.natAbs < W ^ hW m := by
 have hpw : W ^ (64 * (m + 1)) <= W ^ hW m := Nat.pow_le_pow_right (by unfold W; omega) (by unfold hW hermW; omega);rcases h.ok with ⟨_, _, q, _⟩ | ⟨_, k, q⟩ | ⟨_, k, q⟩
 · exact q
 · intro x hx;obtain ⟨i, j, _, _, rfl⟩ := mem_matE h.len hx;exact Nat.lt_of_le_of_lt (q.get j i).2 (Nat.lt_of_lt_of_le (dp_lt m) hpw)
 · intro x hx;obtain ⟨i, j, _, _, rfl⟩ := mem_matE h.len hx;exact Nat.lt_of_le_of_lt (q.get i j).2 (Nat.lt_of_lt_of_le (dp_lt m) hpw)
theorem not_dg (h : ¬ IsDg r c hs) : ¬ DgT (matE hs r c) /\ ¬ DgT (tp (matE hs r c)) :=
 ⟨fun q => h fun i j hi hj hij => by have := q i j hij; rw [matE_eq hi hj] at this; exact this,
  fun q => h fun i j hi hj hij => by have : matE hs r c i j = 0 := q j i (Ne.symm hij); rw [matE_eq hi hj] at this; exact this⟩
theorem F3I.turn (hr : r <= 64) (hm : ∀ x ∈ xs, x.natAbs < W ^ m) (h : F3I r c m xs ⟨false, n, ao, cap, hs⟩) (hd : ¬ IsDg r c hs) (hT : IsHnf c r (trn r c hs) ts k l) : ∃ n', n' < n /\ F3I r c m xs ⟨true, n', ao', cap', trn c r ts⟩ := by
 have hsp : SpEq c (tp (matE hs r c)) k (matE ts c r) := by have := hT.sp; rw [trn_E] at this; exact this
 have e : tp (matE (trn c r ts) r c) = matE ts c r := by rw [trn_E]; rfl
 have hq : Eqv r c (matE xs r c) (matE (trn c r ts) r c) := h.eqv.trans (.cols (by rw [e]; exact speq_more hT.kr hT.zero hsp));rcases h.ok with ⟨_, ⟨k0, l0, q⟩, _, q2⟩ | ⟨q, _⟩ | ⟨_, k0, q⟩
 · obtain ⟨n', h1, h2⟩ := UI.first hr hm q hT.herm hT.zero hsp;exact ⟨n', Nat.lt_of_lt_of_le h1 q2, trn_length c r ts, hq, .inr (.inl ⟨rfl, k, by rw [e]; exact h2⟩)⟩
 · cases q
 · obtain ⟨n', h1, h2⟩ := q.next (not_dg hd).1 hT.herm hT.zero hsp;exact ⟨n', h1, trn_length c r ts, hq, .inr (.inl ⟨rfl, k, by rw [e]; exact h2⟩)⟩
theorem F3I.form (h : F3I r c m xs ⟨true, n, ao, cap, hs⟩) (hd : ¬ IsDg r c hs) (hT : IsHnf r c hs ts k l) : ∃ n', n' < n /\ F3I r c m xs ⟨false, n', ao', cap', ts⟩ := by
 have hq : Eqv r c (matE xs r c) (matE ts r c) := h.eqv.trans (.rows (speq_more hT.kr hT.zero hT.sp));rcases h.ok with ⟨q, _⟩ | ⟨_, k0, q⟩ | ⟨q, _⟩
 · cases q
 · obtain ⟨n', h1, h2⟩ := q.next (not_dg hd).2 hT.herm hT.zero hT.sp;exact ⟨n', h1, hT.len, hq, .inr (.inr ⟨rfl, k, h2⟩)⟩
 · cases q
theorem herm_dg {k w : Nat} {E : Mx} (h : Herm k w E l) (hz : ∀ i, k <= i -> ∀ j, E i j = 0) (i : Nat) : 0 <= E i i := by
 by_cases hi : i < k
 · have hge : ∀ i, i < k -> i <= l i := by
    intro i;induction i with
    | zero => intro _; exact Nat.zero_le _
    | succ i ih => intro hi; have := ih (by omega); have := h.inc i (i + 1) (by omega) hi; omega
   rcases Nat.lt_or_ge i (l i) with q | q
   · rw [h.zero i hi i q]; exact Int.le_refl _
   · have := h.pos i hi;rw [Nat.le_antisymm q (hge i hi)] at this;exact Int.le_of_lt this
 · rw [hz i (by omega)]; exact Int.le_refl _
theorem F3I.fin (h : F3I r c m xs ⟨b, n, ao, cap, hs⟩) (hd : IsDg r c hs) : Smf r c xs (chProg (diagN c (min r c) hs)) := by
 have h0 : ∀ i, 0 <= matE hs r c i i := fun i => by
  rcases h.ok with ⟨_, ⟨k, l, q⟩, _⟩ | ⟨_, k, q⟩ | ⟨_, k, q⟩
  · exact herm_dg q.herm q.zero i
  · exact (q.get i i).1
  · exact (q.get i i).1
 have hl : (diagN c (min r c) hs).length = min r c := by rw [diagN, List.length_map, diagL_length]
 have e : matE hs r c = Dl (diagN c (min r c) hs) := by
  funext i j;show matE hs r c i j = if i = j then (((diagN c (min r c) hs).getD i 0 : Nat) : Int) else 0;by_cases hij : i = j
  · subst hij;rw [if_pos rfl];by_cases hi : i < min r c
    · have h1 : i < r /\ i < c := by omega
      have h2 : (diagN c (min r c) hs).getD i 0 = (gi hs (i * c + i)).natAbs := by
       rw [List.getD_eq_getElem?_getD, List.getElem?_eq_getElem (by rw [hl]; exact hi)];unfold diagN diagL;simp
      rw [h2];have h3 : matE hs r c i i = gi hs (i * c + i) := matE_eq h1.1 h1.2;have := h0 i;rw [h3] at this ⊢;omega
    · rw [show (diagN c (min r c) hs).getD i 0 = 0 by rw [List.getD_eq_getElem?_getD, List.getElem?_eq_none (by rw [hl]; omega)]; rfl];unfold matE;rw [if_neg (by omega)]; rfl
  · rw [if_neg hij];unfold matE;split
    · rename_i q; exact hd i j q.1 q.2 hij
    · rfl
 have hch : (chProg (diagN c (min r c) hs)).length = min r c := by rw [chProg_ref, chRef_length, hl]
 refine ⟨hch, chProg_chn _, ?_⟩;have h1 := h.eqv;rw [show matE (⟨b, n, ao, cap, hs⟩ : F3X).hs r c = matE hs r c from rfl, e] at h1;exact h1.trans (dl_chain (min r c) (diagN c (min r c) hs) [] hl (by rw [List.nil_append, hl]; exact Nat.min_le_left ..) (by rw [List.nil_append, hl]; exact Nat.min_le_right ..))
end
theorem dl_blk {n : Nat} {l l' : List Nat} (hl : l.length = n) : blk n n (Dl l) (Dl l') = Dl (l ++ l') := by
 funext i j;show (if i < n then (if j < n then (if i = j then ((l.getD i 0 : Nat) : Int) else 0) else 0) else if j < n then 0 else (if i - n = j - n then ((l'.getD (i - n) 0 : Nat) : Int) else 0)) = if i = j then (((l ++ l').getD i 0 : Nat) : Int) else 0;by_cases hi : i < n
 · rw [if_pos hi];have e : (l ++ l').getD i 0 = l.getD i 0 := by simp [List.getD_eq_getElem?_getD, List.getElem?_append_left (show i < l.length by omega)]
   rw [e];by_cases hj : j < n
   · rw [if_pos hj]
   · rw [if_neg hj, if_neg (by omega)]
 · rw [if_neg hi];have e : (l ++ l').getD i 0 = l'.getD (i - n) 0 := by simp [List.getD_eq_getElem?_getD, List.getElem?_append_right (show l.length <= i by omega), hl]
   rw [e];by_cases hj : j < n
   · rw [if_pos hj, if_neg (by omega)]
   · rw [if_neg hj];by_cases hij : i = j
     · rw [if_pos hij, if_pos (by omega)]
     · rw [if_neg hij, if_neg (by omega)]
theorem Smf.blocks {n m : Nat} {xs ys zs : List Int} {R S T : List Nat} (h : Smf n n xs R) (g : Smf m m ys S) (k : Smf (n + m) (n + m) zs T) (hz : matE zs (n + m) (n + m) = blk n n (matE xs n n) (matE ys m m)) : T = chProg (R ++ S) := by
 have hR : R.length = n := by have := h.1; omega
 have hS : S.length = m := by have := g.1; omega
 have hl : (R ++ S).length = n + m := by rw [List.length_append, hR, hS]
 have h1 : Eqv (n + m) (n + m) (matE zs (n + m) (n + m)) (Dl (R ++ S)) := by
  rw [hz, <- dl_blk hR];exact (h.2.2.blk1 (matE ys m m)).trans (g.2.2.blk2 (Dl R))
 have h2 := dl_chain (r := n + m) (c := n + m) (n + m) (R ++ S) [] hl (by rw [List.nil_append, hl]; exact Nat.le_refl _) (by rw [List.nil_append, hl]; exact Nat.le_refl _);have hch : (chProg (R ++ S)).length = min (n + m) (n + m) := by rw [chProg_ref, chRef_length, hl, Nat.min_self]
 exact smith_chain k.1 hch k.2.2.sm (h1.trans h2).sm k.2.1 (chProg_chn _)
end Go.Proofs.Ytllkjlcdcbilcaa
