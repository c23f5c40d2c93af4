/- Part 7 of 9 of the proof that the law ModhnfInserts returns true for every input of bulk at most 1048576 and leaves its arguments as they were: here the contracts of the functions that it calls, and plain lemmas. -/
import Derived.Deep.RegionLaw
import Derived.Test.YtjjlmfmoihooiaaGreatIsF
set_option linter.all false
set_option maxRecDepth 100000
set_option maxHeartbeats 8000000
namespace Go.Proofs.YtjjlmfmoihooiaaGreat
open Go.RowKit
theorem pE : ∀ {xs : List Int} {j : Nat} (_ : lead xs = j) (hj : j < xs.length), xs[j] ≠ 0
 | x :: xs, j, h, hj => by
  unfold lead at h;by_cases h0 : x = 0
  · rw [if_pos h0] at h;subst h;simpa using pE (xs := xs) rfl (by simpa using hj)
  · rw [if_neg h0] at h;subst h;simpa using h0
theorem aH.sign {w : World} {p : P4} {x : Int} (h : aH w (av p) x) (hx : x ≠ 0) : p.1 = decide (x < 0) := by
 obtain ⟨n, ao, len, cap, ws, he, hW, hl, hL, hc, rfl⟩ := h.1;unfold av at he;have : p.1 = n := by injection he with he; simp at he; exact he.1
 rw [this];exact jX hx
def bL (R : List Hd) (i : Nat) : List Hd := if h : i < R.length then ie R i h else R
def swapT (R : List Hd) (i j : Nat) : List Hd := if h : i < R.length /\ j < R.length then ff R i j h.1 h.2 else R
theorem ny {R : List Hd} {i : Nat} (hi : i < R.length) : bL R i = ie R i hi := by unfold bL; rw [dif_pos hi]
theorem gY {R : List Hd} {i j : Nat} (hi : i < R.length) (hj : j < R.length) : swapT R i j = ff R i j hi hj := by unfold swapT; rw [dif_pos ⟨hi, hj⟩]
theorem fG (R : List Hd) (i : Nat) : (bL R i).length = R.length := by
 unfold bL; split
 · unfold ie; rw [aB]
 · rfl
theorem bB (R : List Hd) (i j : Nat) : (swapT R i j).length = R.length := by
 unfold swapT; split
 · exact bM ..
 · rfl
theorem qM (R : List Hd) (i j : Nat) (a b c d : Int) : (kN R i j a b c d).length = R.length := by
 unfold kN; split
 · unfold kd; rw [aB, aB]
 · rfl
theorem iC (R : List Hd) (k n j : Nat) : (dA R k n j).length = R.length := by
 unfold dA bb; split
 · exact cW ..
 · rw [qM]; exact cW ..
def aV (at_ : Nat) : Nat -> List Hd -> List Hd
 | 0, R => R
 | i + 1, R => if i + 1 <= at_ then R else aV at_ i (swapT R (i + 1) i)
inductive jA (B c n : Nat) : Nat -> Int -> List Hd -> Bool -> List Hd -> Prop
 | zero {at_ : Nat} {last : Int} {R R' : List Hd} (hF : Fit B c R) (h : aM R n = c ∨ (aM R n : Int) <= last) (hs : gN B c (dQ R n) n n R R') : jA B c n at_ last R false R'
 | stop {at_ : Nat} {last : Int} {R R' : List Hd} (hF : Fit B c R) (h1 : aM R n < c) (h2 : last < aM R n) (a : Nat) (ha : at_ <= a) (hn : a <= n) (hlt : ∀ i, at_ <= i -> i < a -> aM R i < aM R n) (hb : a = n ∨ aM R n < aM R a)
  (hF2 : Fit B c (aV a n (if aw R n (aM R n) < 0 then bL R n else R)))
  (hs : gN B c (dQ (aV a n (if aw R n (aM R n) < 0 then bL R n else R)) (n + 1)) (n + 1) (n + 1) (aV a n (if aw R n (aM R n) < 0 then bL R n else R)) R') : jA B c n at_ last R true R'
 | meet {at_ : Nat} {last : Int} {R R' : List Hd} {b : Bool} (hF : Fit B c R) (h1 : aM R n < c) (h2 : last < aM R n) (a : Nat) (ha : at_ <= a) (hn : a < n) (hlt : ∀ i, at_ <= i -> i < a -> aM R i < aM R n) (hj : aM R a = aM R n)
  (hp : aw R a (aM R n) ≠ 0) (hF1 : Fit B c (bb R a n (aM R n))) (hp1 : aw (bb R a n (aM R n)) a (aM R n) ≠ 0)
  (hs : jA B c n a (aM R n) (dA R a n (aM R n)) b R') : jA B c n at_ last R b R'
theorem ly (S : ct) (i k : Nat) : (S.az (bL S.R i)).own k ↔ S.own k := by
 unfold bL; split
 · exact fI S i _ k
 · exact Iff.rfl
theorem n9 (S : ct) (i j : Nat) (x : Int) (k : Nat) : (S.az (gS S.R i j x)).own k ↔ S.own k := by
 unfold gS; split
 · exact fI S i _ k
 · exact Iff.rfl
theorem xh (S : ct) (i j : Nat) (a b c d : Int) (k : Nat) : (S.az (kN S.R i j a b c d)).own k ↔ S.own k := by
 unfold kN; split
 · exact (fI (S.az (dh S.R i _)) j _ k).trans (fI S i _ k)
 · exact Iff.rfl
theorem oD (S : ct) (a n j k : Nat) : (S.az (dA S.R a n j)).own k ↔ S.own k := by
 unfold dA bb; split
 · exact n9 S n a _ k
 · exact (xh (S.az (gS S.R n a _)) a n _ _ _ _ k).trans (n9 S n a _ k)
theorem fH (S : ct) (i j k : Nat) : (S.az (swapT S.R i j)).own k ↔ S.own k := by
 unfold swapT; split
 · rename_i h;exact or_congr (tV (fun b => uT h.1 h.2 b) k) Iff.rfl
 · exact Iff.rfl
theorem Put_c (S : ct) (n B c : Nat) (res : Bool) (R' : List Hd) (w : World) (h : aD w S) (hn : n < S.R.length) (hB : B <= 4000000000000) (hP : jA B c n 0 (-1) S.R res R') (hR : S.R.length <= 100000) (hc : c <= 1000000) (hT : S.sat B c) :
 Calls Tryz.prog 99 #[.pointer (some ⟨S.lb, 0, none⟩), .int .i64 (n : Int)] w fun e w' => e = .returned (.bool res) /\ aD w' (S.az R') /\ aN S.own w w' := by
 have HT := hi_ hT; clear hT;have HL := hi_ h; clear h;have HP := hi_ hP; clear hP;go_enter Tryz.func99, Tryz.ntmps99;go_wp2;go_loopw [5, 6] (fun a_ l_ wr => ∃ (at_ : Nat) (last : Int) (R : List Hd), at_ <= n /\ (-1 <= last /\ last <= (c : Int)) /\ a_ = .int .i64 (at_ : Int) /\ l_ = .int .i64 last /\ Hid (R.length = S.R.length) /\ Hid (jA B c n at_ last R res R') /\ Hid (aD wr (S.az R)) /\ Hid (aN S.own w wr) /\ Hid (∀ k, (S.az R).own k ↔ S.own k)) (fun _ l_ _ => ((c : Int) - intOf l_).toNat)
 case atStart => exact ⟨0, -1, S.R, Nat.zero_le _, ⟨by omega, by omega⟩, rfl, rfl, rfl, HP, HL, aN.refl .., fun _ => Iff.rfl⟩
 case round =>
  obtain ⟨at_, last, R, hat, ⟨hl1, hl2⟩, rfl, rfl, hRl, hPt, hL, hC, hO⟩ := hrel;have hnR : n < R.length := by have := hRl.out; omega
  have hF : Hid (Fit B c R) := by
   have := hPt.out;cases this with
   | zero hF _ _ => exact hF
   | stop hF _ _ _ _ _ _ _ _ _ => exact hF
   | meet hF _ _ _ _ _ _ _ _ _ _ _ => exact hF
  have hcn : R[n].xs.length = c := hF.out.len _ (List.getElem_mem hnR);have hlead : aM R n = lead R[n].xs := eT hnR;have hle := pQ R[n].xs;have hn1 : (n : Int) < (R.length : Int) := by omega
  have cb : wr.cell? ⟨S.lb, 0, none⟩ = some (.slice (some ⟨S.o, 0, none⟩) R.length S.cap) := hL.out.lad.cell 0;have cn : wr.cell? ⟨S.o, n, none⟩ = some (.slice (some ⟨R[n].blk, 0, none⟩) R[n].xs.length R[n].cap) := hL.out.dJ.cF (i := n) hnR;rw [hcn] at cn hle;have Hcn := hi_ hcn; clear hcn;have Hlead := hi_ hlead; clear hlead;go_wp2_with fail
  have hLd := jk R[n].blk R[n].cap R[n].xs wr (hL.out.dJ.row _ (List.getElem_mem (l := R) hnR)) (fun x hx => by have := hF.out.fit _ (List.getElem_mem hnR) x hx; omega) (by rw [Hcn.out]; omega);rw [Hcn.out] at hLd;refine hLd.mono ?_;rintro e w2 ⟨rfl, hb2⟩;have L2 := hi_ (hL.out.below hb2);have C2 := hi_ (hC.out.below hb2);clear hLd hL hC hb2 cb cn;have cb : w2.cell? ⟨S.lb, 0, none⟩ = some (.slice (some ⟨S.o, 0, none⟩) R.length S.cap) := L2.out.lad.cell 0;have cn : w2.cell? ⟨S.o, n, none⟩ = some (.slice (some ⟨R[n].blk, 0, none⟩) R[n].xs.length R[n].cap) := L2.out.dJ.cF (i := n) hnR;rw [Hcn.out] at cn;obtain ⟨jj, hjj⟩ : ∃ jj, lead R[n].xs = jj := ⟨_, rfl⟩;rw [hjj] at hle ⊢;have hPj := hPt.out;have hld := Hlead.out;rw [hjj] at hld;have Hld := hi_ hld; clear hld;by_cases hz : jj = c ∨ (jj : Int) <= last
  · have hfin : res = false /\ gN B c (dQ R n) n n R R' := by
     cases hPj with
     | zero _ _ hs => exact ⟨rfl, hs⟩
     | stop _ h1 h2 _ _ _ _ _ _ _ => rw [Hld.out] at h1 h2; omega
     | meet _ h1 h2 _ _ _ _ _ _ _ _ _ => rw [Hld.out] at h1 h2; omega
    obtain ⟨rfl, hs⟩ := hfin;have HSO := hi_ hs; clear hs;clear hPj hPt;by_cases hz1 : jj = c
    · have hz2 : ((jj : Int) == (c : Int)) = true := by rw [hz1]; simp
      obtain ⟨j2, hj2⟩ : ∃ j2, j2 = jj := ⟨_, rfl⟩;have hz3 : (jj : Int) = (c : Int) := by omega
      have Hz1 := hi_ hz1;clear hz hz1 hz2 hj2;go_wp2_with fail
      refine (ij (S.az R) n B c R' _ L2.out (Nat.le_of_lt hnR) (by omega) hF.out HSO.out (by show R.length <= 1000000; have := hRl.out; omega) hc HT.out).mono ?_;rintro e w3 ⟨rfl, hL3, hC3⟩;have CF := hi_ (C2.out.trans (hC3.mono (fun q _ e => (hO.out q).1 e)));have LF := hi_ hL3;clear hL3 hC3;go_wp2;go_ret;exact ⟨rfl, LF.out, CF.out⟩
    · have hz3 : ¬ (jj : Int) = (c : Int) := by omega
      have hz2 : ((jj : Int) == (c : Int)) = false := beq_eq_false_iff_ne.2 hz3;have hz4 : (jj : Int) <= last := by omega
      have Hz1 := hi_ hz1;clear hz hz1;go_wp2_with fail
      refine (ij (S.az R) n B c R' _ L2.out (Nat.le_of_lt hnR) (by omega) hF.out HSO.out (by show R.length <= 1000000; have := hRl.out; omega) hc HT.out).mono ?_;rintro e w3 ⟨rfl, hL3, hC3⟩;have CF := hi_ (C2.out.trans (hC3.mono (fun q _ e => (hO.out q).1 e)));have LF := hi_ hL3;clear hL3 hC3;go_wp2;go_ret;exact ⟨rfl, LF.out, CF.out⟩
  · have hz3 : ¬ (jj : Int) = (c : Int) := by omega
    have hz2 : ((jj : Int) == (c : Int)) = false := beq_eq_false_iff_ne.2 hz3;have hz4 : ¬ (jj : Int) <= last := by omega
    have hjc : jj < c := by omega
    have hjl : last < (jj : Int) := by omega
    have Hjj := hi_ hjj; clear hjj;clear hz hPj;go_wp2;clear hz2 hz3 hz4 cb cn;go_loopw [5] (fun a_ wq => ∃ a : Nat, at_ <= a /\ a <= n /\ a_ = .int .i64 (a : Int) /\ Hid (∀ i, at_ <= i -> i < a -> aM R i < jj) /\ Hid (aD wq (S.az R)) /\ Hid (aN S.own w wq)) (fun a_ _ => n - (intOf a_).toNat)
    case atStart => exact ⟨at_, Nat.le_refl _, hat, rfl, fun i h1 h2 => by omega, L2, C2⟩
    case round =>
     obtain ⟨a, ha1, ha2, rfl, hlt, hLq, hCq⟩ := hrel;by_cases han : a < n
     · have haR : a < R.length := by omega
       have han1 : (a : Int) < (n : Int) := by omega
       have haR1 : (a : Int) < (R.length : Int) := by omega
       have cb : wr.cell? ⟨S.lb, 0, none⟩ = some (.slice (some ⟨S.o, 0, none⟩) R.length S.cap) := hLq.out.lad.cell 0;have ca : wr.cell? ⟨S.o, a, none⟩ = some (.slice (some ⟨R[a].blk, 0, none⟩) R[a].xs.length R[a].cap) := hLq.out.dJ.cF (i := a) haR;go_wp2_with fail
       refine (jk R[a].blk R[a].cap R[a].xs _ (hLq.out.dJ.row _ (List.getElem_mem (l := R) haR)) (fun x hx => by have := hF.out.fit _ (List.getElem_mem haR) x hx; omega) (by rw [hF.out.len _ (List.getElem_mem haR)]; omega)).mono ?_;rintro e w3 ⟨rfl, hb3⟩;have L3 := hi_ (hLq.out.below hb3);have C3 := hi_ (hCq.out.below hb3);clear hLq hCq hb3 cb ca;obtain ⟨la, hla⟩ : ∃ la, lead R[a].xs = la := ⟨_, rfl⟩;have hla2 : aM R a = la := (eT haR).trans hla;rw [hla];have Hla := hi_ hla2; clear hla hla2;by_cases hlj : la < jj
       · have hlj1 : (la : Int) < (jj : Int) := by omega
         go_wp2;go_roundw
         case rel => exact ⟨a + 1, by omega, by omega, by go_num, hi_ (fun i h1 h2 => (Nat.lt_succ_iff_lt_or_eq.1 h2).elim (fun h => hlt.out i h1 h) (fun h => by subst h; rw [Hla.out]; exact hlj)), L3, C3⟩
         case measure => simp [intOf]; omega
       · have hlj1 : ¬ (la : Int) < (jj : Int) := by omega
         have haR2 : (a : Int) < (R.length : Int) := by omega
         have cb : w3.cell? ⟨S.lb, 0, none⟩ = some (.slice (some ⟨S.o, 0, none⟩) R.length S.cap) := L3.out.lad.cell 0;have ca : w3.cell? ⟨S.o, a, none⟩ = some (.slice (some ⟨R[a].blk, 0, none⟩) R[a].xs.length R[a].cap) := L3.out.dJ.cF (i := a) haR;have hanb : ((a : Int) == (n : Int)) = false := beq_eq_false_iff_ne.2 (by omega);have hane : ¬ (a : Int) = (n : Int) := by omega
         go_wp2_with fail
         refine (jk R[a].blk R[a].cap R[a].xs _ (L3.out.dJ.row _ (List.getElem_mem (l := R) haR)) (fun x hx => by have := hF.out.fit _ (List.getElem_mem haR) x hx; omega) (by rw [hF.out.len _ (List.getElem_mem haR)]; omega)).mono ?_;rintro e w4 ⟨rfl, hb4⟩;have L4 := hi_ (L3.out.below hb4);have C4 := hi_ (C3.out.below hb4);clear L3 C3 hb4 cb ca;have hla3 : lead R[a].xs = la := (eT haR).symm.trans Hla.out;rw [hla3];clear hla3;by_cases hlaj : la = jj
         · have hcase : aw R a jj ≠ 0 /\ Fit B c (bb R a n jj) /\ aw (bb R a n jj) a jj ≠ 0 /\ jA B c n a (jj : Int) (dA R a n jj) res R' := by
            have hPj := hPt.out;have hx := hlt.out;have hl := Hla.out;have hd := Hld.out;cases hPj with
            | zero _ h _ => rw [hd] at h; omega
            | stop _ h1 h2 a' ha' hn' hlt' hb' _ _ =>
             rw [hd] at hlt' hb';rcases Nat.lt_trichotomy a' a with h | h | h
             · have := hx a' ha' h; omega
             · subst h; omega
             · have := hlt' a ha1 h; omega
            | meet _ h1 h2 a' ha' hn' hlt' hj' hp hF1 hp1 hs =>
             rw [hd] at hlt' hj' hp hF1 hp1 hs;have haa : a' = a := by
              rcases Nat.lt_trichotomy a' a with h | h | h
              · have := hx a' ha' h; omega
              · exact h
              · have := hlt' a ha1 h; omega
             subst haa;exact ⟨hp, hF1, hp1, hs⟩
           obtain ⟨m1, m2, m3, m4⟩ := hcase;have M4 := hi_ m4; clear m4;have hlb : ((la : Int) != (jj : Int)) = false := by rw [hlaj]; simp
           have hle2 : (la : Int) = (jj : Int) := by omega
           have Hlaj := hi_ hlaj; clear hlaj;have hmt := AY (S.az R) a n jj B c w4 L4.out haR hnR (by omega) hjc hB hF.out m2 m1 m3 (by show R.length <= 1000000; have := hRl.out; omega) hc HT.out;have HMt := hi_ hmt;clear m1 m2 m3 hmt;go_wp2_with fail
           refine HMt.out.mono ?_;rintro e w5 ⟨rfl, hL5, hC5⟩;have L5 := hi_ hL5;have C5 := hi_ (C4.out.trans (hC5.mono (fun q _ e => (hO.out q).1 e)));clear hL5 hC5 hlb hle2 hanb hane;go_wp2;go_roundw
           case rel => exact ⟨a, (jj : Int), dA R a n jj, by omega, ⟨by omega, by omega⟩, by go_num, by go_num, hi_ ((iC ..).trans hRl.out), M4, L5, C5, hi_ (fun q => (oD (S.az R) a n jj q).trans (hO.out q))⟩
           case measure =>
            simp only [intOf];omega
         · have hbr : a = n ∨ jj < aM R a := by have := Hla.out; omega
           have Hbr := hi_ hbr; clear hbr;have hlb : ((la : Int) != (jj : Int)) = true := by rw [bne_iff_ne]; omega
           have hle2 : ¬ (la : Int) = (jj : Int) := by omega
           clear hlaj;have hstop : res = true /\ Fit B c (aV a n (if aw R n jj < 0 then bL R n else R)) /\ gN B c (dQ (aV a n (if aw R n jj < 0 then bL R n else R)) (n + 1)) (n + 1) (n + 1) (aV a n (if aw R n jj < 0 then bL R n else R)) R' := by
            have hPj := hPt.out;have hx := hlt.out;have hd := Hld.out;have hbr := Hbr.out;cases hPj with
            | zero _ h _ => rw [hd] at h; omega
            | stop _ h1 h2 a' ha' hn' hlt' hb' hF2 hs =>
             rw [hd] at hlt' hb' hF2 hs;have haa : a' = a := by
              rcases Nat.lt_trichotomy a' a with h | h | h
              · have := hx a' ha' h; omega
              · exact h
              · have := hlt' a ha1 h; omega
             subst haa;exact ⟨rfl, hF2, hs⟩
            | meet _ h1 h2 a' ha' hn' hlt' hj' hp hF1 hp1 hs =>
             rw [hd] at hlt' hj';rcases Nat.lt_trichotomy a' a with h | h | h
             · have := hx a' ha' h; omega
             · subst h; omega
             · have := hlt' a ha1 h; omega
           obtain ⟨rfl, hF2, hs2⟩ := hstop;have HF2 := hi_ hF2; clear hF2;have HS2 := hi_ hs2; clear hs2;have hXn := L4.out.dJ.row _ (List.getElem_mem (l := R) hnR);have hjn : jj < R[n].xs.length := by rw [Hcn.out]; exact hjc
           obtain ⟨pn, cp0, cp1, hpn⟩ := hXn.get hjn;have hx0 : R[n].xs[jj] ≠ 0 := pE Hjj.out hjn;have hsg := hpn.sign hx0;have heN := fP hnR hjn;have HXn := hi_ hXn; clear hXn;have Hsg := hi_ hsg; clear hsg;have HeN := hi_ heN; clear heN;clear hpn hx0;have cb : w4.cell? ⟨S.lb, 0, none⟩ = some (.slice (some ⟨S.o, 0, none⟩) R.length S.cap) := L4.out.lad.cell 0;have cn : w4.cell? ⟨S.o, n, none⟩ = some (.slice (some ⟨R[n].blk, 0, none⟩) R[n].xs.length R[n].cap) := L4.out.dJ.cF (i := n) hnR;have sb1 := HXn.out.lt;have sb3 : S.lb < w4.heap.size := L4.out.lad.lt;have sb4 : S.o < w4.heap.size := L4.out.dJ.out.lt;have hjn1 : (jj : Int) < (R[n].xs.length : Int) := by omega
           go_wp2;refine er ⟨18, fun q_ => [73, 74, 75, 76, 77, 78, 79, 80, 81, 82, 83, 84, 85, 86, 87, 88, 89, 90].getD q_ 0,
            fun q_ => [.val (.pointer (some ⟨S.lb, 0, none⟩)), .val (.pointer (some ⟨S.lb, 0, none⟩)), .val (.pointer (some ⟨S.lb, 0, none⟩)), .val (.slice (some ⟨S.o, 0, none⟩) R.length S.cap), .val (.int .i64 (n : Int)), .val (.pointer (some ⟨S.o, n, none⟩)), .val (.slice (some ⟨R[n].blk, 0, none⟩) R[n].xs.length R[n].cap), .val (.pointer (some ⟨S.lb, 0, none⟩)), .val (.pointer (some ⟨S.lb, 0, none⟩)), .val (.pointer (some ⟨S.lb, 0, none⟩)), .val (.slice (some ⟨S.o, 0, none⟩) R.length S.cap), .val (.int .i64 (n : Int)), .val (.pointer (some ⟨S.o, n, none⟩)), .val (.slice (some ⟨R[n].blk, 0, none⟩) R[n].xs.length R[n].cap), .val (.int .i64 (jj : Int)), .val (.pointer (some ⟨R[n].blk, jj * 2, none⟩)), .val (.pointer (some ⟨R[n].blk, jj * 2, none⟩)), .val (.bool pn.1)].getD q_ .any,
            [],
            [],
            [],
            [], [(⟨S.lb, 0, none⟩, .slice (some ⟨S.o, 0, none⟩) R.length S.cap), (⟨S.o, n, none⟩, .slice (some ⟨R[n].blk, 0, none⟩) R[n].xs.length R[n].cap), (⟨R[n].blk, jj * 2, none⟩, .bool pn.1)], []⟩ [73, 74, 75, 76, 77, 78, 79, 80, 81, 82, 83, 84, 85, 86, 87, 88, 89, 90] (w4.heap.size) (by kernel_rfl) (by kernel_rfl) (by kernel_rfl) (by kernel_rfl) ?_ ?_ ?_ ?_ ?_ ?_
           · intro p hp;cases hp
           · intro p hp;cases hp
           · intro p hp;rcases mc hp with rfl | hp
             · refine ⟨cb, by show S.lb < w4.heap.size; omega, ?_⟩;intro t ht;cases ht
             rcases mc hp with rfl | hp
             · refine ⟨cn, by show S.o < w4.heap.size; omega, ?_⟩;intro t ht;cases ht
             rcases mc hp with rfl | hp
             · refine ⟨cp0, by show R[n].blk < w4.heap.size; omega, ?_⟩;intro t ht;cases ht
             cases hp
           · intro t ht;cases ht
           · refine ak ?_ (ak ?_ (ak ?_ (ak ?_ (ak ?_ (ak ?_ (ak ?_ (ak ?_ (ak ?_ (ak ?_ (ak ?_ (ak ?_ (ak ?_ (ak ?_ (ak ?_ (ak ?_ (ak ?_ (ak ?_ kj)))))))))))))))));any_goals (first | (intro L fx w' hJ hL hp hcl; have _ := sr hp (by decide +kernel); refine aP rfl fun K hK => ?_; go_simp; exact hJ.q hK (by kernel_rfl) rfl) | fail)
             · intro L fx w' hJ hL hp hcl;have e0 := hJ.pt 0 73 (.pointer (some ⟨S.lb, 0, none⟩)) rfl rfl rfl (hp 0 (by decide));rw [e0] at hJ ⊢; clear e0;refine aP rfl fun K hK => ?_;go_simp;exact hJ.q hK (by kernel_rfl) rfl
             · intro L fx w' hJ hL hp hcl;have e1 := hJ.pt 1 74 (.pointer (some ⟨S.lb, 0, none⟩)) rfl rfl rfl (hp 1 (by decide));rw [e1] at hJ ⊢; clear e1;refine aP rfl fun K hK => ?_;go_simp;exact hJ.q hK (by kernel_rfl) rfl
             · intro L fx w' hJ hL hp hcl;have e2 := hJ.pt 2 75 (.pointer (some ⟨S.lb, 0, none⟩)) rfl rfl rfl (hp 2 (by decide));rw [e2] at hJ ⊢; clear e2;refine aP rfl fun K hK => ?_;have cl0 := (hJ.cells _ fL).1;try dsimp only at cl0
               go_simp;exact hJ.q hK (by kernel_rfl) rfl
             · intro L fx w' hJ hL hp hcl;have e3 := hJ.pt 3 76 (.slice (some ⟨S.o, 0, none⟩) R.length S.cap) rfl rfl rfl (hp 3 (by decide));rw [e3] at hJ ⊢; clear e3;have e4 := hJ.pt 4 77 (.int .i64 (n : Int)) rfl rfl rfl (hp 4 (by decide));rw [e4] at hJ ⊢; clear e4;refine aP rfl fun K hK => ?_;go_simp;exact hJ.q hK (by kernel_rfl) rfl
             · intro L fx w' hJ hL hp hcl;have e5 := hJ.pt 5 78 (.pointer (some ⟨S.o, n, none⟩)) rfl rfl rfl (hp 5 (by decide));rw [e5] at hJ ⊢; clear e5;refine aP rfl fun K hK => ?_;have cl0 := (hJ.cells _ iQ).1;try dsimp only at cl0
               go_simp;exact hJ.q hK (by kernel_rfl) rfl
             · intro L fx w' hJ hL hp hcl;have e7 := hJ.pt 7 80 (.pointer (some ⟨S.lb, 0, none⟩)) rfl rfl rfl (hp 7 (by decide));rw [e7] at hJ ⊢; clear e7;refine aP rfl fun K hK => ?_;go_simp;exact hJ.q hK (by kernel_rfl) rfl
             · intro L fx w' hJ hL hp hcl;have e8 := hJ.pt 8 81 (.pointer (some ⟨S.lb, 0, none⟩)) rfl rfl rfl (hp 8 (by decide));rw [e8] at hJ ⊢; clear e8;refine aP rfl fun K hK => ?_;go_simp;exact hJ.q hK (by kernel_rfl) rfl
             · intro L fx w' hJ hL hp hcl;have e9 := hJ.pt 9 82 (.pointer (some ⟨S.lb, 0, none⟩)) rfl rfl rfl (hp 9 (by decide));rw [e9] at hJ ⊢; clear e9;refine aP rfl fun K hK => ?_;have cl0 := (hJ.cells _ fL).1;try dsimp only at cl0
               go_simp;exact hJ.q hK (by kernel_rfl) rfl
             · intro L fx w' hJ hL hp hcl;have e10 := hJ.pt 10 83 (.slice (some ⟨S.o, 0, none⟩) R.length S.cap) rfl rfl rfl (hp 10 (by decide));rw [e10] at hJ ⊢; clear e10;have e11 := hJ.pt 11 84 (.int .i64 (n : Int)) rfl rfl rfl (hp 11 (by decide));rw [e11] at hJ ⊢; clear e11;refine aP rfl fun K hK => ?_;go_simp;exact hJ.q hK (by kernel_rfl) rfl
             · intro L fx w' hJ hL hp hcl;have e12 := hJ.pt 12 85 (.pointer (some ⟨S.o, n, none⟩)) rfl rfl rfl (hp 12 (by decide));rw [e12] at hJ ⊢; clear e12;refine aP rfl fun K hK => ?_;have cl0 := (hJ.cells _ iQ).1;try dsimp only at cl0
               go_simp;exact hJ.q hK (by kernel_rfl) rfl
             · intro L fx w' hJ hL hp hcl;have e13 := hJ.pt 13 86 (.slice (some ⟨R[n].blk, 0, none⟩) R[n].xs.length R[n].cap) rfl rfl rfl (hp 13 (by decide));rw [e13] at hJ ⊢; clear e13;refine aP rfl fun K hK => ?_;go_simp;go_at_call 44;refine (jk R[n].blk R[n].cap R[n].xs _ (aK.below (w := w4.drew) HXn.out hJ.fr) (fun x hx => by have := hF.out.fit _ (List.getElem_mem hnR) x hx; omega) (by rw [Hcn.out]; omega)).mono ?_;rintro e w4 ⟨rfl, hb4⟩;try dsimp only
               rw [Hjj.out];exact hK _ _ ⟨_, by kernel_rfl, hJ.gC 14 rfl (by kernel_rfl) hb4 rfl (by omega)⟩
             · intro L fx w' hJ hL hp hcl;have e6 := hJ.pt 6 79 (.slice (some ⟨R[n].blk, 0, none⟩) R[n].xs.length R[n].cap) rfl rfl rfl (hp 6 (by decide));rw [e6] at hJ ⊢; clear e6;have e14 := hJ.pt 14 87 (.int .i64 (jj : Int)) rfl rfl rfl (hp 14 (by decide));rw [e14] at hJ ⊢; clear e14;refine aP rfl fun K hK => ?_;go_simp;exact hJ.q hK (by kernel_rfl) rfl
             · intro L fx w' hJ hL hp hcl;have e15 := hJ.pt 15 88 (.pointer (some ⟨R[n].blk, jj * 2, none⟩)) rfl rfl rfl (hp 15 (by decide));rw [e15] at hJ ⊢; clear e15;refine aP rfl fun K hK => ?_;go_simp;exact hJ.q hK (by kernel_rfl) rfl
             · intro L fx w' hJ hL hp hcl;have e16 := hJ.pt 16 89 (.pointer (some ⟨R[n].blk, jj * 2, none⟩)) rfl rfl rfl (hp 16 (by decide));rw [e16] at hJ ⊢; clear e16;refine aP rfl fun K hK => ?_;have cl0 := (hJ.cells _ qc).1;try dsimp only at cl0
               go_simp;exact hJ.q hK (by kernel_rfl) rfl
           · intro L' x1 w7 hL hJ;have hfr : Below w4.drew.heap.size w4.drew w7 := hJ.fr;have e17 : x1 90 = .bool pn.1 := hJ.slot 17 (by show 17 < 18; decide) (hL 17 (by show 17 < 18; decide));rw [aC (x := x1) (d := 90) (v := .bool pn.1) e17];clear hJ hL e17 cb cn cp0 cp1;have L7 := hi_ (aD.below (w := w4.drew) L4.out.drew hfr);have C7 := hi_ (C4.out.drew.below hfr);clear hfr;simp only [pN, Nat.reduceEqDiff, ↓reduceIte];cases hneg : pn.1
             · have hif : (if aw R n jj < 0 then bL R n else R) = R := if_neg (by
                have := Hsg.out; rw [hneg] at this; rw [HeN.out]; simpa using this.symm)
               have HRF := hi_ HF2.out; have HSF := hi_ HS2.out;rw [hif] at HRF HSF;clear hif;obtain ⟨RF, hRF⟩ : ∃ RF, aV a n R = RF := ⟨_, rfl⟩;rw [hRF] at HRF HSF;have HRFe := hi_ hRF; clear hRF;go_wp2;go_loopw [8] (fun i_ wq => ∃ (i : Nat) (R8 : List Hd), i <= n /\ a <= i /\ i_ = .int .i64 (i : Int) /\ Hid (aV a i R8 = RF) /\ Hid (R8.length = S.R.length) /\ Hid (aD wq (S.az R8)) /\ Hid (aN S.own w wq) /\ Hid (∀ k, (S.az R8).own k ↔ S.own k)) (fun i_ _ => (intOf i_).toNat)
               case atStart => exact ⟨n, R, Nat.le_refl _, ha2, rfl, HRFe, hRl, L7, C7, hO⟩
               case round =>
                obtain ⟨i, R8, hin, hai, rfl, hSw, hR8, hL8, hC8, hO8⟩ := hrel;by_cases hia : a < i
                · obtain ⟨i', rfl⟩ : ∃ i', i = i' + 1 := ⟨i - 1, by omega⟩;have hi8 : i' + 1 < R8.length := by have := hR8.out; have := hRl.out; omega
                  have hi8' : i' < R8.length := by omega
                  have hia1 : (a : Int) < ((i' + 1 : Nat) : Int) := by omega
                  have hcast : ((i' + 1 : Nat) : Int) - 1 = (i' : Int) := by omega
                  have hms := kH (S.az R8) (i' + 1) i' wr hL8.out hi8 hi8' (by omega) (HT.out.jz R8);have HMs := hi_ hms; clear hms;have hcast2 : ((i' + 1 : Nat) : Int) = (i' : Int) + 1 := by omega
                  rw [hcast2] at hia1 hcast HMs ⊢;clear hcast2;have hia2 : (a : Int) < (i' : Int) + 1 := hia1;have hcast3 : (i' : Int) + 1 - 1 = (i' : Int) := by omega
                  go_wp2_with fail
                  refine HMs.out.mono ?_;rintro e w9 ⟨rfl, hL9, hC9⟩;have L9 := hi_ hL9;have C9 := hi_ (hC8.out.trans (hC9.mono (fun q _ e => (hO8.out q).1 e)));clear hL9 hC9;go_wp2;go_roundw
                  case rel =>
                   refine ⟨i', swapT R8 (i' + 1) i', by omega, by omega, by go_num, ?_, hi_ ((bB ..).trans hR8.out), ?_, C9, hi_ (fun q => (fH (S.az R8) (i' + 1) i' q).trans (hO8.out q))⟩
                   · have := hSw.out;unfold aV at this;rw [if_neg (by omega)] at this;exact this
                   · rw [gY hi8 hi8']; exact L9
                  case measure => simp only [intOf]; omega
                · obtain rfl : i = a := by omega
                  have hR8F : R8 = RF := by
                   have := hSw.out;cases i with
                   | zero => exact this
                   | succ q => unfold aV at this; rw [if_pos (Nat.le_refl _)] at this; exact this
                  subst hR8F;have hset := ij (S.az R8) (n + 1) B c R' wr hL8.out (by show n + 1 <= R8.length; have := hR8.out; omega) (by omega) HRF.out HSF.out (by show R8.length <= 1000000; have := hR8.out; omega) hc HT.out;have HSet := hi_ hset; clear hset;have hcn1 : ((n + 1 : Nat) : Int) = (n : Int) + 1 := by omega
                  rw [hcn1] at HSet;clear hcn1;have hgt : ¬ (i : Int) > (i : Int) := by omega
                  go_wp2_with fail
                  refine HSet.out.mono ?_;rintro e w9 ⟨rfl, hL9, hC9⟩;have L9 := hi_ hL9;have C9 := hi_ (hC8.out.trans (hC9.mono (fun q _ e => (hO8.out q).1 e)));clear hL9 hC9;go_wp2;go_ret;exact ⟨rfl, L9.out, C9.out⟩
             · have hif : (if aw R n jj < 0 then bL R n else R) = bL R n := if_pos (by
                have := Hsg.out; rw [hneg] at this; rw [HeN.out]; simpa using this.symm)
               have hlenN : R[n].xs.length <= 4611686018427387903 := by rw [Hcn.out]; omega
               have hmt := tA (S.az R) n w7 L7.out hnR (fun x hx => by have := hF.out.fit _ (List.getElem_mem hnR) x hx; omega) hlenN (HT.out.jz R) (HT.out.xM hF.out);have HMt := hi_ hmt; clear hmt;go_wp2_with fail
               refine HMt.out.mono ?_;rintro e w8 ⟨rfl, hL8, hC8⟩;have C8 := hi_ (C7.out.trans (hC8.mono (fun q _ e => (hO.out q).1 e)));have L8 : Hid (aD w8 (S.az (bL R n))) := by rw [ny hnR]; exact hL8
               have O8 : Hid (∀ k, (S.az (bL R n)).own k ↔ S.own k) := fun q => (ly (S.az R) n q).trans (hO.out q);have N8 : Hid ((bL R n).length = S.R.length) := (fG ..).trans hRl.out;clear hL8 hC8;have HRF := hi_ HF2.out; have HSF := hi_ HS2.out;rw [hif] at HRF HSF;clear hif;obtain ⟨RF, hRF⟩ : ∃ RF, aV a n (bL R n) = RF := ⟨_, rfl⟩;rw [hRF] at HRF HSF;have HRFe := hi_ hRF; clear hRF;go_wp2;go_loopw [8] (fun i_ wq => ∃ (i : Nat) (R8 : List Hd), i <= n /\ a <= i /\ i_ = .int .i64 (i : Int) /\ Hid (aV a i R8 = RF) /\ Hid (R8.length = S.R.length) /\ Hid (aD wq (S.az R8)) /\ Hid (aN S.own w wq) /\ Hid (∀ k, (S.az R8).own k ↔ S.own k)) (fun i_ _ => (intOf i_).toNat)
               case atStart => exact ⟨n, (bL R n), Nat.le_refl _, ha2, rfl, HRFe, N8, L8, C8, O8⟩
               case round =>
                obtain ⟨i, R8, hin, hai, rfl, hSw, hR8, hL8, hC8, hO8⟩ := hrel;by_cases hia : a < i
                · obtain ⟨i', rfl⟩ : ∃ i', i = i' + 1 := ⟨i - 1, by omega⟩;have hi8 : i' + 1 < R8.length := by have := hR8.out; have := hRl.out; omega
                  have hi8' : i' < R8.length := by omega
                  have hia1 : (a : Int) < ((i' + 1 : Nat) : Int) := by omega
                  have hcast : ((i' + 1 : Nat) : Int) - 1 = (i' : Int) := by omega
                  have hms := kH (S.az R8) (i' + 1) i' wr hL8.out hi8 hi8' (by omega) (HT.out.jz R8);have HMs := hi_ hms; clear hms;have hcast2 : ((i' + 1 : Nat) : Int) = (i' : Int) + 1 := by omega
                  rw [hcast2] at hia1 hcast HMs ⊢;clear hcast2;have hia2 : (a : Int) < (i' : Int) + 1 := hia1;have hcast3 : (i' : Int) + 1 - 1 = (i' : Int) := by omega
                  go_wp2_with fail
                  refine HMs.out.mono ?_;rintro e w9 ⟨rfl, hL9, hC9⟩;have L9 := hi_ hL9;have C9 := hi_ (hC8.out.trans (hC9.mono (fun q _ e => (hO8.out q).1 e)));clear hL9 hC9;go_wp2;go_roundw
                  case rel =>
                   refine ⟨i', swapT R8 (i' + 1) i', by omega, by omega, by go_num, ?_, hi_ ((bB ..).trans hR8.out), ?_, C9, hi_ (fun q => (fH (S.az R8) (i' + 1) i' q).trans (hO8.out q))⟩
                   · have := hSw.out;unfold aV at this;rw [if_neg (by omega)] at this;exact this
                   · rw [gY hi8 hi8']; exact L9
                  case measure => simp only [intOf]; omega
                · obtain rfl : i = a := by omega
                  have hR8F : R8 = RF := by
                   have := hSw.out;cases i with
                   | zero => exact this
                   | succ q => unfold aV at this; rw [if_pos (Nat.le_refl _)] at this; exact this
                  subst hR8F;have hset := ij (S.az R8) (n + 1) B c R' wr hL8.out (by show n + 1 <= R8.length; have := hR8.out; omega) (by omega) HRF.out HSF.out (by show R8.length <= 1000000; have := hR8.out; omega) hc HT.out;have HSet := hi_ hset; clear hset;have hcn1 : ((n + 1 : Nat) : Int) = (n : Int) + 1 := by omega
                  rw [hcn1] at HSet;clear hcn1;have hgt : ¬ (i : Int) > (i : Int) := by omega
                  go_wp2_with fail
                  refine HSet.out.mono ?_;rintro e w9 ⟨rfl, hL9, hC9⟩;have L9 := hi_ hL9;have C9 := hi_ (hC8.out.trans (hC9.mono (fun q _ e => (hO8.out q).1 e)));clear hL9 hC9;go_wp2;go_ret;exact ⟨rfl, L9.out, C9.out⟩
     · have hbr : a = n ∨ jj < aM R a := by omega
       have Hbr := hi_ hbr; clear hbr;have hnlt : ¬ (a : Int) < (n : Int) := by omega
       have hanb : ((a : Int) == (n : Int)) = true := by rw [beq_iff_eq]; omega
       have hstop : res = true /\ Fit B c (aV a n (if aw R n jj < 0 then bL R n else R)) /\ gN B c (dQ (aV a n (if aw R n jj < 0 then bL R n else R)) (n + 1)) (n + 1) (n + 1) (aV a n (if aw R n jj < 0 then bL R n else R)) R' := by
        have hPj := hPt.out;have hx := hlt.out;have hd := Hld.out;have hbr := Hbr.out;cases hPj with
        | zero _ h _ => rw [hd] at h; omega
        | stop _ h1 h2 a' ha' hn' hlt' hb' hF2 hs =>
         rw [hd] at hlt' hb' hF2 hs;have haa : a' = a := by
          rcases Nat.lt_trichotomy a' a with h | h | h
          · have := hx a' ha' h; omega
          · exact h
          · have := hlt' a ha1 h; omega
         subst haa;exact ⟨rfl, hF2, hs⟩
        | meet _ h1 h2 a' ha' hn' hlt' hj' hp hF1 hp1 hs =>
         rw [hd] at hlt' hj';rcases Nat.lt_trichotomy a' a with h | h | h
         · have := hx a' ha' h; omega
         · subst h; omega
         · have := hlt' a ha1 h; omega
       obtain ⟨rfl, hF2, hs2⟩ := hstop;have HF2 := hi_ hF2; clear hF2;have HS2 := hi_ hs2; clear hs2;have hXn := hLq.out.dJ.row _ (List.getElem_mem (l := R) hnR);have hjn : jj < R[n].xs.length := by rw [Hcn.out]; exact hjc
       obtain ⟨pn, cp0, cp1, hpn⟩ := hXn.get hjn;have hx0 : R[n].xs[jj] ≠ 0 := pE Hjj.out hjn;have hsg := hpn.sign hx0;have heN := fP hnR hjn;have HXn := hi_ hXn; clear hXn;have Hsg := hi_ hsg; clear hsg;have HeN := hi_ heN; clear heN;clear hpn hx0;have cb : wr.cell? ⟨S.lb, 0, none⟩ = some (.slice (some ⟨S.o, 0, none⟩) R.length S.cap) := hLq.out.lad.cell 0;have cn : wr.cell? ⟨S.o, n, none⟩ = some (.slice (some ⟨R[n].blk, 0, none⟩) R[n].xs.length R[n].cap) := hLq.out.dJ.cF (i := n) hnR;have sb1 := HXn.out.lt;have sb3 : S.lb < wr.heap.size := hLq.out.lad.lt;have sb4 : S.o < wr.heap.size := hLq.out.dJ.out.lt;have hjn1 : (jj : Int) < (R[n].xs.length : Int) := by omega
       go_wp2;refine er ⟨18, fun q_ => [73, 74, 75, 76, 77, 78, 79, 80, 81, 82, 83, 84, 85, 86, 87, 88, 89, 90].getD q_ 0,
        fun q_ => [.val (.pointer (some ⟨S.lb, 0, none⟩)), .val (.pointer (some ⟨S.lb, 0, none⟩)), .val (.pointer (some ⟨S.lb, 0, none⟩)), .val (.slice (some ⟨S.o, 0, none⟩) R.length S.cap), .val (.int .i64 (n : Int)), .val (.pointer (some ⟨S.o, n, none⟩)), .val (.slice (some ⟨R[n].blk, 0, none⟩) R[n].xs.length R[n].cap), .val (.pointer (some ⟨S.lb, 0, none⟩)), .val (.pointer (some ⟨S.lb, 0, none⟩)), .val (.pointer (some ⟨S.lb, 0, none⟩)), .val (.slice (some ⟨S.o, 0, none⟩) R.length S.cap), .val (.int .i64 (n : Int)), .val (.pointer (some ⟨S.o, n, none⟩)), .val (.slice (some ⟨R[n].blk, 0, none⟩) R[n].xs.length R[n].cap), .val (.int .i64 (jj : Int)), .val (.pointer (some ⟨R[n].blk, jj * 2, none⟩)), .val (.pointer (some ⟨R[n].blk, jj * 2, none⟩)), .val (.bool pn.1)].getD q_ .any,
        [],
        [],
        [],
        [], [(⟨S.lb, 0, none⟩, .slice (some ⟨S.o, 0, none⟩) R.length S.cap), (⟨S.o, n, none⟩, .slice (some ⟨R[n].blk, 0, none⟩) R[n].xs.length R[n].cap), (⟨R[n].blk, jj * 2, none⟩, .bool pn.1)], []⟩ [73, 74, 75, 76, 77, 78, 79, 80, 81, 82, 83, 84, 85, 86, 87, 88, 89, 90] (wr.heap.size) (by kernel_rfl) (by kernel_rfl) (by kernel_rfl) (by kernel_rfl) ?_ ?_ ?_ ?_ ?_ ?_
       · intro p hp;cases hp
       · intro p hp;cases hp
       · intro p hp;rcases mc hp with rfl | hp
         · refine ⟨cb, by show S.lb < wr.heap.size; omega, ?_⟩;intro t ht;cases ht
         rcases mc hp with rfl | hp
         · refine ⟨cn, by show S.o < wr.heap.size; omega, ?_⟩;intro t ht;cases ht
         rcases mc hp with rfl | hp
         · refine ⟨cp0, by show R[n].blk < wr.heap.size; omega, ?_⟩;intro t ht;cases ht
         cases hp
       · intro t ht;cases ht
       · refine ak ?_ (ak ?_ (ak ?_ (ak ?_ (ak ?_ (ak ?_ (ak ?_ (ak ?_ (ak ?_ (ak ?_ (ak ?_ (ak ?_ (ak ?_ (ak ?_ (ak ?_ (ak ?_ (ak ?_ (ak ?_ kj)))))))))))))))));any_goals (first | (intro L fx w' hJ hL hp hcl; have _ := sr hp (by decide +kernel); refine aP rfl fun K hK => ?_; go_simp; exact hJ.q hK (by kernel_rfl) rfl) | fail)
         · intro L fx w' hJ hL hp hcl;have e0 := hJ.pt 0 73 (.pointer (some ⟨S.lb, 0, none⟩)) rfl rfl rfl (hp 0 (by decide));rw [e0] at hJ ⊢; clear e0;refine aP rfl fun K hK => ?_;go_simp;exact hJ.q hK (by kernel_rfl) rfl
         · intro L fx w' hJ hL hp hcl;have e1 := hJ.pt 1 74 (.pointer (some ⟨S.lb, 0, none⟩)) rfl rfl rfl (hp 1 (by decide));rw [e1] at hJ ⊢; clear e1;refine aP rfl fun K hK => ?_;go_simp;exact hJ.q hK (by kernel_rfl) rfl
         · intro L fx w' hJ hL hp hcl;have e2 := hJ.pt 2 75 (.pointer (some ⟨S.lb, 0, none⟩)) rfl rfl rfl (hp 2 (by decide));rw [e2] at hJ ⊢; clear e2;refine aP rfl fun K hK => ?_;have cl0 := (hJ.cells _ fL).1;try dsimp only at cl0
           go_simp;exact hJ.q hK (by kernel_rfl) rfl
         · intro L fx w' hJ hL hp hcl;have e3 := hJ.pt 3 76 (.slice (some ⟨S.o, 0, none⟩) R.length S.cap) rfl rfl rfl (hp 3 (by decide));rw [e3] at hJ ⊢; clear e3;have e4 := hJ.pt 4 77 (.int .i64 (n : Int)) rfl rfl rfl (hp 4 (by decide));rw [e4] at hJ ⊢; clear e4;refine aP rfl fun K hK => ?_;go_simp;exact hJ.q hK (by kernel_rfl) rfl
         · intro L fx w' hJ hL hp hcl;have e5 := hJ.pt 5 78 (.pointer (some ⟨S.o, n, none⟩)) rfl rfl rfl (hp 5 (by decide));rw [e5] at hJ ⊢; clear e5;refine aP rfl fun K hK => ?_;have cl0 := (hJ.cells _ iQ).1;try dsimp only at cl0
           go_simp;exact hJ.q hK (by kernel_rfl) rfl
         · intro L fx w' hJ hL hp hcl;have e7 := hJ.pt 7 80 (.pointer (some ⟨S.lb, 0, none⟩)) rfl rfl rfl (hp 7 (by decide));rw [e7] at hJ ⊢; clear e7;refine aP rfl fun K hK => ?_;go_simp;exact hJ.q hK (by kernel_rfl) rfl
         · intro L fx w' hJ hL hp hcl;have e8 := hJ.pt 8 81 (.pointer (some ⟨S.lb, 0, none⟩)) rfl rfl rfl (hp 8 (by decide));rw [e8] at hJ ⊢; clear e8;refine aP rfl fun K hK => ?_;go_simp;exact hJ.q hK (by kernel_rfl) rfl
         · intro L fx w' hJ hL hp hcl;have e9 := hJ.pt 9 82 (.pointer (some ⟨S.lb, 0, none⟩)) rfl rfl rfl (hp 9 (by decide));rw [e9] at hJ ⊢; clear e9;refine aP rfl fun K hK => ?_;have cl0 := (hJ.cells _ fL).1;try dsimp only at cl0
           go_simp;exact hJ.q hK (by kernel_rfl) rfl
         · intro L fx w' hJ hL hp hcl;have e10 := hJ.pt 10 83 (.slice (some ⟨S.o, 0, none⟩) R.length S.cap) rfl rfl rfl (hp 10 (by decide));rw [e10] at hJ ⊢; clear e10;have e11 := hJ.pt 11 84 (.int .i64 (n : Int)) rfl rfl rfl (hp 11 (by decide));rw [e11] at hJ ⊢; clear e11;refine aP rfl fun K hK => ?_;go_simp;exact hJ.q hK (by kernel_rfl) rfl
         · intro L fx w' hJ hL hp hcl;have e12 := hJ.pt 12 85 (.pointer (some ⟨S.o, n, none⟩)) rfl rfl rfl (hp 12 (by decide));rw [e12] at hJ ⊢; clear e12;refine aP rfl fun K hK => ?_;have cl0 := (hJ.cells _ iQ).1;try dsimp only at cl0
           go_simp;exact hJ.q hK (by kernel_rfl) rfl
         · intro L fx w' hJ hL hp hcl;have e13 := hJ.pt 13 86 (.slice (some ⟨R[n].blk, 0, none⟩) R[n].xs.length R[n].cap) rfl rfl rfl (hp 13 (by decide));rw [e13] at hJ ⊢; clear e13;refine aP rfl fun K hK => ?_;go_simp;go_at_call 44;refine (jk R[n].blk R[n].cap R[n].xs _ (aK.below (w := wr.drew) HXn.out hJ.fr) (fun x hx => by have := hF.out.fit _ (List.getElem_mem hnR) x hx; omega) (by rw [Hcn.out]; omega)).mono ?_;rintro e w4 ⟨rfl, hb4⟩;try dsimp only
           rw [Hjj.out];exact hK _ _ ⟨_, by kernel_rfl, hJ.gC 14 rfl (by kernel_rfl) hb4 rfl (by omega)⟩
         · intro L fx w' hJ hL hp hcl;have e6 := hJ.pt 6 79 (.slice (some ⟨R[n].blk, 0, none⟩) R[n].xs.length R[n].cap) rfl rfl rfl (hp 6 (by decide));rw [e6] at hJ ⊢; clear e6;have e14 := hJ.pt 14 87 (.int .i64 (jj : Int)) rfl rfl rfl (hp 14 (by decide));rw [e14] at hJ ⊢; clear e14;refine aP rfl fun K hK => ?_;go_simp;exact hJ.q hK (by kernel_rfl) rfl
         · intro L fx w' hJ hL hp hcl;have e15 := hJ.pt 15 88 (.pointer (some ⟨R[n].blk, jj * 2, none⟩)) rfl rfl rfl (hp 15 (by decide));rw [e15] at hJ ⊢; clear e15;refine aP rfl fun K hK => ?_;go_simp;exact hJ.q hK (by kernel_rfl) rfl
         · intro L fx w' hJ hL hp hcl;have e16 := hJ.pt 16 89 (.pointer (some ⟨R[n].blk, jj * 2, none⟩)) rfl rfl rfl (hp 16 (by decide));rw [e16] at hJ ⊢; clear e16;refine aP rfl fun K hK => ?_;have cl0 := (hJ.cells _ qc).1;try dsimp only at cl0
           go_simp;exact hJ.q hK (by kernel_rfl) rfl
       · intro L' x1 w7 hL hJ;have hfr : Below wr.drew.heap.size wr.drew w7 := hJ.fr;have e17 : x1 90 = .bool pn.1 := hJ.slot 17 (by show 17 < 18; decide) (hL 17 (by show 17 < 18; decide));rw [aC (x := x1) (d := 90) (v := .bool pn.1) e17];clear hJ hL e17 cb cn cp0 cp1;have L7 := hi_ (aD.below (w := wr.drew) hLq.out.drew hfr);have C7 := hi_ (hCq.out.drew.below hfr);clear hfr;simp only [pN, Nat.reduceEqDiff, ↓reduceIte];cases hneg : pn.1
         · have hif : (if aw R n jj < 0 then bL R n else R) = R := if_neg (by
            have := Hsg.out; rw [hneg] at this; rw [HeN.out]; simpa using this.symm)
           have HRF := hi_ HF2.out; have HSF := hi_ HS2.out;rw [hif] at HRF HSF;clear hif;obtain ⟨RF, hRF⟩ : ∃ RF, aV a n R = RF := ⟨_, rfl⟩;rw [hRF] at HRF HSF;have HRFe := hi_ hRF; clear hRF;go_wp2;go_loopw [8] (fun i_ wq => ∃ (i : Nat) (R8 : List Hd), i <= n /\ a <= i /\ i_ = .int .i64 (i : Int) /\ Hid (aV a i R8 = RF) /\ Hid (R8.length = S.R.length) /\ Hid (aD wq (S.az R8)) /\ Hid (aN S.own w wq) /\ Hid (∀ k, (S.az R8).own k ↔ S.own k)) (fun i_ _ => (intOf i_).toNat)
           case atStart => exact ⟨n, R, Nat.le_refl _, ha2, rfl, HRFe, hRl, L7, C7, hO⟩
           case round =>
            obtain ⟨i, R8, hin, hai, rfl, hSw, hR8, hL8, hC8, hO8⟩ := hrel;by_cases hia : a < i
            · obtain ⟨i', rfl⟩ : ∃ i', i = i' + 1 := ⟨i - 1, by omega⟩;have hi8 : i' + 1 < R8.length := by have := hR8.out; have := hRl.out; omega
              have hi8' : i' < R8.length := by omega
              have hia1 : (a : Int) < ((i' + 1 : Nat) : Int) := by omega
              have hcast : ((i' + 1 : Nat) : Int) - 1 = (i' : Int) := by omega
              have hms := kH (S.az R8) (i' + 1) i' wr hL8.out hi8 hi8' (by omega) (HT.out.jz R8);have HMs := hi_ hms; clear hms;have hcast2 : ((i' + 1 : Nat) : Int) = (i' : Int) + 1 := by omega
              rw [hcast2] at hia1 hcast HMs ⊢;clear hcast2;have hia2 : (a : Int) < (i' : Int) + 1 := hia1;have hcast3 : (i' : Int) + 1 - 1 = (i' : Int) := by omega
              go_wp2_with fail
              refine HMs.out.mono ?_;rintro e w9 ⟨rfl, hL9, hC9⟩;have L9 := hi_ hL9;have C9 := hi_ (hC8.out.trans (hC9.mono (fun q _ e => (hO8.out q).1 e)));clear hL9 hC9;go_wp2;go_roundw
              case rel =>
               refine ⟨i', swapT R8 (i' + 1) i', by omega, by omega, by go_num, ?_, hi_ ((bB ..).trans hR8.out), ?_, C9, hi_ (fun q => (fH (S.az R8) (i' + 1) i' q).trans (hO8.out q))⟩
               · have := hSw.out;unfold aV at this;rw [if_neg (by omega)] at this;exact this
               · rw [gY hi8 hi8']; exact L9
              case measure => simp only [intOf]; omega
            · obtain rfl : i = a := by omega
              have hR8F : R8 = RF := by
               have := hSw.out;cases i with
               | zero => exact this
               | succ q => unfold aV at this; rw [if_pos (Nat.le_refl _)] at this; exact this
              subst hR8F;have hset := ij (S.az R8) (n + 1) B c R' wr hL8.out (by show n + 1 <= R8.length; have := hR8.out; omega) (by omega) HRF.out HSF.out (by show R8.length <= 1000000; have := hR8.out; omega) hc HT.out;have HSet := hi_ hset; clear hset;have hcn1 : ((n + 1 : Nat) : Int) = (n : Int) + 1 := by omega
              rw [hcn1] at HSet;clear hcn1;have hgt : ¬ (i : Int) > (i : Int) := by omega
              go_wp2_with fail
              refine HSet.out.mono ?_;rintro e w9 ⟨rfl, hL9, hC9⟩;have L9 := hi_ hL9;have C9 := hi_ (hC8.out.trans (hC9.mono (fun q _ e => (hO8.out q).1 e)));clear hL9 hC9;go_wp2;go_ret;exact ⟨rfl, L9.out, C9.out⟩
         · have hif : (if aw R n jj < 0 then bL R n else R) = bL R n := if_pos (by
            have := Hsg.out; rw [hneg] at this; rw [HeN.out]; simpa using this.symm)
           have hlenN : R[n].xs.length <= 4611686018427387903 := by rw [Hcn.out]; omega
           have hmt := tA (S.az R) n w7 L7.out hnR (fun x hx => by have := hF.out.fit _ (List.getElem_mem hnR) x hx; omega) hlenN (HT.out.jz R) (HT.out.xM hF.out);have HMt := hi_ hmt; clear hmt;go_wp2_with fail
           refine HMt.out.mono ?_;rintro e w8 ⟨rfl, hL8, hC8⟩;have C8 := hi_ (C7.out.trans (hC8.mono (fun q _ e => (hO.out q).1 e)));have L8 : Hid (aD w8 (S.az (bL R n))) := by rw [ny hnR]; exact hL8
           have O8 : Hid (∀ k, (S.az (bL R n)).own k ↔ S.own k) := fun q => (ly (S.az R) n q).trans (hO.out q);have N8 : Hid ((bL R n).length = S.R.length) := (fG ..).trans hRl.out;clear hL8 hC8;have HRF := hi_ HF2.out; have HSF := hi_ HS2.out;rw [hif] at HRF HSF;clear hif;obtain ⟨RF, hRF⟩ : ∃ RF, aV a n (bL R n) = RF := ⟨_, rfl⟩;rw [hRF] at HRF HSF;have HRFe := hi_ hRF; clear hRF;go_wp2;go_loopw [8] (fun i_ wq => ∃ (i : Nat) (R8 : List Hd), i <= n /\ a <= i /\ i_ = .int .i64 (i : Int) /\ Hid (aV a i R8 = RF) /\ Hid (R8.length = S.R.length) /\ Hid (aD wq (S.az R8)) /\ Hid (aN S.own w wq) /\ Hid (∀ k, (S.az R8).own k ↔ S.own k)) (fun i_ _ => (intOf i_).toNat)
           case atStart => exact ⟨n, (bL R n), Nat.le_refl _, ha2, rfl, HRFe, N8, L8, C8, O8⟩
           case round =>
            obtain ⟨i, R8, hin, hai, rfl, hSw, hR8, hL8, hC8, hO8⟩ := hrel;by_cases hia : a < i
            · obtain ⟨i', rfl⟩ : ∃ i', i = i' + 1 := ⟨i - 1, by omega⟩;have hi8 : i' + 1 < R8.length := by have := hR8.out; have := hRl.out; omega
              have hi8' : i' < R8.length := by omega
              have hia1 : (a : Int) < ((i' + 1 : Nat) : Int) := by omega
              have hcast : ((i' + 1 : Nat) : Int) - 1 = (i' : Int) := by omega
              have hms := kH (S.az R8) (i' + 1) i' wr hL8.out hi8 hi8' (by omega) (HT.out.jz R8);have HMs := hi_ hms; clear hms;have hcast2 : ((i' + 1 : Nat) : Int) = (i' : Int) + 1 := by omega
              rw [hcast2] at hia1 hcast HMs ⊢;clear hcast2;have hia2 : (a : Int) < (i' : Int) + 1 := hia1;have hcast3 : (i' : Int) + 1 - 1 = (i' : Int) := by omega
              go_wp2_with fail
              refine HMs.out.mono ?_;rintro e w9 ⟨rfl, hL9, hC9⟩;have L9 := hi_ hL9;have C9 := hi_ (hC8.out.trans (hC9.mono (fun q _ e => (hO8.out q).1 e)));clear hL9 hC9;go_wp2;go_roundw
              case rel =>
               refine ⟨i', swapT R8 (i' + 1) i', by omega, by omega, by go_num, ?_, hi_ ((bB ..).trans hR8.out), ?_, C9, hi_ (fun q => (fH (S.az R8) (i' + 1) i' q).trans (hO8.out q))⟩
               · have := hSw.out;unfold aV at this;rw [if_neg (by omega)] at this;exact this
               · rw [gY hi8 hi8']; exact L9
              case measure => simp only [intOf]; omega
            · obtain rfl : i = a := by omega
              have hR8F : R8 = RF := by
               have := hSw.out;cases i with
               | zero => exact this
               | succ q => unfold aV at this; rw [if_pos (Nat.le_refl _)] at this; exact this
              subst hR8F;have hset := ij (S.az R8) (n + 1) B c R' wr hL8.out (by show n + 1 <= R8.length; have := hR8.out; omega) (by omega) HRF.out HSF.out (by show R8.length <= 1000000; have := hR8.out; omega) hc HT.out;have HSet := hi_ hset; clear hset;have hcn1 : ((n + 1 : Nat) : Int) = (n : Int) + 1 := by omega
              rw [hcn1] at HSet;clear hcn1;have hgt : ¬ (i : Int) > (i : Int) := by omega
              go_wp2_with fail
              refine HSet.out.mono ?_;rintro e w9 ⟨rfl, hL9, hC9⟩;have L9 := hi_ hL9;have C9 := hi_ (hC8.out.trans (hC9.mono (fun q _ e => (hO8.out q).1 e)));clear hL9 hC9;go_wp2;go_ret;exact ⟨rfl, L9.out, C9.out⟩
def lW : Nat -> Nat -> List Hd -> List Hd
 | 0, _, R => R
 | k + 1, i, R => lW k (i + 1) (swapT R i (i + 1))
inductive lU (B c : Nat) : Nat -> Nat -> List Hd -> Nat -> List Hd -> Prop
 | fin {d e : Nat} {R : List Hd} (h : e <= d) : lU B c d e R d R
 | ok {d e k : Nat} {R R1 R' : List Hd} (h : d < e) (hp : jA B c d 0 (-1) R true R1) (hs : lU B c (d + 1) e R1 k R') : lU B c d e R k R'
 | zero {d e k : Nat} {R R1 R' : List Hd} (h : d < e) (hp : jA B c d 0 (-1) R false R1) (hs : lU B c d (e - 1) (lW (e - 1 - d) d R1) k R') : lU B c d e R k R'
theorem gN.length {B c : Nat} {ls : List Nat} {n m : Nat} {R R' : List Hd} (h : gN B c ls n m R R') : R'.length = R.length := by
 induction h with
 | done => rfl
 | step h1 _ ih => rw [ih, h1.length]
theorem gJ (a : Nat) : ∀ (i : Nat) (R : List Hd), (aV a i R).length = R.length
 | 0, R => rfl
 | i + 1, R => by
  unfold aV; split
  · rfl
  · rw [gJ a i, bB]
theorem jA.length {B c n a : Nat} {l : Int} {R R' : List Hd} {b : Bool} (h : jA B c n a l R b R') : R'.length = R.length := by
 induction h with
 | zero _ _ hs => exact hs.length
 | stop _ _ _ _ _ _ _ _ _ hs =>
  rw [hs.length, gJ];split
  · exact fG ..
  · rfl
 | meet _ _ _ _ _ _ _ _ _ _ _ _ ih => rw [ih, iC]
theorem x9 (S : ct) (R : List Hd) (i j : Nat) (x : Int) (q : Nat) : (S.az (gS R i j x)).own q ↔ (S.az R).own q := n9 (S.az R) i j x q
theorem uQ (S : ct) (R : List Hd) (i q : Nat) : (S.az (bL R i)).own q ↔ (S.az R).own q := ly (S.az R) i q
theorem uM (S : ct) (R : List Hd) (k n j q : Nat) : (S.az (dA R k n j)).own q ↔ (S.az R).own q := oD (S.az R) k n j q
theorem yZ {B c i n k : Nat} {ls : List Nat} {R R' : List Hd} (h : sY B c ls i n k R R') : ∀ (S : ct) (q : Nat), (S.az R').own q ↔ (S.az R).own q := by
 induction h with
 | done _ => exact fun _ _ => Iff.rfl
 | step _ _ _ _ _ ih => exact fun S q => (ih S q).trans (x9 S _ _ _ _ q)
theorem rB {B c n m : Nat} {ls : List Nat} {R R' : List Hd} (h : gN B c ls n m R R') : ∀ (S : ct) (q : Nat), (S.az R').own q ↔ (S.az R).own q := by
 induction h with
 | done => exact fun _ _ => Iff.rfl
 | step h1 _ ih => exact fun S q => (ih S q).trans (yZ h1 S q)
theorem ni (a : Nat) : ∀ (i : Nat) (R : List Hd) (S : ct) (q : Nat), (S.az (aV a i R)).own q ↔ (S.az R).own q
 | 0, R, S, q => Iff.rfl
 | i + 1, R, S, q => by
  unfold aV; split
  · exact Iff.rfl
  · exact (ni a i _ S q).trans (fH (S.az R) _ _ q)
theorem xw {B c n a : Nat} {l : Int} {R R' : List Hd} {b : Bool} (h : jA B c n a l R b R') : ∀ (S : ct) (q : Nat), (S.az R').own q ↔ (S.az R).own q := by
 induction h with
 | zero _ _ hs => exact rB hs
 | stop _ _ _ _ _ _ _ _ _ hs =>
  refine fun S q => (rB hs S q).trans ((ni _ _ _ S q).trans ?_);split
  · exact uQ S _ _ q
  · exact Iff.rfl
 | meet _ _ _ _ _ _ _ _ _ _ _ _ ih => exact fun S q => (ih S q).trans (uM S _ _ _ _ q)
theorem vC (S : ct) (B c k : Nat) (R' : List Hd) (w : World) (h : aD w S) (hB : B <= 4000000000000) (hP : lU B c 0 S.R.length S.R k R') (hR : S.R.length <= 100000) (hc : c <= 1000000) (hT : S.sat B c) :
 Calls Tryz.prog 78 #[.pointer (some ⟨S.lb, 0, none⟩)] w fun e w' => e = .returned (.int .i64 (k : Int)) /\ aD w' (S.az R') /\ aN S.own w w' := by
 have HT := hi_ hT; clear hT;have cb : w.cell? ⟨S.lb, 0, none⟩ = some (.slice (some ⟨S.o, 0, none⟩) S.R.length S.cap) := h.lad.cell 0;have HL := hi_ h; clear h;have HP := hi_ hP; clear hP;go_enter Tryz.func78, Tryz.ntmps78;go_wp2
 go_region_held3 (fun w' => w'.cell? ⟨S.lb, 0, none⟩ = some (.slice (some ⟨S.o, 0, none⟩) S.R.length S.cap)) (first | exact cb) (fail)
 go_wp2;have HL1 := hi_ HL.out.drew;have HC1 := hi_ (aN.refl S.own w).drew;clear cb;go_loopw [3, 4] (fun d_ e_ wr => ∃ (d e : Nat) (R : List Hd), d <= e /\ e <= S.R.length /\ d_ = .int .i64 (d : Int) /\ e_ = .int .i64 (e : Int) /\ Hid (lU B c d e R k R') /\ Hid (R.length = S.R.length) /\ Hid (aD wr (S.az R)) /\ Hid (aN S.own w wr) /\ Hid (∀ q, (S.az R).own q ↔ S.own q)) (fun d_ e_ _ => (intOf e_ - intOf d_).toNat)
 case atStart => exact ⟨0, S.R.length, S.R, Nat.zero_le _, Nat.le_refl _, rfl, rfl, HP, rfl, HL1, HC1, fun _ => Iff.rfl⟩
 case round =>
  obtain ⟨d, e, R, hde, heR, rfl, rfl, hRed, hRl, hL, hC, hO⟩ := hrel;by_cases hd : d < e
  · have hd1 : (d : Int) < (e : Int) := by omega
    have hdR : d < R.length := by have := hRl.out; omega
    have hcase : ∃ b R1, jA B c d 0 (-1) R b R1 /\ (b = true -> lU B c (d + 1) e R1 k R') /\ (b = false -> lU B c d (e - 1) (lW (e - 1 - d) d R1) k R') := by
     cases hRed.out with
     | fin h => omega
     | ok _ hp hs => exact ⟨true, _, hp, fun _ => hs, fun h => by cases h⟩
     | zero _ hp hs => exact ⟨false, _, hp, fun h => (by cases h), fun _ => hs⟩
    obtain ⟨b, R1, hp, hs1, hs2⟩ := hcase;have hput := Put_c (S.az R) d B c b R1 wr hL.out hdR hB hp (by show R.length <= 100000; have := hRl.out; omega) hc HT.out;have HPut := hi_ hput;have HR1 := hi_ (hp.length.trans hRl.out);have HO1 := hi_ (fun q => (xw hp S q).trans (hO.out q));have HS1 := hi_ hs1;have HS2 := hi_ hs2;clear hput hp hs1 hs2 hRed;go_wp2_with fail
    refine HPut.out.mono ?_;rintro e' w2 ⟨rfl, hL2, hC2⟩;have L2 := hi_ hL2;have C2 := hi_ (hC.out.trans (hC2.mono (fun q _ e => (hO.out q).1 e)));clear hL2 hC2 hL hC;cases b
    · have HSF := hi_ (HS2.out rfl);have hec : ((e - 1 : Nat) : Int) = (e : Int) - 1 := by omega
      have Hec := hi_ hec; clear hec;go_wp2;go_loopw [5] (fun i_ wq => ∃ (i : Nat) (R2 : List Hd), d <= i /\ i <= e - 1 /\ i_ = .int .i64 (i : Int) /\ Hid (lW (e - 1 - i) i R2 = lW (e - 1 - d) d R1) /\ Hid (R2.length = S.R.length) /\ Hid (aD wq (S.az R2)) /\ Hid (aN S.own w wq) /\ Hid (∀ q, (S.az R2).own q ↔ S.own q)) (fun i_ _ => ((e : Int) - intOf i_).toNat)
      case atStart => exact ⟨d, R1, Nat.le_refl _, by omega, rfl, rfl, HR1, L2, C2, HO1⟩
      case round =>
       obtain ⟨i, R2, hdi, hie, rfl, hRot, hR2, hL2, hC2, hO2⟩ := hrel;by_cases hi : i < e - 1
       · have hi1 : (i : Int) < (e : Int) - 1 := by omega
         have hiR : i < R2.length := by have := hR2.out; omega
         have hiR1 : i + 1 < R2.length := by have := hR2.out; omega
         have hms := kH (S.az R2) i (i + 1) wr hL2.out hiR hiR1 (by omega) (HT.out.jz R2);have hcast : ((i + 1 : Nat) : Int) = (i : Int) + 1 := by omega
         rw [hcast] at hms;have HMs := hi_ hms; clear hms hcast;go_wp2_with fail
         refine HMs.out.mono ?_;rintro e'' w9 ⟨rfl, hL9, hC9⟩;have L9 := hi_ hL9;have C9 := hi_ (hC2.out.trans (hC9.mono (fun q _ e => (hO2.out q).1 e)));clear hL9 hC9;go_wp2;go_roundw
         case rel =>
          refine ⟨i + 1, swapT R2 i (i + 1), by omega, by omega, by go_num, ?_, hi_ ((bB ..).trans hR2.out), ?_, C9, hi_ (fun q => (fH (S.az R2) i (i + 1) q).trans (hO2.out q))⟩
          · have h2 := hRot.out;have h3 : e - 1 - i = (e - 1 - (i + 1)) + 1 := by omega
            rw [h3] at h2;exact h2
          · rw [gY hiR hiR1]; exact L9
         case measure => simp only [intOf]; omega
       · have hi1 : ¬ (i : Int) < (e : Int) - 1 := by omega
         have hie2 : e - 1 - i = 0 := by omega
         have hfin : R2 = lW (e - 1 - d) d R1 := by
          have h2 := hRot.out;rw [hie2] at h2;exact h2
         have HFin := hi_ hfin; clear hfin hie2;go_wp2;go_roundw
         case rel =>
          refine ⟨d, e - 1, R2, by omega, by omega, by go_num, by go_num, ?_, hR2, hL2, hC2, hO2⟩;rw [HFin.out];exact HSF
         case measure => simp only [intOf]; omega
    · have HSF := hi_ (HS1.out rfl);go_wp2;go_roundw
      case rel => exact ⟨d + 1, e, R1, by omega, by omega, by go_num, by go_num, HSF, HR1, L2, C2, HO1⟩
      case measure => simp only [intOf]; omega
  · have hd1 : ¬ (d : Int) < (e : Int) := by omega
    have hfin : d = k /\ R = R' := by
     cases hRed.out with
     | fin h => exact ⟨rfl, rfl⟩
     | ok h _ _ => omega
     | zero h _ _ => omega
    have HFin := hi_ hfin; clear hfin;go_wp2;go_ret;rw [<- HFin.out.1, <- HFin.out.2];exact ⟨rfl, hL.out, hC.out⟩
end Go.Proofs.YtjjlmfmoihooiaaGreat
namespace Go.Proofs.YtjjlmfmoihooiaaGreat
def Sh (c : Nat) (R : List Hd) : Prop := ∀ h ∈ R, h.xs.length = c
theorem bU {R : List Hd} {i : Nat} (hi : i < R.length) (j : Nat) : aw R i j = R[i].xs.getD j 0 := by
 unfold aw; simp [hi]
theorem eB {R : List Hd} {i : Nat} (hi : R.length <= i) (j : Nat) : aw R i j = 0 := by
 unfold aw; rw [List.getElem?_eq_none hi]; rfl
theorem Sh.get {c : Nat} {R : List Hd} (h : Sh c R) {i : Nat} (hi : i < R.length) : R[i].xs.length = c := h _ (List.getElem_mem hi)
theorem Sh.wide {c : Nat} {R : List Hd} (h : Sh c R) (i : Nat) {j : Nat} (hj : c <= j) : aw R i j = 0 := by
 by_cases hi : i < R.length
 · rw [bU hi, dY _ _ (by rw [h.get hi]; exact hj)]
 · exact eB (by omega) j
theorem Sh.oL {c : Nat} {R : List Hd} (h : Sh c R) (i : Nat) {xs : List Int} (hx : xs.length = c) : Sh c (dh R i xs) := by
 intro r hr;obtain ⟨j, hj, rfl⟩ := List.getElem_of_mem hr;rw [aB] at hj;rw [dr hj];split
 · exact hx
 · exact h.get hj
theorem jt {R : List Hd} {i : Nat} (hi : i < R.length) (xs : List Int) (a b : Nat) : aw (dh R i xs) a b = if a = i then xs.getD b 0 else aw R a b := by
 by_cases ha : a < R.length
 · rw [bU (by rw [aB]; exact ha), dr ha];by_cases e : i = a
   · subst e; simp
   · rw [if_neg e, if_neg (fun h => e h.symm), bU ha]
 · rw [eB (by rw [aB]; omega), if_neg (by omega), eB (by omega)]
theorem ix {f : Int -> Int -> Int} (hf : f 0 0 = 0) {xs ys : List Int} (h : xs.length = ys.length) (b : Nat) : (List.zipWith f xs ys).getD b 0 = f (xs.getD b 0) (ys.getD b 0) := by
 by_cases hb : b < xs.length
 · have hb2 : b < ys.length := by omega
   have hb3 : b < (List.zipWith f xs ys).length := by simp; omega
   rw [gz _ _ hb3, gz _ _ hb, gz _ _ hb2, List.getElem_zipWith]
 · rw [dY _ _ (by simp; omega), dY _ _ (by omega), dY _ _ (by omega), hf]
theorem nf {c : Nat} {R : List Hd} (hs : Sh c R) {i j : Nat} (hi : i < R.length) (hj : j < R.length) (k : Int) (a b : Nat) : aw (gS R i j k) a b = if a = i then k * aw R j b + aw R i b else aw R a b := by
 rw [mg hi hj]; unfold iP;rw [jt hi];unfold fs;rw [ix (by simp) (by rw [hs.get hi, hs.get hj]), <- bU hi, <- bU hj]
theorem Sh.tW {c : Nat} {R : List Hd} (hs : Sh c R) (i j : Nat) (k : Int) : Sh c (gS R i j k) := by
 unfold gS;split
 · rename_i h;unfold iP;exact hs.oL i (by unfold fs; rw [List.length_zipWith, hs.get h.1, hs.get h.2]; omega)
 · exact hs
theorem km (R : List Hd) (i j : Nat) (k : Int) : (gS R i j k).map Hd.blk = R.map Hd.blk := by
 unfold gS; split
 · exact eY ..
 · rfl
theorem xx {c : Nat} {R : List Hd} (hs : Sh c R) {i j : Nat} (hi : i < R.length) (hj : j < R.length) (hij : i ≠ j) (p q r s : Int) (a b : Nat) : aw (kN R i j p q r s) a b = if a = i then p * aw R i b + q * aw R j b else if a = j then r * aw R i b + s * aw R j b else aw R a b := by
 rw [tJ hi hj]; unfold kd;rw [jt (by rw [aB]; exact hj), jt hi];have hl : R[i].xs.length = R[j].xs.length := by rw [hs.get hi, hs.get hj]
 unfold fX;rw [ix (by simp) hl, ix (by simp) hl, <- bU hi, <- bU hj];by_cases e : a = i
 · subst e; rw [if_neg hij, if_pos rfl, if_pos rfl]
 · rw [if_neg e, if_neg e]
theorem Sh.mixT_ {c : Nat} {R : List Hd} (hs : Sh c R) (i j : Nat) (p q r s : Int) : Sh c (kN R i j p q r s) := by
 unfold kN;split
 · rename_i h;unfold kd;refine (hs.oL i ?_).oL j ?_ <;> (unfold fX; rw [List.length_zipWith, hs.get h.1, hs.get h.2]; omega)
 · exact hs
theorem wT (R : List Hd) (i j : Nat) (p q r s : Int) : (kN R i j p q r s).map Hd.blk = R.map Hd.blk := by
 unfold kN; split
 · unfold kd; rw [eY, eY]
 · rfl
theorem om {R : List Hd} {i : Nat} (hi : i < R.length) (a b : Nat) : aw (bL R i) a b = if a = i then - aw R i b else aw R a b := by
 rw [ny hi]; unfold ie;rw [jt hi, bU hi];split
 · unfold jS;by_cases hb : b < R[i].xs.length
   · rw [gz _ _ (by simpa using hb), gz _ _ hb]; simp
   · rw [dY _ _ (by simp; omega), dY _ _ (by omega)]; rfl
 · rfl
theorem Sh.Az {c : Nat} {R : List Hd} (hs : Sh c R) (i : Nat) : Sh c (bL R i) := by
 unfold bL;split
 · rename_i h;unfold ie;exact hs.oL i (by simp [jS, hs.get h])
 · exact hs
theorem uL {R : List Hd} {i j m : Nat} (hi : i < R.length) (hj : j < R.length) (hm : m < R.length) : (swapT R i j)[m]'(by rw [bB]; exact hm) = R[swp i j m]'(kR hi hj hm) := by
 have := fa hi hj hm;rw [<- this]; congr 1; exact gY hi hj
theorem nW {R : List Hd} {i j : Nat} (hi : i < R.length) (hj : j < R.length) (a b : Nat) : aw (swapT R i j) a b = aw R (swp i j a) b := by
 by_cases ha : a < R.length
 · rw [bU (by rw [bB]; exact ha), uL hi hj ha, bU]
 · rw [eB (by rw [bB]; omega), eB];unfold swp; split
   · omega
   · split <;> omega
theorem Sh.vX {c : Nat} {R : List Hd} (hs : Sh c R) (i j : Nat) : Sh c (swapT R i j) := by
 unfold swapT;split
 · rename_i h;intro r hr;obtain ⟨m, hm, rfl⟩ := List.getElem_of_mem hr;rw [bM] at hm;rw [fa h.1 h.2 hm];exact hs.get _
 · exact hs
theorem nj {R : List Hd} {i : Nat} (hi : i < R.length) {c : Nat} (hs : Sh c R) : (aM R i <= c) /\ (∀ b, b < aM R i -> aw R i b = 0) /\ (aM R i < c -> aw R i (aM R i) ≠ 0) := by
 rw [eT hi];have key : ∀ xs : List Int, (∀ b, b < lead xs -> xs.getD b 0 = 0) /\ (lead xs < xs.length -> xs.getD (lead xs) 0 ≠ 0) := by
  intro xs;induction xs with
  | nil => exact ⟨fun b _ => by simp, fun h => by simp at h⟩
  | cons x xs ih =>
   unfold lead;by_cases hx : x = 0
   · rw [if_pos hx];refine ⟨fun b hb => ?_, fun h => ?_⟩
     · cases b with
       | zero => simpa using hx
       | succ b => rw [List.getD_cons_succ]; exact ih.1 b (by omega)
     · rw [List.getD_cons_succ]; exact ih.2 (by simpa using h)
   · rw [if_neg hx];exact ⟨fun b hb => by omega, fun _ => by simpa using hx⟩
 have hl := hs.get hi;have h1 := key R[i].xs;refine ⟨hl ▸ pQ _, fun b hb => ?_, fun h => ?_⟩
 · rw [bU hi]; exact h1.1 b hb
 · rw [bU hi]; exact h1.2 (by omega)
theorem nT {R : List Hd} {i : Nat} (hi : i < R.length) {c : Nat} (hs : Sh c R) {j : Nat} (h0 : ∀ b, b < j -> aw R i b = 0) (hj : aw R i j ≠ 0) : aM R i = j := by
 have h1 := nj hi hs;have hjc : j < c := by
  by_cases h : j < c
  · exact h
  · exact absurd (hs.wide i (by omega)) hj
 rcases Nat.lt_trichotomy (aM R i) j with h | h | h
 · exact absurd (h0 _ h) (h1.2.2 (by omega))
 · exact h
 · exact absurd (h1.2.1 _ h) hj
theorem Fit.of {B c : Nat} {R : List Hd} (hs : Sh c R) (h : ∀ a b, (aw R a b).natAbs < W ^ B) : Fit B c R := by
 refine ⟨hs, fun r hr x hx => ?_⟩;obtain ⟨i, hi, rfl⟩ := List.getElem_of_mem hr;obtain ⟨j, hj, rfl⟩ := List.getElem_of_mem hx;have := h i j;rw [bU hi, gz _ _ hj] at this;exact au this
/-! Bounds by powers of the base. -/
theorem wD {u v : Nat} (h : u <= v) : W ^ u <= W ^ v := Nat.pow_le_pow_right aZ h
theorem iW {n u v : Nat} (h : n < W ^ u) (k : u <= v) : n < W ^ v := Nat.lt_of_lt_of_le h (wD k)
theorem eZ (u : Nat) : 0 < W ^ u := Nat.pow_pos aZ
theorem oB {k y x u d : Nat} (hk : k < W ^ u) (hy : y < W ^ d) (hx : x < W ^ u) : k * y + x < W ^ (u + d) := by
 have h1 : (k + 1) * W ^ d <= W ^ u * W ^ d := Nat.mul_le_mul_right _ hk;have h2 : k * (y + 1) <= k * W ^ d := Nat.mul_le_mul_left _ hy;rw [Nat.pow_add];rw [Nat.succ_mul] at h1;rw [Nat.mul_add, Nat.mul_one] at h2;have h3 : W ^ u <= W ^ u * W ^ d := by have := Nat.mul_le_mul_left (W ^ u) (eZ d); omega
 by_cases hk0 : k = 0
 · subst hk0; omega
 · have h4 : k * y + k <= k * W ^ d := h2;have h5 : (W ^ u - 1) * y + (W ^ u - 1) <= (W ^ u - 1) * W ^ d := by
    have := Nat.mul_le_mul_left (W ^ u - 1) hy;rw [Nat.mul_succ] at this; exact this
   have h6 : k * y <= (W ^ u - 1) * y := Nat.mul_le_mul_right _ (by omega);have h7 : (W ^ u - 1) * W ^ d < W ^ u * W ^ d := Nat.mul_lt_mul_of_pos_right (by have := eZ u; omega) (eZ d);omega
theorem jI (k y x : Int) : (k * y + x).natAbs <= k.natAbs * y.natAbs + x.natAbs := by
 have := Int.natAbs_add_le (k * y) x
 rwa [Int.natAbs_mul] at this
theorem tH {x y : Int} (hy : 0 < y) : (x.fdiv y).natAbs <= x.natAbs := by
 rw [Int.fdiv_eq_ediv_of_nonneg _ (Int.le_of_lt hy)];exact Int.natAbs_ediv_le_natAbs x y
theorem qG {x y : Int} (hy : 0 < y) : 0 <= x.fmod y /\ x.fmod y < y := by
 rw [Int.fmod_eq_emod_of_nonneg _ (Int.le_of_lt hy)];exact ⟨Int.emod_nonneg _ (by omega), Int.emod_lt_of_pos _ hy⟩
theorem oE {x y : Int} (hy : 0 < y) : -(x.fdiv y) * y + x = x.fmod y := by
 rw [Int.fdiv_eq_ediv_of_nonneg _ (Int.le_of_lt hy), Int.fmod_eq_emod_of_nonneg _ (Int.le_of_lt hy), Int.emod_def, Int.mul_comm y, Int.neg_mul]; omega
/-! settle. -/
def kb (ls : List Nat) (i : Nat) : Nat -> Nat -> List Hd -> List Hd
 | 0, _, R => R
 | f + 1, k, R => kb ls i f (k + 1) (gS R i k (-((aw R i (ls.getD k 0)).fdiv (aw R k (ls.getD k 0)))))
def tu (ls : List Nat) (n : Nat) : Nat -> List Hd -> List Hd
 | 0, R => R
 | m + 1, R => tu ls n m (kb ls m (n - (m + 1)) (m + 1) R)
theorem ba.add {n : Nat} {E F : Nat -> Nat -> Int} {i k : Nat} (hi : i < n) (hk : k < n) (hik : i ≠ k) (q : Int) (h : ∀ a b, F a b = if a = i then q * E k b + E i b else E a b) : ba n E n F := by
 refine ⟨fun a ha => ?_, fun a ha => ?_⟩
 · by_cases e : a = i
   · subst e;refine ((Sp.row F ha).add ((Sp.row F hk).smul (-q))).congr (fun j => ?_);rw [h a j, if_pos rfl, h k j, if_neg (fun e => hik e.symm), Int.neg_mul]; omega
   · exact (Sp.row F ha).congr (fun j => by rw [h, if_neg e])
 · by_cases e : a = i
   · subst e;refine (((Sp.row E hk).smul q).add (Sp.row E ha)).congr (fun j => ?_);rw [h, if_pos rfl]
   · exact (Sp.row E ha).congr (fun j => by rw [h, if_neg e])
structure vA (n c i k : Nat) (l : Nat -> Nat) (R R' : List Hd) : Prop where
 same : ∀ a, a ≠ i -> ∀ b, aw R' a b = aw R a b
 low : ∀ b, (∀ m, k <= m -> m < n -> b < l m) -> aw R' i b = aw R i b
 red : ∀ m, k <= m -> m < n -> 0 <= aw R' i (l m) /\ aw R' i (l m) < aw R m (l m)
 sh : Sh c R'
 len : R'.length = R.length
 blk : R'.map Hd.blk = R.map Hd.blk
 sp : ba n (aw R) n (aw R')
theorem Ech.add {n c : Nat} {E F : Nat -> Nat -> Int} {l : Nat -> Nat} (h : Ech n c E l) {i k : Nat} (hik : i < k) (hk : k < n) (q : Int) (e : ∀ a b, F a b = if a = i then q * E k b + E i b else E a b) : Ech n c F l := by
 refine ⟨h.inc, h.lt, fun a ha j hj => ?_, fun a ha => ?_⟩
 · rw [e]; split
   · rename_i e'; subst e';rw [h.zero k hk j (by have := h.inc a k hik hk; omega), h.zero a ha j hj]; simp
   · exact h.zero a ha j hj
 · rw [e]; split
   · rename_i e'; subst e';rw [h.zero k hk _ (h.inc a k hik hk)]; have := h.pos a ha; simpa using this
   · exact h.pos a ha
theorem pT {n c i : Nat} {l : Nat -> Nat} {ls : List Nat} (hls : ∀ k, k < n -> ls.getD k 0 = l k) : ∀ (f k : Nat) (R : List Hd), k + f = n -> i < k -> Sh c R -> n <= R.length -> Ech n c (aw R) l -> vA n c i k l R (kb ls i f k R)
 | 0, k, R, hf, hik, hs, hn, hE => ⟨fun _ _ _ => rfl, fun _ _ => rfl, fun m h1 h2 => by omega, hs, rfl, rfl, ba.refl _ _⟩
 | f + 1, k, R, hf, hik, hs, hn, hE => by
  have hk : k < n := by omega
  have he := fun (a b : Nat) => nf hs (i := i) (j := k) (by omega) (by omega) (-((aw R i (ls.getD k 0)).fdiv (aw R k (ls.getD k 0)))) a b;have ih := pT (i := i) hls f (k + 1) (gS R i k (-((aw R i (ls.getD k 0)).fdiv (aw R k (ls.getD k 0))))) (by omega) (by omega) (hs.tW i k _) (by rw [cW]; exact hn) (hE.add hik hk _ he);rw [hls k hk] at he;have hp := hE.pos k hk;refine ⟨fun a ha b => ?_, fun b hb => ?_, fun m hm hmn => ?_, ih.sh, ih.len.trans (cW ..), ih.blk.trans (km ..), (ba.add (by omega) hk (by omega) _ he).trans (by rw [<- hls k hk]; exact ih.sp)⟩
  · show aw (kb ls i f (k + 1) _) a b = _;rw [ih.same a ha b, hls k hk, he, if_neg ha]
  · show aw (kb ls i f (k + 1) _) i b = _;rw [ih.low b (fun m h1 h2 => hb m (by omega) h2), hls k hk, he, if_pos rfl, hE.zero k hk b (hb k (Nat.le_refl _) hk)]; omega
  · by_cases e : m = k
    · subst e;show 0 <= aw (kb ls i f (m + 1) _) i (l m) /\ aw (kb ls i f (m + 1) _) i (l m) < _;rw [ih.low (l m) (fun q h1 h2 => hE.inc m q (by omega) h2), hls m hk, he, if_pos rfl, oE hp];exact qG hp
    · have h1 := ih.red m (by omega) hmn;rw [hls k hk, he m, if_neg (by omega)] at h1;show 0 <= aw (kb ls i f (k + 1) _) i (l m) /\ aw (kb ls i f (k + 1) _) i (l m) < _;rw [hls k hk];exact h1
theorem Ech.congr {n c : Nat} {E F : Nat -> Nat -> Int} {l : Nat -> Nat} (h : Ech n c E l) (e : ∀ a, a < n -> ∀ b, F a b = E a b) : Ech n c F l :=
 ⟨h.inc, h.lt, fun a ha j hj => (e a ha j).trans (h.zero a ha j hj), fun a ha => by rw [e a ha]; exact h.pos a ha⟩
theorem vA.re {n c i k : Nat} {l : Nat -> Nat} {R R' : List Hd} (h : vA n c i k l R R') (hE : Ech n c (aw R) l) (hik : i < k) (hin : i < n) : Ech n c (aw R') l := by
 have hlow : ∀ b, b <= l i -> aw R' i b = aw R i b := fun b hb => h.low b (fun m h1 h2 => by have := hE.inc i m (by omega) h2; omega);refine ⟨hE.inc, hE.lt, fun a ha j hj => ?_, fun a ha => ?_⟩
 · by_cases e : a = i
   · subst e; rw [hlow j (by omega)]; exact hE.zero a ha j hj
   · rw [h.same a e]; exact hE.zero a ha j hj
 · by_cases e : a = i
   · subst e; rw [hlow _ (Nat.le_refl _)]; exact hE.pos a ha
   · rw [h.same a e]; exact hE.pos a ha
structure wC (n c m : Nat) (l : Nat -> Nat) (R R' : List Hd) : Prop where
 same : ∀ a, m <= a -> ∀ b, aw R' a b = aw R a b
 herm : eK n c (aw R') l
 sh : Sh c R'
 len : R'.length = R.length
 blk : R'.map Hd.blk = R.map Hd.blk
 sp : ba n (aw R) n (aw R')
theorem kg {n c : Nat} {l : Nat -> Nat} {ls : List Nat} (hls : ∀ k, k < n -> ls.getD k 0 = l k) : ∀ (m : Nat) (R : List Hd), m <= n -> Sh c R -> n <= R.length -> Ech n c (aw R) l -> (∀ i k, m <= i -> i < k -> k < n -> 0 <= aw R i (l k) /\ aw R i (l k) < aw R k (l k)) -> wC n c m l R (tu ls n m R)
 | 0, R, hm, hs, hn, hE, hr => ⟨fun _ _ _ => rfl, ⟨hE, fun i k => hr i k (Nat.zero_le _)⟩, hs, rfl, rfl, ba.refl _ _⟩
 | m + 1, R, hm, hs, hn, hE, hr => by
  have h1 := pT (i := m) hls (n - (m + 1)) (m + 1) R (by omega) (by omega) hs hn hE;have h2 := kg hls m (kb ls m (n - (m + 1)) (m + 1) R) (by omega) h1.sh (by rw [h1.len]; exact hn) (h1.re hE (by omega) (by omega)) (fun i k hi hik hk => by
   by_cases e : i = m
   · subst e;rw [h1.same k (by omega)];exact h1.red k (by omega) hk
   · rw [h1.same i e, h1.same k (by omega)];exact hr i k (by omega) hik hk)
  exact ⟨fun a ha b => (h2.same a (by omega) b).trans (h1.same a (by omega) b), h2.herm, h2.sh, h2.len.trans h1.len, h2.blk.trans h1.blk, h1.sp.trans h2.sp⟩
theorem wJ {n c i B δ : Nat} {l : Nat -> Nat} {ls : List Nat} (hls : ∀ k, k < n -> ls.getD k 0 = l k) : ∀ (f k u : Nat) (R : List Hd), k + f = n -> i < k -> Sh c R -> n <= R.length -> Ech n c (aw R) l ->
 (∀ a b, (aw R a b).natAbs < W ^ B) -> (∀ b, (aw R i b).natAbs < W ^ u) -> (∀ a, k <= a -> a < n -> ∀ b, (aw R a b).natAbs < W ^ δ) -> u + f * δ <= B -> sY B c ls i n k R (kb ls i f k R)
 | 0, k, u, R, hf, hik, hs, hn, hE, hB, hu, hd, hb => .done (by omega)
 | f + 1, k, u, R, hf, hik, hs, hn, hE, hB, hu, hd, hb => by
  have hk : k < n := by omega
  have he := fun (a b : Nat) => nf hs (i := i) (j := k) (by omega) (by omega) (-((aw R i (ls.getD k 0)).fdiv (aw R k (ls.getD k 0)))) a b;have hp := hE.pos k hk;have hq : ((aw R i (ls.getD k 0)).fdiv (aw R k (ls.getD k 0))).natAbs < W ^ u := by
   rw [hls k hk];exact Nat.lt_of_le_of_lt (tH hp) (hu _)
  have hrow : ∀ b, (aw (gS R i k (-((aw R i (ls.getD k 0)).fdiv (aw R k (ls.getD k 0))))) i b).natAbs < W ^ (u + δ) := by
   intro b;rw [he, if_pos rfl];refine Nat.lt_of_le_of_lt (jI _ _ _) ?_;rw [Int.natAbs_neg];exact oB hq (hd k (Nat.le_refl _) hk b) (hu b)
  have e1 : (f + 1) * δ = f * δ + δ := Nat.succ_mul ..;refine .step hk (Fit.of hs hB) (by rw [hls k hk]; exact hE.lt k hk) (by rw [hls k hk]; omega) ?_;refine wJ (δ := δ) hls f (k + 1) (u + δ) _ (by omega) (by omega) (hs.tW i k _) (by rw [cW]; exact hn) (hE.add hik hk _ he) (fun a b => ?_) hrow (fun a h1 h2 b => ?_) (by omega)
  · by_cases e : a = i
    · subst e; exact iW (hrow b) (by omega)
    · rw [he, if_neg e]; exact hB a b
  · rw [he, if_neg (by omega)]; exact hd a (by omega) h2 b
theorem tj {n c B δ u : Nat} {l : Nat -> Nat} {ls : List Nat} (hls : ∀ k, k < n -> ls.getD k 0 = l k) (hb : u + n * δ <= B) : ∀ (m : Nat) (R : List Hd), m <= n -> Sh c R -> n <= R.length -> Ech n c (aw R) l -> (∀ i k, m <= i -> i < k -> k < n -> 0 <= aw R i (l k) /\ aw R i (l k) < aw R k (l k)) ->
 (∀ a b, (aw R a b).natAbs < W ^ B) -> (∀ a, a < m -> ∀ b, (aw R a b).natAbs < W ^ u) -> (∀ a, a < n -> ∀ b, (aw (tu ls n m R) a b).natAbs < W ^ δ) -> gN B c ls n m R (tu ls n m R)
 | 0, R, hm, hs, hn, hE, hr, hB, hu, hd => .done
 | m + 1, R, hm, hs, hn, hE, hr, hB, hu, hd => by
  have hout := kg hls (m + 1) R hm hs hn hE hr;have h1 := pT (i := m) hls (n - (m + 1)) (m + 1) R (by omega) (by omega) hs hn hE;have hr1 : ∀ i k, m <= i -> i < k -> k < n -> 0 <= aw (kb ls m (n - (m + 1)) (m + 1) R) i (l k) /\ aw (kb ls m (n - (m + 1)) (m + 1) R) i (l k) < aw (kb ls m (n - (m + 1)) (m + 1) R) k (l k) := fun i k hi hik hk => by
   by_cases e : i = m
   · subst e;rw [h1.same k (by omega)];exact h1.red k (by omega) hk
   · rw [h1.same i e, h1.same k (by omega)];exact hr i k (by omega) hik hk
  have h2 := kg hls m (kb ls m (n - (m + 1)) (m + 1) R) (by omega) h1.sh (by rw [h1.len]; exact hn) (h1.re hE (by omega) (by omega)) hr1;have hmul : (n - (m + 1)) * δ <= n * δ := Nat.mul_le_mul_right _ (by omega);have hδ : δ <= n * δ := by have := Nat.mul_le_mul_right δ (show 1 <= n by omega); omega
  refine .step (wJ (δ := δ) hls (n - (m + 1)) (m + 1) u R (by omega) (by omega) hs hn hE hB (fun b => hu m (by omega) b) (fun a h3 h4 b => ?_) (by omega)) ?_
  · rw [<- hout.same a h3 b]; exact hd a h4 b
  · refine tj hls hb m _ (by omega) h1.sh (by rw [h1.len]; exact hn) (h1.re hE (by omega) (by omega)) hr1 (fun a b => ?_) (fun a ha b => ?_) hd
    · by_cases e : a = m
      · subst e;rw [<- h2.same a (Nat.le_refl _) b];exact iW (hd a (by omega) b) (by omega)
      · rw [h1.same a e]; exact hB a b
    · rw [h1.same a (by omega)]; exact hu a (by omega) b
/-! meet. -/
theorem AS (a b : Int) (hb : b ≠ 0) : a * dV a b + b * fy a b = bH a b := by
 have h := iE a b;unfold eF at h;rw [if_neg hb] at h;exact h.2.2.2
theorem ba.two {N : Nat} {E F : Nat -> Nat -> Int} {k n : Nat} (hk : k < N) (hn : n < N) (hkn : k ≠ n) (hs : ∀ a, a ≠ k -> a ≠ n -> ∀ b, F a b = E a b)
 {x y z t x' y' z' t' : Int} (h1 : ∀ b, F k b = x * E k b + y * E n b) (h2 : ∀ b, F n b = z * E k b + t * E n b) (h3 : ∀ b, E k b = x' * F k b + y' * F n b) (h4 : ∀ b, E n b = z' * F k b + t' * F n b) : ba N E N F := by
 refine ⟨fun a ha => ?_, fun a ha => ?_⟩
 · by_cases e : a = k
   · subst e; exact (((Sp.row F hk).smul x').add ((Sp.row F hn).smul y')).congr h3
   · by_cases e' : a = n
     · subst e'; exact (((Sp.row F hk).smul z').add ((Sp.row F hn).smul t')).congr h4
     · exact (Sp.row F ha).congr (fun j => (hs a e e' j).symm)
 · by_cases e : a = k
   · subst e; exact (((Sp.row E hk).smul x).add ((Sp.row E hn).smul y)).congr h1
   · by_cases e' : a = n
     · subst e'; exact (((Sp.row E hk).smul z).add ((Sp.row E hn).smul t)).congr h2
     · exact (Sp.row E ha).congr (fun j => hs a e e' j)
structure AP (c k n j δ u : Nat) (R R' : List Hd) : Prop where
 same : ∀ a, a ≠ k -> a ≠ n -> ∀ b, aw R' a b = aw R a b
 low : ∀ b, b < j -> aw R' k b = 0
 piv : 0 < aw R' k j
 gone : ∀ b, b <= j -> aw R' n b = 0
 comb : ∃ t s : Int, t ≠ 0 /\ ∀ b, aw R' n b = t * aw R n b + s * aw R k b
 sp : ∀ N, k < N -> n < N -> ba N (aw R) N (aw R')
 bk : ∀ b, (aw R' k b).natAbs < W ^ (u + 2 * δ + 1)
 bn : ∀ b, (aw R' n b).natAbs < W ^ (u + 2 * δ + 1)
 sh : Sh c R'
 len : R'.length = R.length
 blk : R'.map Hd.blk = R.map Hd.blk
theorem l6 {c : Nat} {R : List Hd} (hs : Sh c R) {k n : Nat} (hk : k < R.length) (hn : n < R.length) (j a b : Nat) : aw (bb R k n j) a b = if a = n then -((aw R n j).fdiv (aw R k j)) * aw R k b + aw R n b else aw R a b :=
 nf hs hn hk _ a b
theorem zW {x y z t u d : Nat} (hx : x <= W ^ d) (hy : y < W ^ d) (hz : z <= W ^ d) (ht : t < W ^ (u + d)) : x * y + z * t < W ^ (u + 2 * d + 1) := by
 have h1 : x * y <= W ^ d * W ^ d := Nat.mul_le_mul hx (Nat.le_of_lt hy);have h2 : z * t <= W ^ d * W ^ (u + d) := Nat.mul_le_mul hz (Nat.le_of_lt ht);have e1 : W ^ d * W ^ d <= W ^ (u + 2 * d) := by rw [<- Nat.pow_add]; exact wD (by omega)
 have e2 : W ^ d * W ^ (u + d) = W ^ (u + 2 * d) := by rw [<- Nat.pow_add]; congr 1; omega
 have e3 : W ^ (u + 2 * d) * 2 < W ^ (u + 2 * d + 1) := by
  rw [Nat.pow_succ];exact Nat.mul_lt_mul_of_pos_left (by unfold W; omega) (eZ _)
 omega
theorem lP {c : Nat} {R : List Hd} (hs : Sh c R) {k n j δ u : Nat} (hk : k < R.length) (hn : n < R.length) (hp : 0 < aw R k j) (hbk : ∀ b, (aw R k b).natAbs < W ^ δ) (hbn : ∀ b, (aw R n b).natAbs < W ^ u) (b : Nat) : (aw (bb R k n j) n b).natAbs < W ^ (u + δ) := by
 rw [l6 hs hk hn, if_pos rfl];refine Nat.lt_of_le_of_lt (jI _ _ _) ?_;rw [Int.natAbs_neg];exact oB (Nat.lt_of_le_of_lt (tH hp) (hbn j)) (hbk b) (hbn b)
theorem ue (R : List Hd) (k n j : Nat) : (dA R k n j).map Hd.blk = R.map Hd.blk := by
 unfold dA bb; split
 · exact km ..
 · rw [wT]; exact km ..
theorem zt {c k n j δ u : Nat} {R : List Hd} (hs : Sh c R) (hk : k < R.length) (hn : n < R.length) (hkn : k ≠ n) (hp : 0 < aw R k j) (h0 : ∀ b, b < j -> aw R k b = 0) (h1 : ∀ b, b < j -> aw R n b = 0)
 (hbk : ∀ b, (aw R k b).natAbs < W ^ δ) (hbn : ∀ b, (aw R n b).natAbs < W ^ u) : AP c k n j δ u R (dA R k n j) := by
 have hA := l6 hs hk hn j;have hAn := fun b => (hA n b).trans (if_pos rfl);have hAk := fun b => (hA k b).trans (if_neg hkn);have hAs := fun a b (h : a ≠ n) => (hA a b).trans (if_neg h);have hsA : Sh c (bb R k n j) := hs.tW n k _;have hlA : (bb R k n j).length = R.length := cW ..;have hbA := lP hs hk hn hp hbk hbn;have hr : aw (bb R k n j) n j = (aw R n j).fmod (aw R k j) := by rw [hAn, oE hp]
 have hrr := qG (x := aw R n j) hp;by_cases hz : (aw R n j).fmod (aw R k j) = 0
 · have e : dA R k n j = bb R k n j := by unfold dA; rw [if_pos hz]
   rw [e];refine ⟨fun a _ h b => hAs a b h, fun b hb => (hAk b).trans (h0 b hb), by rw [hAk]; exact hp, fun b hb => ?_, ⟨1, -((aw R n j).fdiv (aw R k j)), by omega, fun b => ?_⟩, fun N hkN hnN => ba.add hnN hkN (fun e => hkn e.symm) _ hA, fun b => ?_, fun b => iW (hbA b) (by omega), hsA, hlA, km ..⟩
   · rcases Nat.lt_or_eq_of_le hb with h | h
     · rw [hAn, h0 b h, h1 b h]; simp
     · subst h; rw [hr, hz]
   · rw [hAn, Int.one_mul]; omega
   · rw [hAk]; exact iW (hbk b) (by omega)
 · obtain ⟨M, hM⟩ : ∃ M, bb R k n j = M := ⟨_, rfl⟩;rw [hM] at hAn hAk hAs hsA hlA hbA hr;have e : dA R k n j = kN M k n (dV (aw M k j) (aw M n j)) (fy (aw M k j) (aw M n j)) (-(aw M n j / bH (aw M k j) (aw M n j))) (aw M k j / bH (aw M k j) (aw M n j)) := by
    unfold dA; rw [if_neg hz, hM]
   obtain ⟨p, hp'⟩ : ∃ p, aw M k j = p := ⟨_, rfl⟩;obtain ⟨r, hr'⟩ : ∃ r, aw M n j = r := ⟨_, rfl⟩;have hpp : p = aw R k j := hp'.symm.trans (hAk j);rw [hr'] at hr;rw [hp', hr'] at e;have hrne : r ≠ 0 := by rw [hr]; exact hz
   rw [<- hr, <- hpp] at hrr;have hrp : 0 < r := by omega
   have hg := iY p r;have hx := AS p r hrne;have hxl := pF p r;have hyl := tD p r;obtain ⟨g, hgd⟩ : ∃ g, bH p r = g := ⟨_, rfl⟩;obtain ⟨x, hxd⟩ : ∃ x, dV p r = x := ⟨_, rfl⟩;obtain ⟨y, hyd⟩ : ∃ y, fy p r = y := ⟨_, rfl⟩;rw [hgd] at hg hx e;rw [hxd] at hx hxl e;rw [hyd] at hx hyl e;have hgp : 0 < g := by have := hg.2.2.1 (by omega); have := hg.2.2.2; omega
   obtain ⟨p', hp1⟩ := hg.1;obtain ⟨r', hr1⟩ := hg.2.1;have hpd : p / g = p' := by rw [hp1, Int.mul_ediv_cancel_left _ (by omega)]
   have hrd : r / g = r' := by rw [hr1, Int.mul_ediv_cancel_left _ (by omega)]
   rw [hpd, hrd] at e;have hk1 : p' * x + r' * y = 1 := by
    have : g * (p' * x + r' * y) = g * 1 := by
     rw [Int.mul_add, <- Int.mul_assoc, <- Int.mul_assoc, <- hp1, <- hr1, hx]; omega
    exact Int.eq_of_mul_eq_mul_left (by omega) this
   have sr : p' ≠ 0 := fun h => by rw [h, Int.mul_zero] at hp1; omega
   have hmix := xx hsA (by omega : k < M.length) (by omega : n < M.length) hkn x y (-r') p';rw [<- e] at hmix;have hmk := fun b => (hmix k b).trans (if_pos rfl);have hmn := fun b => ((hmix n b).trans (if_neg (fun h => hkn h.symm))).trans (if_pos rfl);have hms := fun a b (h : a ≠ k) (h' : a ≠ n) => ((hmix a b).trans (if_neg h)).trans (if_neg h');have hM0 : ∀ b, b < j -> aw M n b = 0 := fun b hb => by rw [hAn, h0 b hb, h1 b hb]; simp
   have hpD : p.natAbs < W ^ δ := by rw [hpp]; exact hbk j
   have hrD : r.natAbs < W ^ δ := by omega
   have hp'D : p'.natAbs <= W ^ δ := by
    have h2 : p'.natAbs <= p.natAbs := by
     rw [hp1, Int.natAbs_mul];have := Nat.mul_le_mul_right p'.natAbs (show 1 <= g.natAbs by omega);omega
    omega
   have hr'D : r'.natAbs <= W ^ δ := by
    have h2 : r'.natAbs <= r.natAbs := by
     rw [hr1, Int.natAbs_mul];have := Nat.mul_le_mul_right r'.natAbs (show 1 <= g.natAbs by omega);omega
    omega
   have bnd : ∀ (s t : Int) b, s.natAbs <= W ^ δ -> t.natAbs <= W ^ δ -> (s * aw M k b + t * aw M n b).natAbs < W ^ (u + 2 * δ + 1) := by
    intro s t b hs' ht';refine Nat.lt_of_le_of_lt (Int.natAbs_add_le _ _) ?_;rw [Int.natAbs_mul, Int.natAbs_mul];exact zW hs' (by rw [hAk]; exact hbk b) ht' (hbA b)
   have hspA : ∀ N, k < N -> n < N -> ba N (aw R) N (aw M) := fun N hkN hnN => by
    rw [<- hM]; exact ba.add hnN hkN (fun e => hkn e.symm) _ hA
   refine ⟨fun a h h' b => ?_, fun b hb => ?_, ?_, fun b hb => ?_, ?_, fun N hkN hnN => ?_, fun b => ?_, fun b => ?_, ?_, ?_, ue ..⟩
   · rw [hms a b h h', hAs a b h']
   · rw [hmk, hAk, h0 b hb, hM0 b hb]; simp
   · rw [hmk, hp', hr', Int.mul_comm x, Int.mul_comm y, hx]; exact hgp
   · rw [hmn];rcases Nat.lt_or_eq_of_le hb with h | h
     · rw [hAk, h0 b h, hM0 b h]; simp
     · subst h;rw [hp', hr', hp1, hr1, Int.neg_mul, Int.mul_left_comm r', Int.mul_left_comm p', Int.mul_comm r' p']; omega
   · refine ⟨p', -r' + p' * (-((aw R n j).fdiv (aw R k j))), sr, fun b => ?_⟩;rw [hmn, hAk, hAn, Int.mul_add, Int.add_mul, <- Int.mul_assoc]; omega
   · refine (hspA N hkN hnN).trans (ba.two hkN hnN hkn (fun a h h' b => hms a b h h') hmk hmn (x' := p') (y' := -y) (z' := r') (t' := x) (fun b => ?_) (fun b => ?_))
     · rw [hmk, hmn];have : p' * (x * aw M k b + y * aw M n b) + -y * (-r' * aw M k b + p' * aw M n b) = (p' * x + r' * y) * aw M k b := by
        simp only [Int.mul_add, Int.add_mul, Int.neg_mul, Int.mul_neg, Int.neg_neg];have a1 : p' * (y * aw M n b) = y * (p' * aw M n b) := Int.mul_left_comm ..;have a2 : y * (r' * aw M k b) = r' * y * aw M k b := by rw [<- Int.mul_assoc, Int.mul_comm y]
        have a3 : p' * (x * aw M k b) = p' * x * aw M k b := (Int.mul_assoc ..).symm;omega
       rw [this, hk1, Int.one_mul]
     · rw [hmk, hmn];have : r' * (x * aw M k b + y * aw M n b) + x * (-r' * aw M k b + p' * aw M n b) = (p' * x + r' * y) * aw M n b := by
        simp only [Int.mul_add, Int.add_mul, Int.neg_mul, Int.mul_neg];have a1 : r' * (x * aw M k b) = x * (r' * aw M k b) := Int.mul_left_comm ..;have a2 : r' * (y * aw M n b) = r' * y * aw M n b := (Int.mul_assoc ..).symm;have a3 : x * (p' * aw M n b) = p' * x * aw M n b := by rw [<- Int.mul_assoc, Int.mul_comm x]
        omega
       rw [this, hk1, Int.one_mul]
   · rw [hmk]; exact bnd x y b (by omega) (by omega)
   · rw [hmn]; exact bnd (-r') p' b (by rw [Int.natAbs_neg]; exact hr'D) hp'D
   · rw [e]; exact hsA.mixT_ k n _ _ _ _
   · exact iC ..
/-! put. -/
theorem qt (R : List Hd) {n k : Nat} (hk : k < n) : (dQ R n).getD k 0 = aM R k := by
 unfold dQ; simp [hk]
theorem o5 {c n B δ u : Nat} {l : Nat -> Nat} {R : List Hd} (hs : Sh c R) (hn : n <= R.length) (hE : Ech n c (aw R) l) (hu : ∀ a b, (aw R a b).natAbs < W ^ u) (hb : u + n * δ <= B)
 (hD : ∀ E', eK n c E' l -> ba n (aw R) n E' -> ∀ i, i < n -> ∀ j, (E' i j).natAbs < W ^ δ) : ∃ R', gN B c (dQ R n) n n R R' /\ wC n c n l R R' := by
 have hls : ∀ k, k < n -> (dQ R n).getD k 0 = l k := fun k hk => by
  rw [qt R hk];exact nT (by omega) hs (hE.zero k hk) (by have := hE.pos k hk; omega)
 have h1 := kg hls n R (Nat.le_refl _) hs hn hE (fun i k h1 h2 h3 => by omega);exact ⟨_, tj (δ := δ) (u := u) hls hb n R (Nat.le_refl _) hs hn hE (fun i k h1 h2 h3 => by omega) (fun a b => iW (hu a b) (by omega)) (fun a _ b => hu a b) (hD _ h1.herm h1.sp), h1⟩
theorem mR {a : Nat} : ∀ (n : Nat) (R : List Hd), a <= n -> n < R.length -> ∀ i b, aw (aV a n R) i b = if i < a then aw R i b else if i = a then aw R n b else if i <= n then aw R (i - 1) b else aw R i b
 | 0, R, ha, hn, i, b => by
  obtain rfl : a = 0 := by omega
  unfold aV;by_cases h : i = 0
  · subst h; simp
  · rw [if_neg (by omega), if_neg h, if_neg (by omega)]
 | n + 1, R, ha, hn, i, b => by
  unfold aV;by_cases h : n + 1 <= a
  · obtain rfl : a = n + 1 := by omega
    rw [if_pos h];by_cases h1 : i < n + 1
    · rw [if_pos h1]
    · rw [if_neg h1];by_cases h2 : i = n + 1
      · subst h2; rw [if_pos rfl]
      · rw [if_neg h2, if_neg (by omega)]
  · rw [if_neg h, mR n _ (by omega) (by rw [bB]; omega)];have hsw := fun x => nW (R := R) (i := n + 1) (j := n) hn (by omega) x b;rw [hsw, hsw, hsw];by_cases h1 : i < a
    · rw [if_pos h1, if_pos h1];unfold swp; rw [if_neg (by omega), if_neg (by omega)]
    · rw [if_neg h1, if_neg h1];by_cases h2 : i = a
      · rw [if_pos h2, if_pos h2];unfold swp; rw [if_pos rfl]
      · rw [if_neg h2, if_neg h2];by_cases h3 : i <= n
        · rw [if_pos h3, if_pos (by omega)];unfold swp; rw [if_neg (by omega), if_neg (by omega)]
        · rw [if_neg h3];by_cases h4 : i = n + 1
          · subst h4; rw [if_pos (by omega)];unfold swp; rw [if_neg (by omega), if_pos rfl]; rfl
          · rw [if_neg (by omega : ¬ i <= n + 1)];unfold swp; rw [if_neg (by omega), if_neg h4]
theorem qg {c a : Nat} : ∀ (n : Nat) (R : List Hd), Sh c R -> Sh c (aV a n R)
 | 0, R, h => h
 | n + 1, R, h => by
  unfold aV; split
  · exact h
  · exact qg n _ (h.vX _ _)
structure PI (c n δ u s : Nat) (l : Nat -> Nat) (last : Int) (E0 : Nat -> Nat -> Int) (v0 : Nat -> Int) (Ro R : List Hd) : Prop where
 sh : Sh c R
 len : R.length = Ro.length
 re : Ech n c (aw R) l
 sn : s <= n
 lo : ∀ i, i < s -> (l i : Int) <= last
 hi : ∀ i, s <= i -> i < n -> last < (l i : Int)
 un : ∀ i, s <= i -> i < n -> ∀ b, aw R i b = E0 i b
 z : ∀ b : Nat, (b : Int) <= last -> aw R n b = 0
 bd : ∀ a b, (aw R a b).natAbs < W ^ u
 cb : ∃ (t : Int) (w : Nat -> Int), t ≠ 0 /\ Sp n E0 w /\ ∀ b, aw R n b = t * v0 b + w b
 sp : ba (n + 1) (aw Ro) (n + 1) (aw R)
 oth : ∀ a, n < a -> ∀ b, aw R a b = aw Ro a b
structure vT (c n : Nat) (E0 : Nat -> Nat -> Int) (v0 : Nat -> Int) (Ro : List Hd) (b : Bool) (R' : List Hd) : Prop where
 sh : Sh c R'
 len : R'.length = Ro.length
 oth : ∀ a, n < a -> ∀ b, aw R' a b = aw Ro a b
 no : b = false -> (∃ l', eK n c (aw R') l') /\ (∀ b, aw R' n b = 0) /\ ba (n + 1) (aw Ro) n (aw R')
 yes : b = true -> (∃ l', eK (n + 1) c (aw R') l') /\ ba (n + 1) (aw Ro) (n + 1) (aw R') /\ ∀ s : Int, Sp n E0 (fun j => s * v0 j) -> s = 0
theorem wm {n s j : Nat} {l : Nat -> Nat} (h : s <= n) : ∃ a, s <= a /\ a <= n /\ (∀ i, s <= i -> i < a -> l i < j) /\ (a = n ∨ (a < n /\ j <= l a)) := by
 obtain ⟨f, hf⟩ : ∃ f, n - s = f := ⟨_, rfl⟩;induction f generalizing s with
 | zero => exact ⟨s, Nat.le_refl _, h, fun i h1 h2 => by omega, .inl (by omega)⟩
 | succ f ih =>
  by_cases hj : j <= l s
  · exact ⟨s, Nat.le_refl _, h, fun i h1 h2 => by omega, .inr ⟨by omega, hj⟩⟩
  · obtain ⟨a, h1, h2, h3, h4⟩ := ih (s := s + 1) (by omega) (by omega);refine ⟨a, by omega, h2, fun i hi hia => ?_, h4⟩;by_cases e : i = s
    · subst e; omega
    · exact h3 i (by omega) hia
theorem sj {c n a j : Nat} {l : Nat -> Nat} {E F : Nat -> Nat -> Int} (h : Ech n c E l) (ha : a <= n) (hlo : ∀ i, i < a -> l i < j) (hhi : ∀ i, a <= i -> i < n -> j < l i) (hj : j < c) (h0 : ∀ b, b < j -> E n b = 0) (hp : 0 < E n j)
 (hF : ∀ i b, i <= n -> F i b = if i < a then E i b else if i = a then E n b else E (i - 1) b) : Ech (n + 1) c F (fun i => if i < a then l i else if i = a then j else l (i - 1)) := by
 refine ⟨fun i k hik hk => ?_, fun i hi => ?_, fun i hi b hb => ?_, fun i hi => ?_⟩
 · show (if i < a then l i else if i = a then j else l (i - 1)) < (if k < a then l k else if k = a then j else l (k - 1));by_cases h1 : k < a
   · rw [if_pos h1, if_pos (by omega)]; exact h.inc i k hik (by omega)
   · rw [if_neg h1];by_cases h2 : k = a
     · rw [if_pos h2, if_pos (by omega)]; exact hlo i (by omega)
     · rw [if_neg h2];by_cases h3 : i < a
       · rw [if_pos h3]; exact h.inc i (k - 1) (by omega) (by omega)
       · rw [if_neg h3];by_cases h4 : i = a
         · rw [if_pos h4]; exact hhi (k - 1) (by omega) (by omega)
         · rw [if_neg h4]; exact h.inc (i - 1) (k - 1) (by omega) (by omega)
 · show (if i < a then l i else if i = a then j else l (i - 1)) < c;split
   · exact h.lt i (by omega)
   · split
     · exact hj
     · exact h.lt (i - 1) (by omega)
 · rw [hF i b (by omega)];have hb : b < (if i < a then l i else if i = a then j else l (i - 1)) := hb;split at hb
   · rename_i h1; rw [if_pos h1]; exact h.zero i (by omega) b hb
   · rename_i h1; rw [if_neg h1];split at hb
     · rename_i h2; rw [if_pos h2]; exact h0 b hb
     · rename_i h2; rw [if_neg h2]; exact h.zero (i - 1) (by omega) b hb
 · rw [hF i _ (by omega)];show 0 < (if i < a then E i (if i < a then l i else if i = a then j else l (i - 1)) else if i = a then E n (if i < a then l i else if i = a then j else l (i - 1)) else E (i - 1) (if i < a then l i else if i = a then j else l (i - 1)));split
   · exact h.pos i (by omega)
   · split
     · exact hp
     · exact h.pos (i - 1) (by omega)
theorem ba.perm {n a : Nat} {E F : Nat -> Nat -> Int} (ha : a <= n) (hF : ∀ i b, i <= n -> F i b = if i < a then E i b else if i = a then E n b else E (i - 1) b) : ba (n + 1) E (n + 1) F := by
 refine ⟨fun k hk => ?_, fun k hk => ?_⟩
 · by_cases h1 : k < a
   · exact (Sp.row F hk).congr (fun b => by rw [hF k b (by omega), if_pos h1])
   · by_cases h2 : k = n
     · subst h2;exact (Sp.row F (show a < k + 1 by omega)).congr (fun b => by rw [hF a b (by omega), if_neg (by omega), if_pos rfl])
     · exact (Sp.row F (show k + 1 < n + 1 by omega)).congr (fun b => by rw [hF (k + 1) b (by omega), if_neg (by omega), if_neg (by omega)]; rfl)
 · by_cases h1 : k < a
   · exact (Sp.row E hk).congr (fun b => by rw [hF k b (by omega), if_pos h1])
   · by_cases h2 : k = a
     · exact (Sp.row E (show n < n + 1 by omega)).congr (fun b => by rw [hF k b (by omega), if_neg h1, if_pos h2])
     · exact (Sp.row E (show k - 1 < n + 1 by omega)).congr (fun b => by rw [hF k b (by omega), if_neg h1, if_neg h2])
theorem ba.neg {N n : Nat} {E F : Nat -> Nat -> Int} (hn : n < N) (hs : ∀ a, a ≠ n -> ∀ b, F a b = E a b) (h : ∀ b, F n b = - E n b) : ba N E N F := by
 refine ⟨fun k hk => ?_, fun k hk => ?_⟩
 · by_cases e : k = n
   · subst e; exact ((Sp.row F hk).smul (-1)).congr (fun b => by rw [h]; omega)
   · exact (Sp.row F hk).congr (fun b => (hs k e b).symm)
 · by_cases e : k = n
   · subst e; exact ((Sp.row E hk).smul (-1)).congr (fun b => by rw [h]; omega)
   · exact (Sp.row E hk).congr (fun b => hs k e b)
theorem lF {c n δ B U : Nat} {l : Nat -> Nat} {E0 : Nat -> Nat -> Int} {v0 : Nat -> Int} {Ro : List Hd} (hn : n < Ro.length) (hH0 : Ech n c E0 l) (hδ : ∀ a, a < n -> ∀ b, (E0 a b).natAbs < W ^ δ) (hUB : U + (n + 1) * δ <= B)
 (hZ : ∀ E' l', eK n c E' l' -> ba (n + 1) (aw Ro) n E' -> ∀ i, i < n -> ∀ j, (E' i j).natAbs < W ^ δ)
 (hS : (∀ s : Int, Sp n E0 (fun j => s * v0 j) -> s = 0) -> ∀ E' l', eK (n + 1) c E' l' -> ba (n + 1) (aw Ro) (n + 1) E' -> ∀ i, i < n + 1 -> ∀ j, (E' i j).natAbs < W ^ δ)
 (s u at_ : Nat) (last : Int) (R : List Hd) (hI : PI c n δ u s l last E0 v0 Ro R) (hat : at_ <= s) (hu : u + (n - s) * (2 * δ + 1) <= U)
 (hnext : ∀ a, s <= a -> a < n -> ∀ R1 u1, PI c n δ u1 (a + 1) l (l a) E0 v0 Ro R1 -> u1 + (n - (a + 1)) * (2 * δ + 1) <= U -> ∃ b R', jA B c n a (l a) R1 b R' /\ vT c n E0 v0 Ro b R') :
 ∃ b R', jA B c n at_ last R b R' /\ vT c n E0 v0 Ro b R' := by
 have hnR : n < R.length := by rw [hI.len]; exact hn
 have hle := nj hnR hI.sh;have huB : u <= B := by have := Nat.zero_le ((n - s) * (2 * δ + 1)); have := Nat.zero_le ((n + 1) * δ); omega
 have hFit : Fit B c R := Fit.of hI.sh (fun a b => iW (hI.bd a b) huB);have hnδ : n * δ <= (n + 1) * δ := Nat.mul_le_mul_right _ (by omega);have huU : u <= U := by have := Nat.zero_le ((n - s) * (2 * δ + 1)); omega
 by_cases hc : aM R n = c
 · -- nothing is left
   have hz : ∀ b, aw R n b = 0 := fun b => by
    by_cases h : b < c
    · exact hle.2.1 b (by omega)
    · exact hI.sh.wide n (by omega)
   have hspz : ba (n + 1) (aw R) n (aw R) := by
    refine ⟨fun k hk => ?_, fun k hk => Sp.row _ (by omega)⟩;by_cases e : k = n
    · subst e; exact (Sp.zero _ _).congr hz
    · exact Sp.row _ (by omega)
   obtain ⟨R', h1, h2⟩ := o5 (B := B) (δ := δ) hI.sh (by omega : n <= R.length) hI.re hI.bd (by omega) (fun E' hE' hsp => hZ E' l hE' (hI.sp.trans (hspz.trans hsp)));exact ⟨false, R', .zero hFit (.inl hc) h1, h2.sh, h2.len.trans hI.len, fun a ha b => (h2.same a (by omega) b).trans (hI.oth a ha b), fun _ => ⟨⟨l, h2.herm⟩, fun b => (h2.same n (Nat.le_refl _) b).trans (hz b), hI.sp.trans (hspz.trans h2.sp)⟩, fun h => by cases h⟩
 · have hjc : aM R n < c := by have := hle.1; omega
   obtain ⟨j, hj⟩ : ∃ j, aM R n = j := ⟨_, rfl⟩;rw [hj] at hjc hc hle;have hvj := hle.2.2 hjc;have hlast : last < (j : Int) := by
    by_cases h : last < (j : Int)
    · exact h
    · exact absurd (hI.z j (by omega)) hvj
   obtain ⟨a, hsa, han, hlt, hend⟩ := wm (l := l) (j := j) hI.sn;have hlead : ∀ i, i < n -> aM R i = l i := fun i hi => nT (by omega) hI.sh (hI.re.zero i hi) (by have := hI.re.pos i hi; omega);have hlo : ∀ i, i < a -> l i < j := fun i hi => by
    by_cases h : s <= i
    · exact hlt i h hi
    · have := hI.lo i (by omega); omega
   by_cases hm : a < n /\ l a = j
   · obtain ⟨ha, hla⟩ := hm;have hrow : ∀ b, (aw R a b).natAbs < W ^ δ := fun b => by rw [hI.un a hsa ha]; exact hδ a ha b
     have hp : 0 < aw R a j := by rw [<- hla]; exact hI.re.pos a ha
     have h0a : ∀ b, b < j -> aw R a b = 0 := fun b hb => hI.re.zero a ha b (by omega);have hok := zt (j := j) hI.sh (by omega : a < R.length) hnR (by omega) hp h0a hle.2.1 hrow (hI.bd n);have hA := l6 hI.sh (by omega : a < R.length) hnR j;have hbA := lP (j := j) hI.sh (by omega : a < R.length) hnR hp hrow (hI.bd n);have h2n : (n - s) * (2 * δ + 1) = (n - (a + 1)) * (2 * δ + 1) + (a + 1 - s) * (2 * δ + 1) := by rw [<- Nat.add_mul]; congr 1; omega
     have h2a : 2 * δ + 1 <= (a + 1 - s) * (2 * δ + 1) := by have := Nat.mul_le_mul_right (2 * δ + 1) (show 1 <= a + 1 - s by omega); omega
     have hbud : u + 2 * δ + 1 + (n - (a + 1)) * (2 * δ + 1) <= U := by omega
     have hudB : u + 2 * δ + 1 <= B := by
      have := Nat.zero_le ((n - (a + 1)) * (2 * δ + 1)); have := Nat.zero_le ((n + 1) * δ); omega
     have hFitA : Fit B c (bb R a n j) := Fit.of (hI.sh.tW n a _) (fun x b => by
      by_cases e : x = n
      · subst e; exact iW (hbA b) (by omega)
      · rw [hA, if_neg e]; exact iW (hI.bd x b) huB)
     have hpA : aw (bb R a n j) a j ≠ 0 := by rw [hA, if_neg (by omega)]; omega
     have hPI : PI c n δ (u + 2 * δ + 1) (a + 1) l (l a) E0 v0 Ro (dA R a n j) := by
      refine ⟨hok.sh, hok.len.trans hI.len, ?_, by omega, ?_, ?_, ?_, ?_, ?_, ?_, hI.sp.trans (hok.sp (n + 1) (by omega) (by omega)), ?_⟩
      · refine ⟨hI.re.inc, hI.re.lt, fun i hi b hb => ?_, fun i hi => ?_⟩
        · by_cases e : i = a
          · subst e; exact hok.low b (by omega)
          · rw [hok.same i e (by omega)]; exact hI.re.zero i hi b hb
        · by_cases e : i = a
          · subst e; rw [hla]; exact hok.piv
          · rw [hok.same i e (by omega)]; exact hI.re.pos i hi
      · intro i hi;by_cases e : i = a
        · subst e; exact Int.le_refl _
        · have := hI.re.inc i a (by omega) ha; omega
      · intro i hi hin;have := hI.re.inc a i (by omega) hin; omega
      · intro i hi hin b;rw [hok.same i (by omega) (by omega)]; exact hI.un i (by omega) hin b
      · intro b hb;exact hok.gone b (by omega)
      · intro x b;by_cases e : x = a
        · subst e; exact hok.bk b
        · by_cases e' : x = n
          · subst e'; exact hok.bn b
          · rw [hok.same x e e']; exact iW (hI.bd x b) (by omega)
      · obtain ⟨t, w, ht, hw, hv⟩ := hI.cb;obtain ⟨t', s', ht', hv'⟩ := hok.comb;refine ⟨t' * t, fun b => t' * w b + s' * E0 a b, fun e => ?_, (hw.smul t').add ((Sp.row E0 ha).smul s'), fun b => ?_⟩
        · rcases Int.mul_eq_zero.1 e with e | e
          · exact ht' e
          · exact ht e
        · show aw (dA R a n j) n b = t' * t * v0 b + (t' * w b + s' * E0 a b);rw [hv', hv, hI.un a hsa ha, Int.mul_add, Int.mul_assoc]; omega
      · intro x hx b;rw [hok.same x (by omega) (by omega)]; exact hI.oth x hx b
     obtain ⟨b, R', h1, h2⟩ := hnext a hsa ha (dA R a n j) (u + 2 * δ + 1) hPI hbud;refine ⟨b, R', .meet hFit (by rw [hj]; exact hjc) (by rw [hj]; exact hlast) a (by omega) ha (fun i h3 h4 => ?_) ?_ ?_ ?_ ?_ ?_, h2⟩
     · rw [hj, hlead i (by omega)]; exact hlo i h4
     · rw [hj, hlead a ha, hla]
     · rw [hj]; omega
     · rw [hj]; exact hFitA
     · rw [hj]; exact hpA
     · rw [hj]; rw [hla] at h1; exact h1
   · have hhi : ∀ i, a <= i -> i < n -> j < l i := fun i h1 h2 => by
      rcases hend with h3 | ⟨h3, h4⟩
      · omega
      · by_cases e : i = a
        · subst e;have : l i ≠ j := fun h => hm ⟨h3, h⟩;omega
        · have := hI.re.inc a i (by omega) h2; omega
     obtain ⟨R1, hR1⟩ : ∃ R1, (if aw R n (aM R n) < 0 then bL R n else R) = R1 := ⟨_, rfl⟩;have hR1e : ∀ x, x ≠ n -> ∀ b, aw R1 x b = aw R x b := fun x hx b => by
      rw [<- hR1]; split
      · rw [om hnR, if_neg hx]
      · rfl
     have hR1n : (∀ b, (aw R1 n b).natAbs = (aw R n b).natAbs) /\ 0 < aw R1 n j /\ ((∀ b, aw R1 n b = aw R n b) ∨ (∀ b, aw R1 n b = - aw R n b)) := by
      rw [<- hR1]; split
      · rename_i h;rw [hj] at h;have h1 := fun b => (om hnR n b).trans (if_pos rfl);exact ⟨fun b => by rw [h1, Int.natAbs_neg], by rw [h1]; omega, .inr h1⟩
      · rename_i h;rw [hj] at h;exact ⟨fun b => rfl, by omega, .inl (fun b => rfl)⟩
     have hR1s : Sh c R1 := by
      rw [<- hR1]; split
      · exact hI.sh.Az n
      · exact hI.sh
     have hR1l : R1.length = R.length := by
      rw [<- hR1]; split
      · exact fG ..
      · rfl
     have hR1b : ∀ x b, (aw R1 x b).natAbs < W ^ u := fun x b => by
      by_cases e : x = n
      · subst e; rw [hR1n.1]; exact hI.bd x b
      · rw [hR1e x e]; exact hI.bd x b
     have hsp1 : ba (n + 1) (aw R) (n + 1) (aw R1) := by
      rcases hR1n.2.2 with h | h
      · exact ba.of_eq (fun k hk b => by
         by_cases e : k = n
         · subst e; exact (h b).symm
         · exact (hR1e k e b).symm)
      · exact ba.neg (by omega) hR1e h
     have hsw := mR (a := a) n R1 han (by omega);obtain ⟨R2, hR2⟩ : ∃ R2, aV a n R1 = R2 := ⟨_, rfl⟩;have hs2 : Sh c R2 := hR2 ▸ qg n R1 hR1s;have hl2 : R2.length = R.length := by rw [<- hR2, gJ, hR1l]
     rw [hR2] at hsw;have hsw2 : ∀ i b, i <= n -> aw R2 i b = if i < a then aw R1 i b else if i = a then aw R1 n b else aw R1 (i - 1) b := fun i b hi => by
      rw [hsw];by_cases h1 : i < a
      · rw [if_pos h1, if_pos h1]
      · rw [if_neg h1, if_neg h1];by_cases h2 : i = a
        · rw [if_pos h2, if_pos h2]
        · rw [if_neg h2, if_neg h2, if_pos hi]
     have hb2 : ∀ x b, (aw R2 x b).natAbs < W ^ u := fun x b => by
      rw [hsw]; split
      · exact hR1b ..
      · split
        · exact hR1b ..
        · split <;> exact hR1b ..
     have hE1 : Ech n c (aw R1) l := hI.re.congr (fun x hx b => hR1e x (by omega) b);have h10 : ∀ b, b < j -> aw R1 n b = 0 := fun b hb => by
      have h1 := hR1n.1 b;rw [hle.2.1 b hb] at h1; omega
     have hE2 := sj hE1 han hlo hhi hjc h10 hR1n.2.1 hsw2;have hsp2 := ba.perm han hsw2;have hind : ∀ t : Int, Sp n E0 (fun b => t * v0 b) -> t = 0 := by
      intro t ht;obtain ⟨t', w, ht', hw, hv⟩ := hI.cb;by_cases h0 : t = 0
      · exact h0
      · exfalso;have hin : Sp n E0 (fun b => t * aw R n b) := ((ht.smul t').add (hw.smul t)).congr (fun b => by
         rw [hv, Int.mul_add, <- Int.mul_assoc, <- Int.mul_assoc, Int.mul_comm t' t])
        obtain ⟨k, hk, hlk, _⟩ := hH0.lead hin (q := j) (fun e => by
         rcases Int.mul_eq_zero.1 e with e | e
         · exact h0 e
         · exact hvj e) (fun b hb => by
           show t * aw R n b = 0;rw [hle.2.1 b hb, Int.mul_zero])
        by_cases hka : k < a
        · have := hlo k hka; omega
        · have := hhi k (by omega) hk; omega
     obtain ⟨R', h1, h2⟩ := o5 (B := B) (δ := δ) (n := n + 1) hs2 (by omega) hE2 hb2 (by omega) (fun E' hE' hsp => hS hind E' _ hE' (hI.sp.trans (hsp1.trans (hsp2.trans hsp))));refine ⟨true, R', .stop hFit (by rw [hj]; exact hjc) (by rw [hj]; exact hlast) a (by omega) han (fun i h3 h4 => ?_) ?_ ?_ ?_, h2.sh, h2.len.trans (hl2.trans hI.len), fun x hx b => ?_, fun h => (by cases h), fun _ => ⟨⟨_, h2.herm⟩, hI.sp.trans (hsp1.trans (hsp2.trans h2.sp)), hind⟩⟩
     · rw [hj, hlead i (by omega)]; exact hlo i h4
     · rcases Nat.lt_or_eq_of_le han with h | h
       · refine .inr ?_;rw [hj, hlead a h]; exact hhi a (Nat.le_refl _) h
       · exact .inl h
     · rw [hR1, hR2]; exact Fit.of hs2 (fun a b => iW (hb2 a b) huB)
     · rw [hR1, hR2]; exact h1
     · rw [h2.same x (by omega), hsw, if_neg (by omega), if_neg (by omega), if_neg (by omega), hR1e x (by omega)];exact hI.oth x hx b
theorem yE {c n δ B U : Nat} {l : Nat -> Nat} {E0 : Nat -> Nat -> Int} {v0 : Nat -> Int} {Ro : List Hd} (hn : n < Ro.length) (hH0 : Ech n c E0 l) (hδ : ∀ a, a < n -> ∀ b, (E0 a b).natAbs < W ^ δ) (hUB : U + (n + 1) * δ <= B)
 (hZ : ∀ E' l', eK n c E' l' -> ba (n + 1) (aw Ro) n E' -> ∀ i, i < n -> ∀ j, (E' i j).natAbs < W ^ δ)
 (hS : (∀ s : Int, Sp n E0 (fun j => s * v0 j) -> s = 0) -> ∀ E' l', eK (n + 1) c E' l' -> ba (n + 1) (aw Ro) (n + 1) E' -> ∀ i, i < n + 1 -> ∀ j, (E' i j).natAbs < W ^ δ) :
 ∀ (f s u at_ : Nat) (last : Int) (R : List Hd), n - s <= f -> PI c n δ u s l last E0 v0 Ro R -> at_ <= s -> u + (n - s) * (2 * δ + 1) <= U -> ∃ b R', jA B c n at_ last R b R' /\ vT c n E0 v0 Ro b R' := by
 intro f;induction f with
 | zero =>
  intro s u at_ last R hf hI hat hu;exact lF hn hH0 hδ hUB hZ hS s u at_ last R hI hat hu (fun a ha1 ha2 => by omega)
 | succ f ih =>
  intro s u at_ last R hf hI hat hu;refine lF hn hH0 hδ hUB hZ hS s u at_ last R hI hat hu (fun a ha1 ha2 R1 u1 hI1 hu1 => ?_);exact ih (a + 1) u1 a (l a) R1 (by omega) hI1 (by omega) hu1
/-! Reduce. -/
def fl (N m : Nat) : Nat := 2 * (m + 1) * N + 1
theorem jn {n N m : Nat} (hn : n <= N) (hN : N <= 1048576) : tK n (W ^ m) < W ^ fl N m := by
 unfold tK fl;rcases Nat.eq_zero_or_pos n with h | h
 · subst h; simp; exact eZ _
 · have h1 : 2 * n * W ^ m + 1 <= W ^ (m + 1) := by
    rw [Nat.pow_succ, Nat.mul_comm (W ^ m)];have h2 : (2 * n + 1) * W ^ m <= W * W ^ m := Nat.mul_le_mul_right _ (by unfold W; omega);have h3 : (2 * n + 1) * W ^ m = 2 * n * W ^ m + W ^ m := by rw [Nat.add_mul, Nat.one_mul]
    have := eZ m;omega
   have h2 : (2 * n * W ^ m + 1) ^ (n - 1) <= W ^ ((m + 1) * (n - 1)) := by
    rw [Nat.pow_mul]; exact Nat.pow_le_pow_left h1 _
   have h3 : n * ((2 * n * W ^ m + 1) ^ (n - 1) * W ^ m) <= W ^ ((m + 1) * n) := by
    have h4 : (2 * n * W ^ m + 1) ^ (n - 1) * W ^ m <= W ^ ((m + 1) * (n - 1)) * W ^ m := Nat.mul_le_mul_right _ h2;have h5 : n * ((2 * n * W ^ m + 1) ^ (n - 1) * W ^ m) <= W * (W ^ ((m + 1) * (n - 1)) * W ^ m) := Nat.mul_le_mul (by unfold W; omega) h4;refine Nat.le_trans h5 ?_;have e : W * (W ^ ((m + 1) * (n - 1)) * W ^ m) = W ^ ((m + 1) * (n - 1) + m + 1) := by
     rw [<- Nat.pow_add, Nat.mul_comm W, <- Nat.pow_succ]
    rw [e];have e2 : (m + 1) * (n - 1) + m + 1 = (m + 1) * n := by
     have : n = n - 1 + 1 := by omega
     rw [Nat.add_assoc]
     conv => rhs; rw [this, Nat.mul_add, Nat.mul_one]
    rw [e2]; exact Nat.le_refl _
   obtain ⟨D, hD⟩ : ∃ D, n * ((2 * n * W ^ m + 1) ^ (n - 1) * W ^ m) = D := ⟨_, rfl⟩;rw [hD] at h3 ⊢;have h6 : D * D <= W ^ (2 * (m + 1) * n) := by
    have := Nat.mul_le_mul h3 h3;rw [<- Nat.pow_add] at this;have e : (m + 1) * n + (m + 1) * n = 2 * (m + 1) * n := by rw [Nat.mul_assoc]; omega
    rwa [e] at this
   have h7 : n * D * D < W * W ^ (2 * (m + 1) * n) := by
    rw [Nat.mul_assoc];refine Nat.lt_of_le_of_lt (Nat.mul_le_mul_left n h6) ?_;exact Nat.mul_lt_mul_of_pos_right (by unfold W; omega) (eZ _)
   refine Nat.lt_of_lt_of_le h7 ?_;rw [Nat.mul_comm W, <- Nat.pow_succ];refine wD ?_;have : 2 * (m + 1) * n <= 2 * (m + 1) * N := Nat.mul_le_mul_left _ hn;omega
def pw (N m : Nat) : Nat := fl N m + N * (2 * fl N m + 1) + (N + 1) * fl N m
theorem oh.snoc {n : Nat} {a E0 : Nat -> Nat -> Int} {v : Nat -> Int} (h : oh n a) (ha : ∀ k, k < n -> Sp n E0 (a k)) (hv : ∀ s : Int, Sp n E0 (fun j => s * v j) -> s = 0) : oh (n + 1) (fun k => if k < n then a k else v) := by
 intro x hx k hk;have e : ∀ j, sm n (fun k => x k * a k j) + x n * v j = 0 := fun j => by
  have := hx j;unfold sm at this;rw [aS (g := fun k => x k * a k j) (fun k hk => by simp [hk])] at this;simpa using this
 have h0 : x n = 0 := by
  refine hv _ (((Sp.sm (x := fun k => - x k) ha)).congr (fun j => ?_));have h1 := e j;have h2 : sm n (fun k => - x k * a k j) = - sm n (fun k => x k * a k j) := by
   have := gM n (-1) (fun k => x k * a k j);rw [Int.neg_one_mul] at this;rw [<- this]; exact aS (fun k _ => by rw [Int.neg_mul, Int.neg_one_mul])
  rw [h2]; omega
 by_cases hkn : k = n
 · subst hkn; exact h0
 · refine h x (fun j => ?_) k (by omega);have := e j;rw [h0] at this; simpa using this
theorem rp : ∀ (k i : Nat) (R : List Hd), i + k < R.length -> ∀ a b, aw (lW k i R) a b = if a < i then aw R a b else if a < i + k then aw R (a + 1) b else if a = i + k then aw R i b else aw R a b
 | 0, i, R, h, a, b => by
  unfold lW;by_cases h1 : a < i
  · rw [if_pos h1]
  · rw [if_neg h1, if_neg (by omega)];by_cases h2 : a = i + 0
    · rw [if_pos h2]; subst h2; rfl
    · rw [if_neg h2]
 | k + 1, i, R, h, a, b => by
  unfold lW;rw [rp k (i + 1) _ (by rw [bB]; omega)];have hsw := fun x => nW (R := R) (i := i) (j := i + 1) (by omega) (by omega) x b;rw [hsw, hsw, hsw];by_cases h1 : a < i
  · rw [if_pos (by omega), if_pos h1];unfold swp; rw [if_neg (by omega), if_neg (by omega)]
  · rw [if_neg h1];by_cases h2 : a = i
    · rw [if_pos (by omega), if_pos (by omega)];unfold swp; rw [if_neg (by omega), if_pos h2, h2]
    · rw [if_neg (by omega)];by_cases h3 : a < i + (k + 1)
      · rw [if_pos (by omega), if_pos h3];unfold swp; rw [if_neg (by omega), if_neg (by omega)]
      · rw [if_neg (by omega), if_neg h3];by_cases h4 : a = i + (k + 1)
        · rw [if_pos (by omega), if_pos h4];unfold swp; rw [if_pos rfl]
        · rw [if_neg (by omega), if_neg h4];unfold swp; rw [if_neg (by omega), if_neg (by omega)]
theorem wW {c : Nat} : ∀ (k i : Nat) (R : List Hd), Sh c R -> Sh c (lW k i R)
 | 0, i, R, h => h
 | k + 1, i, R, h => wW k (i + 1) _ (h.vX _ _)
theorem lO : ∀ (k i : Nat) (R : List Hd), (lW k i R).length = R.length
 | 0, i, R => rfl
 | k + 1, i, R => (lO k (i + 1) _).trans (bB ..)
theorem eK.congr {n c : Nat} {E F : Nat -> Nat -> Int} {l : Nat -> Nat} (h : eK n c E l) (e : ∀ a, a < n -> ∀ b, F a b = E a b) : eK n c F l :=
 ⟨h.toEch.congr e, fun i k hik hk => by rw [e i (by omega), e k hk]; exact h.red i k hik hk⟩
structure RI (c m : Nat) (Ro : List Hd) (d e : Nat) (R : List Hd) : Prop where
 sh : Sh c R
 len : R.length = Ro.length
 de : d <= e
 el : e <= Ro.length
 herm : ∃ l, eK d c (aw R) l
 raw : ∀ i, d <= i -> i < e -> ∀ b, (aw R i b).natAbs < W ^ m
 zero : ∀ i, e <= i -> ∀ b, aw R i b = 0
 sp : ba Ro.length (aw Ro) e (aw R)
 ind : ∃ a : Nat -> Nat -> Int, (∀ k, k < d -> Sp d (aw R) (a k)) /\ oh d a /\ ∀ k b, k < d -> (a k b).natAbs <= W ^ m
structure tO (c D : Nat) (Ro : List Hd) (k : Nat) (R' : List Hd) : Prop where
 sh : Sh c R'
 len : R'.length = Ro.length
 kl : k <= Ro.length
 herm : ∃ l, eK k c (aw R') l
 zero : ∀ i, k <= i -> ∀ b, aw R' i b = 0
 sp : ba Ro.length (aw Ro) k (aw R')
 bd : ∀ i b, (aw R' i b).natAbs < W ^ D
theorem RI.done {c m N d : Nat} {Ro R : List Hd} (hI : RI c m Ro d d R) (hN : Ro.length <= N) (hN1 : N <= 1048576) : tO c (fl N m) Ro d R := by
 refine ⟨hI.sh, hI.len, hI.el, hI.herm, hI.zero, hI.sp, fun i b => ?_⟩;obtain ⟨l, hH⟩ := hI.herm;obtain ⟨a, ha1, ha2, ha3⟩ := hI.ind;by_cases h : i < d
 · exact Nat.lt_of_le_of_lt (hH.bound ha1 ha2 (fun k j hk => ha3 k j hk) i b h) (jn (by have := hI.el; omega) hN1)
 · rw [hI.zero i (by omega)]; simpa using eZ _
theorem tf {c m N B : Nat} {Ro : List Hd} (hN : Ro.length <= N) (hN1 : N <= 1048576) (hB : pw N m <= B) : ∀ (f d e : Nat) (R : List Hd), e - d <= f -> RI c m Ro d e R -> ∃ k R', lU B c d e R k R' /\ tO c (fl N m) Ro k R'
 | 0, d, e, R, hf, hI => by
  have : d = e := by have := hI.de; omega
  subst this;exact ⟨d, R, .fin (Nat.le_refl _), hI.done hN hN1⟩
 | f + 1, d, e, R, hf, hI => by
  by_cases hde : d < e
  · obtain ⟨δ, hδ⟩ : ∃ δ, fl N m = δ := ⟨_, rfl⟩;unfold pw at hB;rw [hδ] at hB;obtain ⟨l, hH⟩ := hI.herm;obtain ⟨a, ha1, ha2, ha3⟩ := hI.ind;have hdl : d < Ro.length := by have := hI.el; omega
    have hmδ : m <= δ := by
     have h1 : (m + 1) * 1 <= (m + 1) * (2 * N) := Nat.mul_le_mul_left _ (by omega);rw [<- hδ]; unfold fl;have h2 : 2 * (m + 1) * N = (m + 1) * (2 * N) := by rw [Nat.mul_comm 2, Nat.mul_assoc]
     omega
    have hbnd : ∀ i, i < d -> ∀ b, (aw R i b).natAbs < W ^ δ := fun i hi b => by
     have := hH.bound ha1 ha2 (fun k j hk => ha3 k j hk) i b hi;exact Nat.lt_of_le_of_lt this (hδ ▸ jn (by omega) hN1)
    have hall : ∀ x b, (aw R x b).natAbs < W ^ δ := fun x b => by
     by_cases h1 : x < d
     · exact hbnd x h1 b
     · by_cases h2 : x < e
       · exact iW (hI.raw x (by omega) h2 b) hmδ
       · rw [hI.zero x (by omega)]; simpa using eZ δ
    have hsub : ∀ {M : Nat} {E' : Nat -> Nat -> Int}, ba (d + 1) (aw R) M E' -> ∀ k, k < d -> Sp M E' (a k) := fun hsp k hk =>
     (ha1 k hk).trans (fun i hi => hsp.1 i (by omega))
    have hZ : ∀ E' l', eK d c E' l' -> ba (d + 1) (aw R) d E' -> ∀ i, i < d -> ∀ j, (E' i j).natAbs < W ^ δ := fun E' l' hE' hsp i hi j =>
     Nat.lt_of_le_of_lt (hE'.bound (hsub hsp) ha2 (fun k j hk => ha3 k j hk) i j hi) (hδ ▸ jn (by omega) hN1)
    have hS : (∀ s : Int, Sp d (aw R) (fun j => s * aw R d j) -> s = 0) -> ∀ E' l', eK (d + 1) c E' l' -> ba (d + 1) (aw R) (d + 1) E' -> ∀ i, i < d + 1 -> ∀ j, (E' i j).natAbs < W ^ δ := fun hv E' l' hE' hsp i hi j => by
     have hb := hE'.bound (a := fun k => if k < d then a k else aw R d) (M := W ^ m) (fun k hk => by
      by_cases h : k < d
      · simp only [if_pos h]; exact hsub hsp k h
      · simp only [if_neg h]; exact hsp.1 d (by omega)) (ha2.snoc ha1 hv) (fun k j hk => by
      by_cases h : k < d
      · simp only [if_pos h]; exact ha3 k j h
      · simp only [if_neg h]; exact Nat.le_of_lt (hI.raw d (Nat.le_refl _) hde j)) i j hi
     exact Nat.lt_of_le_of_lt hb (hδ ▸ jn (by omega) hN1)
    have hmulN : (d - 0) * (2 * δ + 1) <= N * (2 * δ + 1) := Nat.mul_le_mul_right _ (by omega);have hmulN2 : (d + 1) * δ <= (N + 1) * δ := Nat.mul_le_mul_right _ (by omega);obtain ⟨b, R1, hput, hok⟩ := yE (δ := δ) (B := B) (U := δ + N * (2 * δ + 1)) (v0 := aw R d) (by rw [hI.len]; exact hdl : d < R.length) hH.toEch hbnd (by omega) hZ hS d 0 δ 0 (-1) R (by omega)
     ⟨hI.sh, rfl, hH.toEch, Nat.zero_le _, fun i hi => by omega, fun i _ _ => by omega, fun i _ _ _ => rfl, fun b hb => by omega, hall, ⟨1, fun _ => 0, by omega, Sp.zero _ _, fun b => by simp⟩, ba.refl _ _, fun _ _ _ => rfl⟩ (Nat.le_refl _) (by omega)
    cases b
    · obtain ⟨⟨l', hH'⟩, hz, hsp⟩ := hok.no rfl;have hl1 : R1.length = R.length := hok.len;have hrot := rp (e - 1 - d) d R1 (by rw [hl1, hI.len]; have := hI.el; omega);have e1 : d + (e - 1 - d) = e - 1 := by omega
      rw [e1] at hrot;obtain ⟨R2, hR2⟩ : ∃ R2, lW (e - 1 - d) d R1 = R2 := ⟨_, rfl⟩;have hlo : ∀ i, i < d -> ∀ b, aw R2 i b = aw R1 i b := fun i hi b => by rw [<- hR2, hrot, if_pos hi]
      have hmid : ∀ i, d <= i -> i < e - 1 -> ∀ b, aw R2 i b = aw R (i + 1) b := fun i h1 h2 b => by
       rw [<- hR2, hrot, if_neg (by omega), if_pos h2, hok.oth (i + 1) (by omega)]
      have hsp2 : ba Ro.length (aw Ro) (e - 1) (aw R2) := by
       refine hI.sp.trans ⟨fun k hk => ?_, fun k hk => ?_⟩
       · by_cases h1 : k <= d
         · refine (hsp.1 k (by omega)).trans (fun i hi => ?_);exact (Sp.row (aw R2) (by omega : i < e - 1)).congr (fun b => (hlo i hi b).symm)
         · refine (Sp.row (aw R2) (by omega : k - 1 < e - 1)).congr (fun b => ?_);rw [hmid (k - 1) (by omega) (by omega)]; congr 1; omega
       · by_cases h1 : k < d
         · refine ((hsp.2 k h1).congr (hlo k h1)).trans (fun i hi => Sp.row _ (by omega))
         · exact (Sp.row (aw R) (by omega : k + 1 < e)).congr (hmid k (by omega) hk)
      have hRI : RI c m Ro d (e - 1) R2 := by
       refine ⟨hR2 ▸ wW _ _ _ hok.sh, by rw [<- hR2, lO, hl1, hI.len], by omega, by have := hI.el; omega, ⟨l', hH'.congr hlo⟩, fun i h3 h4 b => ?_, fun i h3 b => ?_, hsp2, ⟨a, fun k hk => ?_, ha2, ha3⟩⟩
       · rw [hmid i h3 h4]; exact hI.raw (i + 1) (by omega) (by omega) b
       · rw [<- hR2, hrot, if_neg (by omega), if_neg (by omega)];by_cases h4 : i = e - 1
         · rw [if_pos h4]; exact hz b
         · rw [if_neg h4, hok.oth i (by omega)]; exact hI.zero i (by omega) b
       · refine (hsub hsp k hk).trans (fun i hi => ?_);exact (Sp.row (aw R2) hi).congr (fun b => (hlo i hi b).symm)
      obtain ⟨k, R', h1, h2⟩ := tf hN hN1 (by unfold pw; rw [hδ]; exact hB) f d (e - 1) R2 (by omega) hRI;exact ⟨k, R', .zero hde hput (by rw [hR2]; exact h1), h2⟩
    · obtain ⟨⟨l', hH'⟩, hsp, hv⟩ := hok.yes rfl;have hl1 : R1.length = R.length := hok.len;have hsp2 : ba Ro.length (aw Ro) e (aw R1) := by
       refine hI.sp.trans ⟨fun k hk => ?_, fun k hk => ?_⟩
       · by_cases h1 : k < d + 1
         · exact (hsp.1 k h1).trans (fun i hi => Sp.row _ (by omega))
         · exact (Sp.row (aw R1) hk).congr (fun b => (hok.oth k (by omega) b).symm)
       · by_cases h1 : k < d + 1
         · exact (hsp.2 k h1).trans (fun i hi => Sp.row _ (by omega))
         · exact (Sp.row (aw R) hk).congr (fun b => hok.oth k (by omega) b)
      have hRI : RI c m Ro (d + 1) e R1 := by
       refine ⟨hok.sh, hl1.trans hI.len, by omega, hI.el, ⟨l', hH'⟩, fun i h3 h4 b => ?_, fun i h3 b => ?_, hsp2, ⟨fun k => if k < d then a k else aw R d, fun k hk => ?_, ha2.snoc ha1 hv, fun k b hk => ?_⟩⟩
       · rw [hok.oth i (by omega)]; exact hI.raw i (by omega) h4 b
       · rw [hok.oth i (by omega)]; exact hI.zero i h3 b
       · by_cases h : k < d
         · simp only [if_pos h]; exact hsub hsp k h
         · simp only [if_neg h]; exact hsp.1 d (by omega)
       · by_cases h : k < d
         · simp only [if_pos h]; exact ha3 k b h
         · simp only [if_neg h]; exact Nat.le_of_lt (hI.raw d (Nat.le_refl _) hde b)
      obtain ⟨k, R', h1, h2⟩ := tf hN hN1 (by unfold pw; rw [hδ]; exact hB) f (d + 1) e R1 (by omega) hRI;exact ⟨k, R', .ok hde hput h1, h2⟩
  · have : d = e := by have := hI.de; omega
    subst this;exact ⟨d, R, .fin (Nat.le_refl _), hI.done hN hN1⟩
theorem o3 {c m N B : Nat} {Ro : List Hd} (hs : Sh c Ro) (hm : ∀ i b, (aw Ro i b).natAbs < W ^ m) (hN : Ro.length <= N) (hN1 : N <= 1048576) (hB : pw N m <= B) : ∃ k R', lU B c 0 Ro.length Ro k R' /\ tO c (fl N m) Ro k R' :=
 tf hN hN1 hB Ro.length 0 Ro.length Ro (by omega)
  ⟨hs, rfl, Nat.zero_le _, Nat.le_refl _, ⟨fun _ => 0, ⟨fun i k _ h => by omega, fun i h => by omega, fun i h => by omega, fun i h => by omega⟩, fun i k _ h => by omega⟩, fun i _ _ b => hm i b, fun i hi b => eB hi b, ba.refl _ _, ⟨fun _ _ => 0, fun k h => by omega, fun x _ k h => by omega, fun k b h => by omega⟩⟩
def aE (xs : List Int) (r c i j : Nat) : Int := if i < r /\ j < c then xs.getD (i * c + j) 0 else 0
theorem jb {r c i j : Nat} (hi : i < r) (hj : j < c) : i * c + j < r * c := by
 have h1 : (i + 1) * c <= r * c := Nat.mul_le_mul_right _ hi;have h2 : (i + 1) * c = i * c + c := Nat.succ_mul i c;omega
theorem wX {r c n : Nat} (h : n < r * c) : ∃ i j, i < r /\ j < c /\ n = i * c + j := by
 have hc : 0 < c := by
  rcases Nat.eq_zero_or_pos c with h0 | h0
  · subst h0; simp at h
  · exact h0
 exact ⟨n / c, n % c, (Nat.div_lt_iff_lt_mul hc).2 h, Nat.mod_lt _ hc, by have := Nat.div_add_mod n c; rw [Nat.mul_comm] at this; omega⟩
theorem eA {xs : List Int} {r c i j : Nat} (hi : i < r) (hj : j < c) : aE xs r c i j = xs.getD (i * c + j) 0 := by
 unfold aE; rw [if_pos ⟨hi, hj⟩]
theorem qx {xs : List Int} {r c i : Nat} (hi : r <= i) (j : Nat) : aE xs r c i j = 0 := by
 unfold aE; rw [if_neg (by omega)]
theorem ks {xs : List Int} {r c j : Nat} (i : Nat) (hj : c <= j) : aE xs r c i j = 0 := by
 unfold aE; rw [if_neg (by omega)]
theorem xq {xs ys : List Int} {r c : Nat} (hx : xs.length = r * c) (hy : ys.length = r * c) (h : ∀ i j, i < r -> j < c -> aE xs r c i j = aE ys r c i j) : xs = ys := by
 refine List.ext_getElem (by omega) fun n h1 h2 => ?_;obtain ⟨i, j, hi, hj, e⟩ := wX (by omega : n < r * c);have := h i j hi hj;rw [eA hi hj, eA hi hj, <- e, gz _ _ h1, gz _ _ h2] at this;exact this
theorem fV {xs : List Int} {r c B : Nat} (hB : 0 < B) (h : ∀ x ∈ xs, x.natAbs < B) (i j : Nat) : (aE xs r c i j).natAbs < B := by
 unfold aE;split
 · by_cases hl : i * c + j < xs.length
   · rw [gz _ _ hl]; exact h _ (List.getElem_mem _)
   · rw [dY _ _ (by omega)]; simpa using hB
 · simpa using hB
theorem mA {xs : List Int} {r c B : Nat} (hx : xs.length = r * c) (h : ∀ i j, i < r -> j < c -> (aE xs r c i j).natAbs < B) : ∀ x ∈ xs, x.natAbs < B := by
 intro x hm;obtain ⟨n, hn, rfl⟩ := List.getElem_of_mem hm;obtain ⟨i, j, hi, hj, e⟩ := wX (by omega : n < r * c);have := h i j hi hj;rw [eA hi hj, <- e, gz _ _ hn] at this;exact this
theorem fK (xs : List Int) (c k j : Nat) (hj : j < c) : (rowOf xs c k).getD j 0 = xs.getD (k * c + j) 0 := by
 unfold rowOf;simp [hj]
theorem kC : ∀ (xss : List (List Int)) (c : Nat), (∀ x ∈ xss, x.length = c) -> ∀ i j, (hi : i < xss.length) -> j < c -> xss.flatten.getD (i * c + j) 0 = (xss[i]).getD j 0
 | [], c, h, i, j, hi, hj => by simp at hi
 | x :: xss, c, h, 0, j, hi, hj => by
  have hx := h x (List.mem_cons_self ..);rw [List.flatten_cons, Nat.zero_mul, Nat.zero_add, List.getElem_cons_zero];rw [gz _ _ (by rw [List.length_append]; omega), gz _ _ (by omega), List.getElem_append_left]
 | x :: xss, c, h, i + 1, j, hi, hj => by
  have hx := h x (List.mem_cons_self ..);rw [List.flatten_cons, List.getElem_cons_succ, <- kC xss c (fun y hy => h y (List.mem_cons_of_mem _ hy)) i j (by simpa using hi) hj];have e : (i + 1) * c + j = x.length + (i * c + j) := by rw [Nat.succ_mul, hx]; omega
  rw [e, List.getD_eq_getElem?_getD, List.getElem?_append_right (by omega), List.getD_eq_getElem?_getD];congr 2; omega
theorem kM {R : List Hd} {xs : List Int} {r c : Nat} (hl : R.length = r) (hx : xs.length = r * c) (h : ∀ k (hk : k < R.length), R[k].xs = rowOf xs c k) : Sh c R /\ ∀ i j, aw R i j = aE xs r c i j := by
 have hlen : ∀ k, k < r -> (rowOf xs c k).length = c := fun k hk => by
  have := jb (c := c + 1) hk (Nat.lt_succ_self c);unfold rowOf;have h1 : (k + 1) * c <= r * c := Nat.mul_le_mul_right _ hk;have h2 : (k + 1) * c = k * c + c := Nat.succ_mul k c;simp [hx]; omega
 have hsh : Sh c R := fun q hq => by
  obtain ⟨k, hk, rfl⟩ := List.getElem_of_mem hq;rw [h k hk]; exact hlen k (by omega)
 refine ⟨hsh, fun i j => ?_⟩;by_cases hi : i < r
 · by_cases hj : j < c
   · rw [bU (by omega), h i (by omega), fK _ _ _ _ hj, eA hi hj]
   · rw [hsh.wide i (by omega), ks _ (by omega)]
 · rw [eB (by omega), qx (by omega)]
theorem uw {R : List Hd} {r c : Nat} (hl : R.length = r) (hs : Sh c R) : (R.map Hd.xs).flatten.length = r * c /\ ∀ i j, aE (R.map Hd.xs).flatten r c i j = aw R i j := by
 have hc : ∀ x ∈ R.map Hd.xs, x.length = c := fun x hx => by
  obtain ⟨q, hq, rfl⟩ := List.mem_map.1 hx; exact hs q hq
 refine ⟨?_, fun i j => ?_⟩
 · have : ∀ (xss : List (List Int)), (∀ x ∈ xss, x.length = c) -> xss.flatten.length = xss.length * c := by
    intro xss;induction xss with
    | nil => intro _; simp
    | cons x xs ih =>
     intro h;rw [List.flatten_cons, List.length_append, ih (fun y hy => h y (List.mem_cons_of_mem _ hy)), h x (List.mem_cons_self ..), List.length_cons, Nat.succ_mul]; omega
   rw [this _ hc, List.length_map, hl]
 · by_cases hi : i < r
   · by_cases hj : j < c
     · rw [eA hi hj, kC _ c hc i j (by simp; omega) hj, List.getElem_map, bU (by omega)]
     · rw [hs.wide i (by omega), ks _ (by omega)]
   · rw [eB (by omega), qx (by omega)]
end Go.Proofs.YtjjlmfmoihooiaaGreat
namespace Go.Proofs.YtjjlmfmoihooiaaGreat
open Go.RowKit
attribute [local go_sem] Oper.semAt_some
theorem rj {w : World} {l : Nat} {o o' : Obj} (hl : w.heap[l]? = some o) (hn : o.isCells = false) {p : Addr} {v : Value} (h : w.cell? p = some v) : (w.putObj l o').cell? p = some v := by
 by_cases e : p.block = l
 · exfalso;unfold World.cell? at h;rw [e, hl] at h;cases o <;> simp_all [Obj.isCells]
 · exact (World.cell?_of_block (World.putObj_heap_other e)).trans h
theorem fJ {w : World} {l : Nat} {o o' : Obj} (hl : w.heap[l]? = some o) (hn : o.isCells = false) {b : Nat} {t : TypeId} {cs : List Value} (h : aa w b t cs) : aa (w.putObj l o') b t cs := by
 by_cases e : b = l
 · exfalso;unfold aa at h;rw [e, hl] at h;injection h with h
   subst h;simp [Obj.isCells] at hn
 · unfold aa at *;rw [World.putObj_heap_other e]; exact h
theorem qR (w : World) (l : Nat) (o : Obj) : (w.putObj l o).heap.size = w.heap.size := by simp
theorem sH {w : World} {l : Nat} {o o' : Obj} (hl : w.heap[l]? = some o) (hn : o.isCells = false) {ao : Option Addr} {ws : List Nat} (h : cE w ao ws) : cE (w.putObj l o') ao ws := by
 refine ⟨h.1, fun hp => ?_⟩;obtain ⟨b, q, e, hb, hc⟩ := h.2 hp;exact ⟨b, q, e, by rw [qR]; exact hb, fun i hi => rj hl hn (hc i hi)⟩
theorem ss {w : World} {l : Nat} {o o' : Obj} (hl : w.heap[l]? = some o) (hn : o.isCells = false) {L : Nat} {v : Value} {x : Int} (h : ai w L v x) : ai (w.putObj l o') L v x := by
 obtain ⟨n, ao, len, cap, ws, e, hW, r⟩ := h;exact ⟨n, ao, len, cap, ws, e, sH hl hn hW, r⟩
theorem j5 {w : World} {l : Nat} {o o' : Obj} (hl : w.heap[l]? = some o) (hn : o.isCells = false) {b : Nat} {xs : List Int} (h : aK w b xs) : aK (w.putObj l o') b xs := by
 obtain ⟨ps, tl, nt, hr, hl', hN⟩ := h;exact ⟨ps, tl, nt, fJ hl hn hr, hl', fun i h1 h2 => ⟨ss hl hn (hN i h1 h2).1, (hN i h1 h2).2⟩⟩
theorem kK : (Tryz.prog.info? 22).map (fun i => (i.zero, i.size, i.bytes)) = some (some (.slice none 0 0), 1, 24) := by kernel_rfl
def ft (r : Nat) (zs : List NR) : List Value := zs.map (fun z => z.2.cF) ++ List.replicate (r - zs.length) (.slice none 0 0)
structure vp (w : World) (B g o r : Nat) (zs : List NR) (W : World) : Prop where
 box : aa W g 70 [.slice (some ⟨o, 0, none⟩) zs.length r]
 row : aa W o 22 (ft r zs)
 nums : ∀ z ∈ zs, aK W z.2.blk z.2.xs /\ B <= z.2.blk
 nd : (zs.map (fun z => z.2.blk)).Nodup
 qb : aN (fun k => k = g ∨ k = o) w W
theorem pB {F : Fence} {n : Nat} {P : Program} {w : World} {ops : Array Oper} {rest : List Oper} {o : Oper} {a : Act} {Q : Exit -> Act -> World -> Prop}
 (hg : o.guard = none) (s x : Operand) (t : TypeId) (hop : o.op = Op.call { callee := Callee.builtin Builtin.append, args := #[s, x], argTypes := #[t, t] })
 (e : TypeId) (z : Value) (size bytes : Nat) (h1 : P.underlying t = some (.slice e)) (h2 : (P.info? e).map (fun i => (i.zero, i.size, i.bytes)) = some (some z, size, bytes))
 (b off sLen sCap : Nat) (ad : Addr) (m c : Nat) (news : List Value) (hs : a.eval s = .slice (some ⟨b, off, none⟩) sLen sCap) (hx : a.eval x = .slice (some ad) m c)
 (hl : news.length = m * size) (hnews : ∀ j u, news[j]? = some u -> w.cell? (ad.add j) = some u) (h1c : ∀ u ∈ news, u.oneCell' = true) (hroom : sLen + m <= sCap)
 (hc : ∀ j, j < news.length -> (w.cell? ⟨b, off + sLen * size + j, none⟩).isSome = true) (hf : ∀ j, j < news.length -> w.frozen? ⟨b, off + sLen * size + j, none⟩ = false)
 (hK : wpListIn F n P ops Q rest (a.put o.dst (.slice (some ⟨b, off, none⟩) (sLen + m) sCap)) (w.setCells b (off + sLen * size) news)) :
 wpListIn F n P ops Q (o :: rest) a w := by
 refine wpListIn_plain hg fun K hK' => ?_;obtain ⟨i, hi, hz, hsz, hb⟩ := info_parts h2;subst hsz;have hrun := run_append_room_cells (P := P) (w := w) t o.type e i h1 hi b off sLen sCap ad m c news hl hnews h1c hroom hc hf;unfold Oper.wpIn;refine ⟨?_, ?_⟩
 · simp [Oper.about, hop, resolve, Target.leads, Sem.run_pure]
 · rw [Oper.semAt_plain F _ _ (by rw [hop]; intro c hc'; cases hc')];simp [execOp, hop, resolve, invoke, builtin, hs, hx, hrun, Result.andThen];exact hK' _ _ hK
theorem sB {P : Program} {w : World} {ops : Array Oper} {rest : List Oper} {o : Oper} {a : Act} {Q : Exit -> Act -> World -> Prop}
 (hg : o.guard = none) (s x : Operand) (t : TypeId) (hop : o.op = Op.call { callee := Callee.builtin Builtin.append, args := #[s, x], argTypes := #[t, t] })
 (e : TypeId) (z : Value) (size bytes : Nat) (h1 : P.underlying t = some (.slice e)) (h2 : (P.info? e).map (fun i => (i.zero, i.size, i.bytes)) = some (some z, size, bytes))
 (b off sLen sCap : Nat) (ad : Addr) (m c : Nat) (news : List Value) (hs : a.eval s = .slice (some ⟨b, off, none⟩) sLen sCap) (hx : a.eval x = .slice (some ad) m c)
 (hl : news.length = m * size) (hnews : ∀ j u, news[j]? = some u -> w.cell? (ad.add j) = some u) (h1c : ∀ u ∈ news, u.oneCell' = true) (hroom : sLen + m <= sCap)
 (hc : ∀ j, j < news.length -> (w.cell? ⟨b, off + sLen * size + j, none⟩).isSome = true) (hf : ∀ j, j < news.length -> w.frozen? ⟨b, off + sLen * size + j, none⟩ = false)
 (hK : wpList P ops Q rest (a.put o.dst (.slice (some ⟨b, off, none⟩) (sLen + m) sCap)) (w.setCells b (off + sLen * size) news)) :
 wpList P ops Q (o :: rest) a w := by
 refine wpList_plain hg fun K hK' => ?_;obtain ⟨i, hi, hz, hsz, hb⟩ := info_parts h2;subst hsz;have hrun := run_append_room_cells (P := P) (w := w) t o.type e i h1 hi b off sLen sCap ad m c news hl hnews h1c hroom hc hf;simp [Oper.wp, Oper.about, hop, resolve, Target.leads, Sem.run_pure, execOp, invoke, builtin, hs, hx, hrun, Result.andThen];exact hK' _ _ hK
theorem uj (n : Nat) : (madeCells (Value.slice none 0 0).cells (n * 1)).toList = List.replicate n (.slice none 0 0) := by
 rw [fc _ rfl]
theorem yr {w : World} {ops : Array Oper} {rest : List Oper} {o : Oper} {a : Act} {Q : Exit -> Act -> World -> Prop}
 (hg : o.guard = none) (l c : Operand) (hop : o.op = Op.makeSlice 70 l c)
 {kl kc : IntKind} {L C : Int} (n m : Nat) (hl : a.eval l = .int kl L) (hc : a.eval c = .int kc C) (hL : L = (n : Int)) (hC : C = (m : Int)) (hnm : n <= m) (b2 : m <= 1000000)
 (hK : ∀ b w', Made w w' b 22 (List.replicate m (.slice none 0 0)) -> wpList Tryz.prog ops Q rest (a.put o.dst (.slice (some ⟨b, 0, none⟩) n m)) w') :
 wpList Tryz.prog ops Q (o :: rest) a w :=
 ec hg l c 70 hop 22 (.slice none 0 0) 1 24 Tryz.underlying70 kK n m hl hc hL hC hnm (by omega) (by unfold maxLen; omega)
  (fun b w' h => hK b w' (by rw [uj] at h; exact h))
theorem tY (r c : Nat) (ao : Option Addr) (len cap : Nat) (xs : List Int) (w : World) (hr : r <= 64) (hc : c <= 64) (h : aL w 17592186044415 ao xs) (hL : ∀ x ∈ xs, ag x.natAbs <= 17592186044415) (hl : len = xs.length) (hs : xs.length = r * c) :
 CallsIn Fence.wide 6 Tryz.prog 42 #[.agg #[.int .i64 (r : Int), .int .i64 (c : Int), .slice ao len cap]] w fun e w' => (∃ o R, e = .returned (.slice (some ⟨o, 0, none⟩) R.length r) /\ dv w' o R /\ R.length = r /\ (∀ k (h : k < R.length), R[k].xs = rowOf xs c k) /\ w.heap.size <= o /\ (∀ x ∈ R, w.heap.size <= x.blk) /\ aa w' o 22 (R.map Hd.cF) /\ ∀ k (h : k < R.length), R[k].cap = c) /\ Below w.heap.size w w' := by
 subst hl;have HX := hi_ h; clear h;have HS := hi_ hs; clear hs;refine callsIn_of_wp_marks Tryz.func42 rfl trivial ?_ rfl;simp only [Tryz.ntmps42, List.size_toArray, List.length_cons, List.length_nil, Nat.reduceAdd, Nat.reduceSub, Array.replicate_succ, Array.replicate_zero, List.push_toArray, List.append_toArray, List.nil_append, List.cons_append];refine wpIn_wide.2 ?_;have hb0 : Below w.heap.size w (w.alloc (.cells #[.int .i64 (r : Int), .int .i64 (c : Int), .slice ao xs.length cap] 24)) := (Below.refl _ _).alloc (Nat.le_refl _) _;have hr0 := aa.new w #[.int .i64 (r : Int), .int .i64 (c : Int), .slice ao xs.length cap] 24;have HB0 := hi_ hb0; clear hb0;have HR0 := hi_ hr0; clear hr0;go_wp2_with (at_make; refine yr rfl _ _ rfl 0 r rfl rfl rfl rfl (Nat.zero_le _) (by omega) ?_; intro o w1 hm1; have hr1 := (HR0.out.below hm1.below HR0.out.lt).alloc (.cells #[.slice (some ⟨o, 0, none⟩) 0 r] 70); have c0 := hr1.cell 0; have c1 := hr1.cell 1; have c2 := hr1.cell 2; have hm := hi_ hm1; clear hm1 hr1; simp only [List.getElem?_cons_zero, List.getElem?_cons_succ] at c0 c1 c2)
 have hr2 := hm.out.row.alloc (.cells #[.slice (some ⟨o, 0, none⟩) 0 r] 70);have hr3 := aa.new w1 #[.slice (some ⟨o, 0, none⟩) 0 r] 70;have hb2 : Below w.heap.size w (w1.alloc (.cells #[.slice (some ⟨o, 0, none⟩) 0 r] 70)) := (HB0.out.trans (hm.out.below.mono HB0.out.size)).alloc (by have := HB0.out.size; have := hm.out.below.size; omega) _;have hg1 : w.heap.size < w1.heap.size := Nat.lt_of_lt_of_le HR0.out.lt hm.out.below.size;have ho1 : w.heap.size < o /\ o < w1.heap.size := by
  have h1 := hm.out.at_;have h2 := HR0.out.lt;have h3 := hm.out.size;omega
 generalize hw2 : w1.alloc (.cells #[.slice (some ⟨o, 0, none⟩) 0 r] 70) = w2 at *;have hs2 : w2.heap.size = w1.heap.size + 1 := by rw [<- hw2]; simp
 have HR2 := hi_ hr2; clear hr2;have HR3 := hi_ hr3; clear hr3;have HB2 := hi_ hb2; clear hb2;clear hm hw2 HB0 HR0 c0 c1 c2;have hsnd : aR (r : Int) (c : Int) xs.length = true := by
  unfold aR bJ;rw [HS.out];simp; omega
 refine (qK (r : Int) (c : Int) ao xs.length cap xs w2 (by omega) (by omega) (HX.out.below HB2.out) rfl hsnd (by rw [HS.out]; have := Nat.mul_le_mul hr hc; omega)).mono ?_;rintro e w3 ⟨⟨g, b, rfl, hg, hb, hRg, hRb⟩, hb3⟩;have hs3 := hb3.size;have HG := hi_ hRg; clear hRg;have HRB := hi_ hRb; clear hRb;have HR2' := hi_ (HR2.out.below hb3 HR2.out.lt);have HR3' := hi_ (HR3.out.below hb3 HR3.out.lt);have HB3 : Hid (Below w.heap.size w w3) := hi_ (HB2.out.trans (hb3.mono HB2.out.size));clear hb3 HR2 HR3 HB2;go_wp2_with fail
 refine (wpIn_wide (n := 6)).1 ?_;have hne : w1.heap.size ≠ o := by omega
 have hI0 : vp w3 w3.heap.size w1.heap.size o r [] w3 := ⟨HR3'.out, by simpa [ft] using HR2'.out, fun z hz => by simp at hz, by simp, aN.refl _ _⟩;have HI0 := hi_ hI0; clear hI0;refine si (S := fun k => k = w1.heap.size ∨ k = o) (N := r) (Sx := th r c xs) (E := tL w3.heap.size) (I := vp w3 w3.heap.size w1.heap.size o r) (gf := 89) (lb := #[.pointer (some ⟨g, 0, none⟩)]) (encs := NR.enc) rfl (enters_of Tryz.func89 (by kernel_rfl) rfl) (fun _ => rfl) ?hE ?hIl ?hIb HI0.out
  (fun x => { tmps := #[.agg #[.int .i64 (r : Int), .int .i64 (c : Int), .slice ao xs.length cap], .pointer (some ⟨w.heap.size, 0, none⟩), .slice none 0 0, .pointer (some ⟨w1.heap.size, 0, none⟩), undef, .slice (some ⟨x.2.blk, 0, none⟩) x.2.xs.length x.2.cap, .pointer (some ⟨w.heap.size, 0, none⟩), .int .i64 (r : Int), .slice (some ⟨o, 0, none⟩) 0 r, .agg #[.int .i64 (r : Int), .int .i64 (c : Int), .slice ao xs.length cap], .func (.func 89) #[] #[.pointer (some ⟨g, 0, none⟩)], .int .i64 (x.1 : Int), .slice (some ⟨x.2.blk, 0, none⟩) x.2.xs.length x.2.cap, undef, undef, undef, undef, undef], defers := [] })
  ?hseq ?assign ?body ?done
 case hE =>
  intro s x W l o1 o2 h hl ho hn;exact ⟨j5 ho hn h.1, h.2⟩
 case hIl =>
  intro s W l o1 o2 h hl ho hn;exact ⟨fJ ho hn h.box, fJ ho hn h.row, fun z hz => ⟨j5 ho hn (h.nums z hz).1, (h.nums z hz).2⟩, h.nd, ⟨h.qb.os, h.qb.tape, h.qb.output, by have := h.qb.size; simpa using this, fun k hk hs => (World.putObj_heap_other (by omega)).trans (h.qb.block k hk hs)⟩⟩
 case hIb =>
  intro s A B h hb;exact ⟨h.box.below hb h.box.lt, h.row.below hb h.row.lt, fun z hz => ⟨(h.nums z hz).1.below hb, (h.nums z hz).2⟩, h.nd, h.qb.below hb⟩
 case hseq =>
  intro l J W hW hJ hY hJ0;refine (rE 5 g b r c xs w3 (fun k => k = w1.heap.size ∨ k = o) ?_ HG.out (by omega) HRB.out (by omega) HS.out (by omega) (by omega) hL l J W hW hJ hY hJ0 (by omega));rintro q (rfl | rfl)
  · exact ⟨_, _, HR3'.out, aI.slice aI.nil⟩
  · exact ⟨_, _, HR2'.out, fun v hv n => by simp at hv; simp [hv.2]⟩
 case assign =>
  intro l x W K hK;simp only [NR.enc]
  gi_wp2
  exact hK
 case body =>
  rintro l pre x W hI hE hlen;have hoW := hI.row.lt;have hbW := hI.box.lt;have hlenR : (ft r pre).length = r := by simp [ft]; omega
  have hA : ∀ X : Obj, aa (W.alloc X) o 22 (ft r pre) := fun X => hI.row.alloc X;have hAb : ∀ X : Obj, aa (W.alloc X) w1.heap.size 70 [.slice (some ⟨o, 0, none⟩) pre.length r] := fun X => hI.box.alloc X;have c0 : W.cell? ⟨w1.heap.size, 0, none⟩ = some (.slice (some ⟨o, 0, none⟩) pre.length r) := hI.box.cell 0;have f0 : W.frozen? ⟨w1.heap.size, 0, none⟩ = false := hI.box.free 0;have HI := hi_ hI; clear hI;have HE := hi_ hE; clear hE
  gi_wp2_with (gi_at_builtin; refine pB rfl _ _ 70 rfl 22 (.slice none 0 0) 1 24 Tryz.underlying70 kK o 0 pre.length r ⟨W.heap.size, 0, none⟩ 1 1 [x.2.cF] rfl rfl rfl (cell_one_new _ _ _) (by simp [Value.oneCell', Hd.cF]) (by omega) (fun j hj => by simp at hj; subst hj; rw [(hA _).cell]; simp [hlenR, hlen]) (fun j hj => by simp at hj; subst hj; exact (hA _).free _) ?_; simp only [Nat.zero_add, Nat.mul_one, World.setCells]; have hrW := (hA (.cells #[x.2.cF] 22)).set pre.length x.2.cF; have hrB := (hAb (.cells #[x.2.cF] 22)).other (p := ⟨o, pre.length, none⟩) hne x.2.cF; skip)
  have hI := HI.out;have hE := HE.out;have hsw := hI.qb.size;have hrW' := hI.row.set pre.length x.2.cF;have hrB' := hI.box.other (p := ⟨o, pre.length, none⟩) hne x.2.cF;have hNo : aI (ft r pre) := fun v hv n => by
   simp only [ft, List.mem_append, List.mem_map, List.mem_replicate] at hv;rcases hv with ⟨z, _, rfl⟩ | ⟨_, rfl⟩ <;> simp [Hd.cF]
  obtain ⟨Wf, hWf⟩ : ∃ Wf, (W.setCell ⟨o, pre.length, none⟩ x.2.cF).setCell ⟨w1.heap.size, 0, none⟩ (.slice (some ⟨o, 0, none⟩) (pre.length + 1) r) = Wf := ⟨_, rfl⟩;rw [hWf];have hsf : Wf.heap.size = W.heap.size := by rw [<- hWf]; simp
  have hbl : Below Wf.heap.size Wf (Wf.alloc (.cells #[.slice (some ⟨x.2.blk, 0, none⟩) x.2.xs.length x.2.cap] 22)) := (Below.refl _ _).alloc (Nat.le_refl _) _;have hnum : ∀ y : NR, aK W y.2.blk y.2.xs -> aK Wf y.2.blk y.2.xs := by
   intro y hy;rw [<- hWf];exact (hy.jR hI.row (by decide) hNo pre.length x.2.cF).jR hrB' (by decide) (aI.slice aI.nil) 0 _
  refine ⟨?_, ?_, ?_⟩
  · rw [<- hWf]; exact ((KeepsOthers.setCell _ _ _).trans (KeepsOthers.setCell _ _ _)).trans (KeepsOthers.alloc _ _)
  · refine dL.trans (b := Wf) ?_ (dL.aU (hbl.mono (by omega)));rw [<- hWf];refine ⟨rfl, rfl, rfl, by simp, fun k hk hs => ?_⟩;exact (Below.heap_setCell _ _ _ _ (fun e => hs (.inl e))).trans (Below.heap_setCell _ _ _ _ (fun e => hs (.inr e)))
  · have hbx : aa Wf w1.heap.size 70 [.slice (some ⟨o, 0, none⟩) (pre.length + 1) r] := by
     rw [<- hWf]; exact hrB'.set 0 (.slice (some ⟨o, 0, none⟩) (pre.length + 1) r)
    have hrw : aa Wf o 22 (ft r (pre ++ [x])) := by
     have h1 := hrW'.other (p := ⟨w1.heap.size, 0, none⟩) (fun e => hne e.symm) (.slice (some ⟨o, 0, none⟩) (pre.length + 1) r);have e : (ft r pre).set pre.length x.2.cF = ft r (pre ++ [x]) := by
      unfold ft;obtain ⟨q, hq⟩ : ∃ q, r - pre.length = q + 1 := ⟨r - pre.length - 1, by omega⟩;have hq2 : r - (pre ++ [x]).length = q := by simp; omega
      rw [hq, hq2, List.replicate_succ, List.set_append_right _ _ (by simp)];simp
     rw [<- e, <- hWf]; exact h1
    refine ⟨?_, hrw.below hbl hrw.lt, ?_, ?_, ?_⟩
    · have := hbx.below hbl hbx.lt;simpa using this
    · intro z hz;rcases List.mem_append.1 hz with hz | hz
      · exact ⟨(hnum z (hI.nums z hz).1).below hbl, (hI.nums z hz).2⟩
      · simp only [List.mem_singleton] at hz; subst hz;exact ⟨(hnum z hE.1).below hbl, hE.2.1⟩
    · rw [List.map_append, List.nodup_append];refine ⟨hI.nd, by simp, fun u hu v hv => ?_⟩;simp only [List.map_cons, List.map_nil, List.mem_singleton] at hv;obtain ⟨y, hy, rfl⟩ := List.mem_map.1 hu;subst hv;exact hE.2.2 y hy
    · refine aN.below ?_ hbl;rw [<- hWf];exact (hI.qb.set (p := ⟨o, pre.length, none⟩) (.inr rfl) _).set (p := ⟨w1.heap.size, 0, none⟩) (.inl rfl) _
 case done =>
  rintro D zs W hD hS hI hK;have hl : zs.length = r := hS.1;have c0 : W.cell? ⟨w1.heap.size, 0, none⟩ = some (.slice (some ⟨o, 0, none⟩) zs.length r) := hI.box.cell 0;have HI := hi_ hI; clear hI;simp only [Exit.inBlock];go_wp2;refine ⟨by simp, .inl ⟨_, _, rfl, run_takeDeferred hK, ?_⟩⟩;refine ⟨_, results_tmp rfl _ _ _, ?_⟩;have hI := HI.out;have hS2 := hS.2;have hrow : aa W o 22 (zs.map (fun z => z.2.cF)) := by
   have := hI.row;unfold ft at this;rw [hl, Nat.sub_self] at this;simpa using this
  refine ⟨⟨o, zs.map (fun z => z.2), ?_, ⟨?_, ?_, ?_⟩, by simp [hl], ?_, by omega, ?_, by rw [List.map_map]; exact fJ hK rfl hrow, fun k hk => by rw [List.getElem_map, hS2 k (by simpa using hk)]⟩, ?_⟩
  · simp [hl]
  · rw [List.map_map]; exact (fJ hK rfl hrow).pre
  · intro h hh;obtain ⟨z, hz, rfl⟩ := List.mem_map.1 hh;exact j5 hK rfl (hI.nums z hz).1
  · rw [List.map_map]; exact hI.nd
  · intro k hk;have hk' : k < zs.length := by simpa using hk
    have := hS2 k hk';rw [List.getElem_map, this]
  · intro x hx;obtain ⟨z, hz, rfl⟩ := List.mem_map.1 hx;have := (hI.nums z hz).2;have := HB3.out.size;omega
  · refine HB3.out.trans ?_;refine (hI.qb.kD (B := w.heap.size) ?_ HB3.out.size).trans ⟨rfl, rfl, rfl, by simp, fun k hk => World.putObj_heap_other (by have := HB3.out.size; omega)⟩;rintro k (rfl | rfl) <;> omega
theorem pX (r c : Nat) (ao : Option Addr) (len cap : Nat) (xs : List Int) (w : World) (hr : r <= 64) (hc : c <= 64) (h : aL w 17592186044415 ao xs) (hL : ∀ x ∈ xs, ag x.natAbs <= 17592186044415) (hl : len = xs.length) (hs : xs.length = r * c) :
 CallsIn Fence.wide 6 Tryz.prog 42 #[.agg #[.int .i64 (r : Int), .int .i64 (c : Int), .slice ao len cap]] w fun e w' => (∃ o R, e = .returned (.slice (some ⟨o, 0, none⟩) R.length r) /\ dv w' o R /\ R.length = r /\ (∀ k (h : k < R.length), R[k].xs = rowOf xs c k) /\ w.heap.size <= o /\ (∀ x ∈ R, w.heap.size <= x.blk)) /\ Below w.heap.size w w' :=
 (tY r c ao len cap xs w hr hc h hL hl hs).mono (fun e w' ⟨⟨o, R, h1, h2, h3, h4, h5, h6, _⟩, hb⟩ => ⟨⟨o, R, h1, h2, h3, h4, h5, h6⟩, hb⟩)
theorem oF (o cap B c k : Nat) (R R' : List Hd) (w : World) (h : dv w o R) (hB : B <= 4000000000000) (hP : lU B c 0 R.length R k R') (hR : R.length <= 100000) (hc : c <= 1000000) :
 Calls Tryz.prog 41 #[.slice (some ⟨o, 0, none⟩) R.length cap] w fun e w' => e = .returned (.tuple #[.slice (some ⟨o, 0, none⟩) R'.length cap, .int .i64 (k : Int)]) /\ dv w' o R' /\ aN (fun q => q = o ∨ ∃ r ∈ R, r.blk = q) w w' := by
 have HM := hi_ h; clear h;have HP := hi_ hP; clear hP;go_enter Tryz.func41, Tryz.ntmps41;go_wp2_with fail
 refine (New_c o cap R _ HM.out).mono ?_;rintro e w2 ⟨⟨lb, sb, g, rfl, hL, h1, h2, h3⟩, hb2⟩;have HL := hi_ hL; clear hL;have HB2 := hi_ hb2; clear hb2;go_wp2_with fail
 refine (vC ⟨lb, o, sb, g, cap, R, none⟩ B c k R' _ HL.out hB HP.out hR hc (fun t h => by cases h)).mono ?_;rintro e w3 ⟨rfl, hL3, hC3⟩;have L3 := hi_ hL3;have C3 : Hid (aN (fun q => q = o ∨ ∃ r ∈ R, r.blk = q) w w3) := hi_ ((aN.aU HB2.out).trans (hC3.mono (fun q _ e => by rcases e with e | ⟨t, ht, _⟩; exact e; cases ht)));have cb : w3.cell? ⟨lb, 0, none⟩ = some (.slice (some ⟨o, 0, none⟩) R'.length cap) := L3.out.lad.cell 0;clear hL3 hC3;go_wp2;refine bodyPost_ret (results_tmp2 (t := 2) (u := 3) (by kernel_rfl) _ _ _) rfl ?_;exact ⟨rfl, L3.out.dJ, C3.out⟩
theorem qp {fn : Func} {p : Tmp} (h : fn.results = #[.cell p 24]) (tmps : Array Value) (w : World) (g : Nat) (a b c : Value) (hp : tmps.getD p undef = .pointer (some ⟨g, 0, none⟩)) (hr : aa w g 24 [a, b, c]) :
 (results fn tmps).run Tryz.prog w = .ok (.agg #[a, b, c]) w :=
 results_cell_row h tmps w g 24 #[a, b, c] (0, 0) _ hp hr Tryz.underlying24 rfl (by kernel_rfl)
structure nk (w : World) (L o : Nat) (xss : List (List Int)) : Prop where
 lt : o < w.heap.size
 row : ∀ i (h : i < xss.length), ∃ ao cap, w.cell? ⟨o, i, none⟩ = some (.slice ao xss[i].length cap) /\ aL w L ao xss[i]
theorem nk.below {w w' : World} {L o : Nat} {xss : List (List Int)} (h : nk w L o xss) (hb : Below w.heap.size w w') : nk w' L o xss :=
 ⟨Nat.lt_of_lt_of_le h.lt hb.size, fun i hi => by
  obtain ⟨ao, cap, h1, h2⟩ := h.row i hi;exact ⟨ao, cap, (hb.cell (p := ⟨o, i, none⟩) h.lt).trans h1, h2.below hb⟩⟩
structure nH (w : World) (b m n c N : Nat) (cu : List Int) (W : World) : Prop where
 box : aa W m 24 [.int .i64 (n : Int), .int .i64 (c : Int), .slice (some ⟨b, 0, none⟩) cu.length N]
 row : aK W b (cu ++ List.replicate (N - cu.length) 0)
 res : aa W w.heap.size 24 [.int .i64 0, .int .i64 0, .slice none 0 0]
 bel : Below w.heap.size w W
theorem nH.app {w : World} {b m n c N k : Nat} {cu : List Int} {W : World} (h : nH w b m n c N cu W) (hb : w.heap.size < b /\ b < m) (hk : cu.length = k) (hkN : k + 1 <= N) {p : P4} {x : Int} (hx : aH W (av p) x) (W2 : World)
 (e : (W.alloc (.cells #[.bool p.1, .slice p.2.1 p.2.2.1 p.2.2.2] 37)).setCells b (k * 2) [.bool p.1, .slice p.2.1 p.2.2.1 p.2.2.2] = W2) :
 aa W2 m 24 [.int .i64 (n : Int), .int .i64 (c : Int), .slice (some ⟨b, 0, none⟩) k N] /\ nH w b m n c N (cu ++ [x]) (W2.setCell ⟨m, 2, none⟩ (.slice (some ⟨b, 0, none⟩) (k + 1) N)) := by
 have hb1 : Below W.heap.size W (W.alloc (.cells #[.bool p.1, .slice p.2.1 p.2.2.1 p.2.2.2] 37)) := (Below.refl _ _).alloc (Nat.le_refl _) _;generalize W.alloc (.cells #[.bool p.1, .slice p.2.1 p.2.2.1 p.2.2.2] 37) = W1 at *;subst hk;have hx1 := hx.below hb1;have hr1 := h.row.below hb1;have hm1 := h.box.below hb1 h.box.lt;have hs1 := h.res.below hb1 h.res.lt;have hB1 := h.bel.trans (hb1.mono h.bel.size);have e2 : (W1.setCell ⟨b, cu.length * 2, none⟩ (.bool p.1)).setCell ⟨b, cu.length * 2 + 1, none⟩ (.slice p.2.1 p.2.2.1 p.2.2.2) = W2 := by rw [<- e]; rfl
 have hr2 : aK W2 b ((cu ++ List.replicate (N - cu.length) 0).set cu.length x) := by rw [<- e2]; exact hr1.set cu.length hx1
 have hne : m ≠ b := by omega
 have hm2 : aa W2 m 24 [.int .i64 (n : Int), .int .i64 (c : Int), .slice (some ⟨b, 0, none⟩) cu.length N] := by
  rw [<- e2]; exact (hm1.other (p := ⟨b, cu.length * 2, none⟩) hne _).other (p := ⟨b, cu.length * 2 + 1, none⟩) hne _
 have hs2 : aa W2 w.heap.size 24 [.int .i64 0, .int .i64 0, .slice none 0 0] := by
  rw [<- e2]; exact (hs1.other (p := ⟨b, cu.length * 2, none⟩) (by show w.heap.size ≠ b; omega) _).other (p := ⟨b, cu.length * 2 + 1, none⟩) (by show w.heap.size ≠ b; omega) _
 have hB2 : Below w.heap.size w W2 := by
  rw [<- e2]; exact (hB1.setCell (p := ⟨b, cu.length * 2, none⟩) (Nat.le_of_lt hb.1) _).setCell (p := ⟨b, cu.length * 2 + 1, none⟩) (Nat.le_of_lt hb.1) _
 refine ⟨hm2, ?_, ?_, ?_, ?_⟩
 · have := hm2.set 2 (.slice (some ⟨b, 0, none⟩) (cu.length + 1) N);simpa using this
 · have e3 : (cu ++ List.replicate (N - cu.length) 0).set cu.length x = (cu ++ [x]) ++ List.replicate (N - (cu ++ [x]).length) 0 := by
    obtain ⟨q, hq⟩ : ∃ q, N - cu.length = q + 1 := ⟨N - cu.length - 1, by omega⟩;have hq2 : N - (cu ++ [x]).length = q := by simp; omega
    rw [hq, hq2, List.replicate_succ, List.set_append_right _ _ (Nat.le_refl _)];simp
   rw [<- e3];exact hr2.jR hm2 (by decide) (aI.dJ (n : Int) (c : Int) _ _ _) 2 _
 · exact hs2.other (p := ⟨m, 2, none⟩) (by show w.heap.size ≠ m; omega) _
 · exact hB2.setCell (p := ⟨m, 2, none⟩) (by show w.heap.size <= m; omega) _
theorem ux (w : World) (x y : Value) (t : TypeId) : ∀ j u, [x, y][j]? = some u -> (w.alloc (.cells #[x, y] t)).cell? ((⟨w.heap.size, 0, none⟩ : Addr).add j) = some u := by
 intro j u hj;have := (aa.new w #[x, y] t).cell j;have e : ((⟨w.heap.size, 0, none⟩ : Addr).add j) = ⟨w.heap.size, j, none⟩ := by unfold Addr.add; simp; omega
 rw [e, this]; exact hj
theorem nH.spare {w : World} {b m n c N k : Nat} {cu : List Int} {W : World} (h : nH w b m n c N cu W) (hk : cu.length = k) (hkN : k + 1 <= N) (X : Obj) (j : Nat) (hj : j < 2) : ((W.alloc X).cell? ⟨b, 0 + k * 2 + j, none⟩).isSome = true /\ (W.alloc X).frozen? ⟨b, 0 + k * 2 + j, none⟩ = false := by
 have hb1 : Below W.heap.size W (W.alloc X) := (Below.refl _ _).alloc (Nat.le_refl _) _;have hr1 := h.row.below hb1;refine ⟨?_, hr1.free _⟩;obtain ⟨q, h0, h1, _⟩ := hr1.get (i := k) (by simp [hk]; omega);have hj2 : j = 0 ∨ j = 1 := by omega
 rcases hj2 with rfl | rfl
 · rw [Nat.zero_add, Nat.add_zero, h0]; rfl
 · rw [Nat.zero_add, h1]; rfl
theorem j3 {xss : List (List Int)} {c : Nat} (hc : ∀ x ∈ xss, x.length = c) : xss.flatten.length = xss.length * c := by
 induction xss with
 | nil => simp
 | cons x xs ih =>
  rw [List.flatten_cons, List.length_append, ih (fun y hy => hc y (List.mem_cons_of_mem _ hy)), hc x (List.mem_cons_self ..), List.length_cons, Nat.succ_mul]; omega
theorem lh {xss : List (List Int)} {c i : Nat} (hc : ∀ x ∈ xss, x.length = c) (hi : i <= xss.length) : (xss.take i).flatten.length = i * c := by
 rw [j3 (fun x hx => hc x (List.mem_of_mem_take hx)), List.length_take, Nat.min_eq_left hi]
theorem kL {xss : List (List Int)} {i : Nat} (hi : i < xss.length) : (xss.take (i + 1)).flatten = (xss.take i).flatten ++ xss[i] := by
 rw [List.take_succ_eq_append_getElem hi, List.flatten_append]; simp
theorem qV (o cap n c : Nat) (xss : List (List Int)) (w : World) (h : nk w 17592186044415 o xss) (hn : xss.length = n) (hc : ∀ x ∈ xss, x.length = c) (hn1 : n <= 10000) (hc1 : c <= 10000) :
 Calls Tryz.prog 43 #[.slice (some ⟨o, 0, none⟩) n cap, .int .i64 (c : Int)] w fun e w' => (∃ b, e = .returned (.agg #[.int .i64 (n : Int), .int .i64 (c : Int), .slice (some ⟨b, 0, none⟩) (n * c) (n * c)]) /\ w.heap.size <= b /\ aK w' b xss.flatten) /\ Below w.heap.size w w' := by
 have hnc : n * c <= 100000000 := Nat.mul_le_mul hn1 hc1;have hw1 : wrap64 ((n : Int) * (c : Int)) = ((n * c : Nat) : Int) := by
  rw [<- Int.natCast_mul]; unfold wrap64; omega
 obtain ⟨N, hN⟩ : ∃ N, n * c = N := ⟨_, rfl⟩;rw [hN] at hw1 hnc ⊢;have HN := hi_ hN; clear hN;have HX := hi_ h; clear h;go_enter Tryz.func43, Tryz.ntmps43;go_wp2_with (at_make; refine oT rfl _ _ rfl 0 N rfl rfl rfl (by omega) (Nat.zero_le _) (by omega) ?_; intro b w1 hm1)
 have hI : nH w b w1.heap.size n c N [] (w1.alloc (.cells #[.int .i64 (n : Int), .int .i64 (c : Int), .slice (some ⟨b, 0, none⟩) 0 N] 24)) := by
  have h0 := aa.new w #[.int .i64 0, .int .i64 0, .slice none 0 0] 24;have hb0 : Below w.heap.size w (w.alloc (.cells #[.int .i64 0, .int .i64 0, .slice none 0 0] 24)) := (Below.refl _ _).alloc (Nat.le_refl _) _;have hb1 : Below w1.heap.size w1 (w1.alloc (.cells #[.int .i64 (n : Int), .int .i64 (c : Int), .slice (some ⟨b, 0, none⟩) 0 N] 24)) := (Below.refl _ _).alloc (Nat.le_refl _) _;refine ⟨aa.new _ _ _, ?_, ?_, ?_⟩
  · simpa using (aK.kF hm1.row).below hb1
  · exact (h0.below hm1.below h0.lt).alloc _
  · exact (hb0.trans (hm1.below.mono hb0.size)).trans (hb1.mono (Nat.le_trans hb0.size hm1.below.size))
 have hbl : w.heap.size < b /\ b < w1.heap.size := by
  have h1 := hm1.at_; have h2 := hm1.size; rw [World.size_alloc] at h1 h2; omega
 have HI := hi_ hI; clear hI;clear hm1;generalize w1.alloc (.cells #[.int .i64 (n : Int), .int .i64 (c : Int), .slice (some ⟨b, 0, none⟩) 0 N] 24) = w2 at *;obtain ⟨m, hm⟩ : ∃ m, w1.heap.size = m := ⟨_, rfl⟩;rw [hm] at hbl HI ⊢;clear hm;have HC := hi_ hc; clear hc;go_loopw [21] (fun i_ wr => ∃ (i : Nat), i <= n /\ i_ = .int .i64 (i : Int) /\ Hid (nH w b m n c N (xss.take i).flatten wr)) (fun i_ _ => n - (intOf i_).toNat)
 case atStart => exact ⟨0, Nat.zero_le _, rfl, hi_ (by simpa using HI.out)⟩
 case round =>
  obtain ⟨i, hi, rfl, hIr⟩ := hrel;by_cases hin : i < n
  · have hix : i < xss.length := by omega
    have hin1 : (i : Int) < (n : Int) := by omega
    obtain ⟨ra, rc, hroww, hls⟩ := HX.out.row i hix;have hrow0 := (hIr.out.bel.cell (p := ⟨o, i, none⟩) HX.out.lt).trans hroww;clear hroww;have hxl : xss[i].length = c := HC.out _ (List.getElem_mem hix);rw [hxl] at hrow0;have HXL := hi_ hxl; clear hxl;have HLS := hi_ hls; clear hls;have hmul : (i + 1) * c <= N := by rw [<- HN.out]; exact Nat.mul_le_mul_right _ hin
    have hmul2 : (i + 1) * c = i * c + c := Nat.succ_mul i c;have hfl : (xss.take i).flatten.length = i * c := lh HC.out (by omega);have HFL := hi_ hfl; clear hfl;have HM := hi_ (And.intro hmul hmul2); clear hmul hmul2;go_wp2;go_loopw [27] (fun j_ wq => ∃ (j : Nat), j <= c /\ j_ = .int .i64 (j : Int) /\ Hid (nH w b m n c N ((xss.take i).flatten ++ xss[i].take j) wq)) (fun j_ _ => c - (intOf j_).toNat)
    case atStart => exact ⟨0, Nat.zero_le _, rfl, hi_ (by simpa using hIr.out)⟩
    case round =>
     obtain ⟨j, hj, rfl, hIq⟩ := hrel;by_cases hjc : j < c
     · have hjc1 : (j : Int) < (c : Int) := by omega
       have hjx : j < xss[i].length := by rw [HXL.out]; exact hjc
       obtain ⟨k, hk⟩ : ∃ k, i * c + j = k := ⟨_, rfl⟩;have hkN : k + 1 <= N := by have := HM.out; omega
       obtain ⟨cu, hcu⟩ : ∃ cu, (xss.take i).flatten ++ xss[i].take j = cu := ⟨_, rfl⟩;rw [hcu] at hIq;have hcl : cu.length = k := by rw [<- hcu, List.length_append, HFL.out, List.length_take, Nat.min_eq_left (by omega)]; exact hk
       have hcu2 : (xss.take i).flatten ++ xss[i].take (j + 1) = cu ++ [xss[i][j]] := by
        rw [List.take_succ_eq_append_getElem hjx, <- List.append_assoc, hcu]
       obtain ⟨x, hx⟩ : ∃ x, xss[i][j] = x := ⟨_, rfl⟩;obtain ⟨ab, aoff, hra, hab, hcells⟩ := (HLS.out.below hIq.out.bel) (by omega);subst hra;obtain ⟨px, cx0, cx1, hnx⟩ := hcells j hjx;rw [hx] at hnx hcu2;have HCU := hi_ hcu2; clear hcu2 hcu hcells hx;have HK := hi_ hk; clear hk;have hb1 : Below wr.heap.size wr (wr.alloc (.cells #[.bool px.1, .slice px.2.1 px.2.2.1 px.2.2.2] 37)) := (Below.refl _ _).alloc (Nat.le_refl _) _;have Hnx := hi_ (hnx.below hb1); clear hnx;have hIa : nH w b m n c N cu (wr.alloc (.cells #[.bool px.1, .slice px.2.1 px.2.2.1 px.2.2.2] 37)) :=
        ⟨hIq.out.box.below hb1 hIq.out.box.lt, hIq.out.row.below hb1, hIq.out.res.below hb1 hIq.out.res.lt, hIq.out.bel.trans (hb1.mono hIq.out.bel.size)⟩
       have HIa := hi_ hIa; clear hIa;have hxr := aa.new wr #[.bool px.1, .slice px.2.1 px.2.2.1 px.2.2.2] 37;have HXR := hi_ hxr; clear hxr;have hsm : m < wr.heap.size := hIq.out.box.lt;clear hIq hb1;go_wp2;generalize wr.alloc (.cells #[.bool px.1, .slice px.2.1 px.2.2.1 px.2.2.2] 37) = w5 at *;obtain ⟨xb, hxb⟩ : ∃ xb, wr.heap.size = xb := ⟨_, rfl⟩;rw [hxb] at HXR hsm ⊢;have q0 : w5.cell? ⟨xb, 0, none⟩ = some (.bool px.1) := HXR.out.cell 0;have q1 : w5.cell? ⟨xb, 1, none⟩ = some (.slice px.2.1 px.2.2.1 px.2.2.2) := HXR.out.cell 1;have c2 : w5.cell? ⟨m, 2, none⟩ = some (.slice (some ⟨b, 0, none⟩) k N) := by have := HIa.out.box.cell 2; rw [hcl] at this; exact this
       clear cx0 cx1 hrow0;obtain ⟨i0, hi0, hz0, hsz0, hby0⟩ := info_parts iS;have hrl : (cu ++ List.replicate (N - cu.length) 0).length = N := by rw [List.length_append, List.length_replicate, hcl]; omega
       go_region_law (first
        | (refine step_append_room rfl (.tmp 32) (.tmp 35) 22 rfl 37 i0 2 Tryz.underlying22 hi0 hsz0 b 0 k N rfl ⟨w6.heap.size, 0, none⟩ 1 1 [.bool pz.1, .slice pz.2.1 pz.2.2.1 pz.2.2.2] rfl rfl (ux w6 _ _ _) (by simp [Value.oneCell']) (by omega) (fun j hj => HI6.out.spare hcl hkN _ j hj) ?_; obtain ⟨w7, hw7⟩ : ∃ w7, (w6.alloc (.cells #[.bool pz.1, .slice pz.2.1 pz.2.2.1 pz.2.2.2] 37)).setCells b (k * 2) [.bool pz.1, .slice pz.2.1 pz.2.2.1 pz.2.2.2] = w7 := ⟨_, rfl⟩; have hI7 := HI6.out.app hbl hcl hkN HZ6.out w7 hw7; simp only [Nat.zero_add]; rw [hw7]; have g2 := hI7.1.cell 2; have gf2 := hI7.1.free 2; simp only [List.getElem?_cons_zero, List.getElem?_cons_succ] at g2; have HI7 := hi_ hI7; clear hI7 hw7)
        | (go_simp; go_at_call 58; refine (fM (av px) x _ (ai.below (w := w5) Hnx.out (Below.refl _ _).drew)).mono ?_; rintro e w6 ⟨⟨vz, rfl, hvz⟩, hb6⟩; obtain ⟨pz, rfl⟩ := aH.parts hvz.num; have HZ6 := hi_ hvz.num; unfold av at *; have hI6 : nH w b m n c N cu w6 := ⟨aa.below (w := w5.drew) HIa.out.box hb6 HIa.out.box.lt, aK.below (w := w5.drew) HIa.out.row hb6, aa.below (w := w5.drew) HIa.out.res hb6 HIa.out.res.lt, HIa.out.bel.drew.trans (hb6.mono HIa.out.bel.size)⟩; have HI6 := hi_ hI6; clear hI6; have k2 := HI6.out.box.cell 2; rw [hcl] at k2; have k3 := (HI6.out.box.alloc (.cells #[.bool pz.1, .slice pz.2.1 pz.2.2.1 pz.2.2.2] 37)).cell 2; rw [hcl] at k3; simp only [List.getElem?_cons_zero, List.getElem?_cons_succ] at k2 k3; clear hb6 hvz))
       all_goals go_wp2
       all_goals refine ⟨⟨j + 1, by omega, by go_num, hi_ ?_⟩, ?_⟩
       all_goals first
        | (rw [HCU.out]; exact HI7.out.2)
        | (simp [intOf]; omega)
     · obtain rfl : j = c := by omega
       go_wp2;go_roundw
       case rel =>
        refine ⟨i + 1, by omega, by go_num, hi_ ?_⟩;rw [kL hix];have h9 := hIq.out;rw [List.take_of_length_le (l := xss[i]) (by rw [HXL.out]; exact Nat.le_refl _)] at h9;exact h9
       case measure => simp [intOf]; omega
  · obtain rfl : i = n := by omega
    have hce : (xss.take i).flatten = xss.flatten := by rw [List.take_of_length_le (by omega)]
    have HCE := hi_ hce; clear hce;have hcl : (xss.take i).flatten.length = N := by rw [HCE.out, j3 HC.out, hn]; exact HN.out
    have c0 := hIr.out.box.cell 0;have c1 := hIr.out.box.cell 1;have c2 := hIr.out.box.cell 2;have d0 := hIr.out.res.cell 0;have d1 := hIr.out.res.cell 1;have d2 := hIr.out.res.cell 2;have f0 := hIr.out.res.free 0;have f1 := hIr.out.res.free 1;have f2 := hIr.out.res.free 2;rw [hcl] at c2;simp only [List.getElem?_cons_zero, List.getElem?_cons_succ] at c0 c1 c2 d0 d1 d2;clear hcl;go_wp2;have hrm := hIr.out.row;rw [HCE.out, j3 HC.out, hn, HN.out, Nat.sub_self] at hrm;simp only [List.replicate_zero, List.append_nil] at hrm;refine bodyPost_ret (qp (p := 4) (by kernel_rfl) _ _ w.heap.size _ _ _ rfl (hIr.out.res.yS (.int .i64 (i : Int)) (.int .i64 (c : Int)) (.slice (some ⟨b, 0, none⟩) N N))) rfl ?_;exact ⟨⟨b, rfl, by omega, hrm.pP hIr.out.res (i : Int) (c : Int) _ _ _⟩, ((hIr.out.bel.setCell (p := ⟨w.heap.size, 0, none⟩) (Nat.le_refl _) _).setCell (p := ⟨w.heap.size, 1, none⟩) (Nat.le_refl _) _).setCell (p := ⟨w.heap.size, 2, none⟩) (Nat.le_refl _) _⟩
theorem iI {fn : Func} {p q : Tmp} (h : fn.results = #[.cell p 24, .tmp q]) (tmps : Array Value) (w : World) (g : Nat) (a b c : Value) (hp : tmps.getD p undef = .pointer (some ⟨g, 0, none⟩)) (hr : aa w g 24 [a, b, c]) :
 (results fn tmps).run Tryz.prog w = .ok (.tuple #[.agg #[a, b, c], tmps.getD q undef]) w := iJ h tmps w g a b c hp hr
theorem aK.po {w : World} {b : Nat} {xs : List Int} (h : aK w b xs) {L : Nat} (hL : ∀ x ∈ xs, ag x.natAbs <= L) : aL w L (some ⟨b, 0, none⟩) xs := by
 intro _;refine ⟨b, 0, rfl, h.lt, fun i hi => ?_⟩;obtain ⟨p, h0, h1, hn⟩ := h.get hi;exact ⟨p, by simpa using h0, by simpa using h1, hn.int (hL _ (List.getElem_mem hi))⟩
theorem dv.vD {w : World} {o : Nat} {R : List Hd} (h : dv w o R) {L : Nat} (hL : ∀ r ∈ R, ∀ x ∈ r.xs, ag x.natAbs <= L) (k : Nat) (hk : k <= R.length) : nk w L o ((R.take k).map Hd.xs) := by
 refine ⟨h.lt, fun i hi => ?_⟩;have hi' : i < R.length := by simp at hi; omega
 have hm : R[i] ∈ R := List.getElem_mem hi';refine ⟨some ⟨R[i].blk, 0, none⟩, R[i].cap, ?_, ?_⟩
 · rw [h.cF hi'];simp [Hd.cF]
 · have := (h.row _ hm).po (hL _ hm);simpa using this
theorem oo {R : List Hd} {D : Nat} (h : ∀ i b, (aw R i b).natAbs < W ^ D) : ∀ r ∈ R, ∀ x ∈ r.xs, ag x.natAbs <= D := by
 intro r hr x hx;obtain ⟨i, hi, rfl⟩ := List.getElem_of_mem hr;obtain ⟨j, hj, rfl⟩ := List.getElem_of_mem hx;have := h i j;rw [bU hi, gz _ _ hj] at this;exact au this
abbrev hW (m : Nat) : Nat := fl 66 m
def xC (c : Nat) (xs : List Int) (i j : Nat) : Int := gi xs (j * c + i)
def mj (r c : Nat) (xs : List Int) : List Int := c8 r (xC c xs) (c * r)
theorem n8 (r c : Nat) (xs : List Int) : (mj r c xs).length = c * r := cU ..
theorem zr {r c : Nat} {xs : List Int} (hs : xs.length = r * c) {x : Int} (h : x ∈ mj r c xs) : x ∈ xs := by
 unfold mj c8 at h;obtain ⟨q, hq, rfl⟩ := List.mem_map.1 h;have hq := List.mem_range.1 hq;have hr : 0 < r := by
  rcases Nat.eq_zero_or_pos r with h | h
  · subst h; simp at hq
  · exact h
 refine jY ?_;rw [hs];exact yd (Nat.mod_lt _ hr) (Nat.div_lt_of_lt_mul (by rw [Nat.mul_comm]; exact hq))
theorem vJ (r c i j g : Nat) (ao : Option Addr) (cap L : Nat) (xs : List Int) (w : World) (hr : r <= 64) (hc : c <= 64) (hi : i < c) (hj : j < r) (hg : aa w g 24 [.int .i64 (r : Int), .int .i64 (c : Int), .slice ao xs.length cap]) (hA : aL w L ao xs) (hL : L <= 17592186044415) (hs : xs.length = r * c) :
 Calls Tryz.prog 101 #[.int .i64 (i : Int), .int .i64 (j : Int), .pointer (some ⟨g, 0, none⟩)] w fun e w' => (∃ v, e = .returned v /\ aj w' w.heap.size v (xC c xs i j)) /\ Below w.heap.size w w' := by
 have hlt := yd (r := r) (c := c) hj hi;have hrc : r * c <= 4096 := Nat.mul_le_mul hr hc;obtain ⟨bx, ox, rfl⟩ := hA.pos (i := j * c + i) (by rw [hs]; exact hlt);obtain ⟨A, hA'⟩ : ∃ A, j * c = A := ⟨_, rfl⟩;obtain ⟨B, hB⟩ : ∃ B, A + i = B := ⟨_, rfl⟩;have hBl : B < xs.length := by rw [hs, <- hB, <- hA']; exact hlt
 have hBl' : (B : Int) < (xs.length : Int) := by omega
 have hAs : j * c < 9223372036854775808 := by omega
 have hgl : A + i < 9223372036854775807 := by omega
 have e0 : xC c xs i j = gi xs B := by rw [xC, hA', hB]
 rw [e0];have HB : Hid (B < xs.length) := hi_ hBl;clear hs hlt hrc e0 hBl;refine bS (S0 := fun _ => False) Tryz.func101 ((((Fr.nil _ w).l hA (by simp)).cl (hg.cell 2) (by simp [En.wr])).cl (hg.cell 1) (by simp [En.wr])) ?_;refine ah ?_;refine rW [] ?_;refine aW fun g5 => ?_;refine eW ?_;refine rO (L := L) (xs := xs) (b := bx) (o := ox) B (by simp) HB.out fun p => ?_;refine ah ?_;refine rW [] ?_;(iterate 5 refine dW ?_);refine dE ((qJ (a := j) (b := c) hAs).trans (by rw [hA'])) ?_;refine dW ?_;refine dE ((AN (a := A) (b := i) hgl).trans (by rw [hB])) ?_;refine dW ?_;refine dW ?_;refine cN (fun w' H => fM (av p) _ w' (H.m2.mono hL)) fun q => ?_;refine sW ?_;refine eW ?_;refine ah ?_;refine ei fun w' H => ?_;exact ⟨_, jB H.m4, ⟨_, rfl, H.m0⟩, H.below⟩
theorem xA (r c : Nat) (ao : Option Addr) (cap L : Nat) (xs : List Int) (w : World) (hr : r <= 64) (hc : c <= 64) (hA : aL w L ao xs) (hL : L <= 17592186044415) (hs : xs.length = r * c) :
 Calls Tryz.prog 79 #[.agg #[.int .i64 (r : Int), .int .i64 (c : Int), .slice ao xs.length cap]] w fun e w' => (∃ p : Option Addr × Nat, e = .returned (.tuple #[.agg #[.int .i64 (c : Int), .int .i64 (r : Int), .slice p.1 (c * r) p.2], .int .i64 0]) /\ ik w' p.1 (mj r c xs) /\ True /\ ∀ b o, p.1 = some ⟨b, o, none⟩ -> w.heap.size <= b) /\ Below w.heap.size w w' := by
 have hC : ∀ w', Calls Tryz.prog 7 #[.agg #[.int .i64 (r : Int), .int .i64 (c : Int), .slice ao xs.length cap]] w' fun e w'' => e = .returned (.int .i64 0) /\ Below w'.heap.size w' w'' := fun w' => by
  have := cJ (r : Int) (c : Int) ao xs.length cap w' (by omega) (by omega);rw [dC (by unfold aR bJ; rw [hs]; simp; omega)] at this; exact this
 have HS : Hid (xs.length = r * c) := hi_ hs;clear hs;refine bS (S0 := fun _ => False) Tryz.func79 ((Fr.nil _ w).l hA (by simp)) ?_;refine ah ?_;refine rW [] ?_;refine aW fun g1 => ?_;refine aW fun g2 => ?_;refine dW ?_;refine eW ?_;refine ah ?_;refine rW [] ?_;refine dW ?_;refine cV (fun w' H => hC w') ?_;refine dW ?_;refine eW ?_;refine ah ?_;refine rW [] ?_;refine dW ?_;refine dW ?_;refine eW ?_;refine ah ?_;refine dT ?_;refine ah ?_;refine rW [] ?_;(iterate 4 refine dW ?_);refine fW ?_;refine uP (α := Option Addr × Nat) (mk := fun p => .agg #[.int .i64 (c : Int), .int .i64 (r : Int), .slice p.1 (c * r) p.2]) (ao := fun p => p.1) (xs := fun _ => mj r c xs) (A := fun _ => True)
  (fun w' H => (wQ 101 (fun _ _ => by go_simp) c r g1 (xC c xs) w' hc hr (fun i j w2 hi hj hb => by
   have h1 : aa w' g1 24 [.int .i64 (r : Int), .int .i64 (c : Int), .slice ao xs.length cap] := H.m1;have h2 : aL w' L ao xs := H.m2;exact vJ r c i j g1 ao cap L xs w2 hr hc hi hj (h1.below hb h1.lt) (h2.below hb) hL HS.out)).mono (by
    rintro e w3 ⟨⟨ao', cap', rfl, hl, _, hS⟩, hb⟩;exact ⟨⟨(ao', cap'), rfl, hl, trivial, hS⟩, hb⟩)) fun q => ?_
 refine sW ?_;refine dW ?_;refine eW ?_;refine ah ?_;refine iO fun w' H => ?_;exact ⟨_, _, uK H.m2, ee, ⟨q, rfl, H.m0, trivial, (show True /\ ∀ b o, q.1 = some ⟨b, o, none⟩ -> w.heap.size <= b from H.m1).2⟩, H.below⟩
theorem Fr.rep {S0 : Nat -> Prop} {w0 w w' : World} {e : En} {es X : List En} (h : Fr S0 w0 w (e :: es)) (hw : e.wr = true) (hc : aN e.S w w') (hT : Wl e.S w) (hX : ∀ x ∈ X, x.F w' /\ ∀ b, x.S b -> e.S b ∨ w.heap.size <= b) (hp : X.Pairwise Ap) : Fr S0 w0 w' (X ++ es) := by
 obtain ⟨e0, he0⟩ : ∃ e0 : En, e0 = .fact false true (fun b => (e.S b ∨ w.heap.size <= b) /\ b < w'.heap.size) (fun w'' => w'.heap.size <= w''.heap.size) (fun h b hb => Nat.lt_of_lt_of_le hb.2 h) (fun h hc _ _ => Nat.le_trans h hc.size) := ⟨_, rfl⟩;have h1 : Fr S0 w0 w' (e0 :: es) := h.cD (e' := e0) hw hc (fun _ _ _ => hT) (fun _ h => h) (by subst he0; exact Nat.le_refl _) (fun b hb => by subst he0; exact hb.1);exact h1.o6 (by subst he0; rfl) (fun x hx => ⟨(hX x hx).1, fun b hb => by subst he0; exact ⟨(hX x hx).2 b hb, En.lt (hX x hx).1 b hb⟩⟩) hp
section
variable {P : Program} {ops : Array Oper} {Q : Exit -> Act -> World -> Prop} {ds : List Deferred} {S0 : Nat -> Prop} {w0 : World} {E0 : List En} {hd : List (List Nat)} {n j s : Nat} {l : List Nat} {G E : List En} {ls : List (Nat × Value)} {op : Op} {ty : TypeId} {pos : String} {af : Array Edge} {f : FuncId} {args : Array Value}
theorem cRep {α : Type} {mk : α -> Value} {e : En} {ens : α -> List En}
 (c : ∀ w, Fr S0 w0 w ((e :: G) ++ E) -> Calls P f args w fun r w' => ∃ p, r = .returned (mk p) /\ aN e.S w w' /\ (∀ x ∈ ens p, x.F w' /\ ∀ b, x.S b -> e.S b ∨ w.heap.size <= b) /\ (ens p).Pairwise Ap)
 (hwl : ∀ w, e.F w -> Wl e.S w)
 (k : ∀ p, dy ds ⟨P, ops, Q, S0, w0, E0, hd⟩ n l (ens p ++ G) E ((s, mk p) :: ls))
 (hwr : e.wr = true := by rfl) (hne : Nonempty α := by infer_instance)
 (ho : ops[j]? = some ⟨some s, op, ty, pos, af, none⟩ := by rfl) (hk : (!bF op && !cX op && dK ls op && Nat.blt s n) = true := by kernel_rfl)
 (hr : ∀ w, (execOp (cT ls) ⟨some s, op, ty, pos, af, none⟩).run P w = .ok (.enter f args) w := by intro w; (try simp only [av]); go_simp <;> with_reducible rfl)
 (hst : fo ops hd j [] = true := by kernel_rfl) : dy ds ⟨P, ops, Q, S0, w0, E0, hd⟩ n (j :: l) (e :: G) E ls := fun a ha => by
 simp only [Bool.and_eq_true, Bool.not_eq_true'] at hk;refine ⟨_, ho, .inr (.inr ⟨hk.1.1.1, hk.1.1.2, α, mk, fun p => ens p ++ G, fun _ => E, [], hne, fun X w hX hw => ?_, hst, fun _ _ _ => rfl, fun p => k p _ (ha.put (Nat.le_of_ble_eq_true hk.2) _)⟩)⟩;refine xK rfl ?_;show mK P _ ((execOp a.eval _).run P w);rw [ha.exec hk.1.2, hr w];have hw1 : Fr S0 w0 w (e :: (X ++ (G ++ E))) := hw.perm (List.perm_middle (l₁ := X) (l₂ := G ++ E));refine (c w (hw.sub (List.sublist_append_right ..))).mono ?_;rintro r w' ⟨p, rfl, hc, hX', hp⟩;refine ⟨_, rfl, p, rfl, (hw1.rep hwr hc (hwl w hw1.m0) hX' hp).perm ?_⟩;rw [List.append_assoc];exact List.perm_append_comm_assoc (ens p) X (G ++ E)
end
theorem fA.wl {gF m : Nat} {z : jm} {w : World} (h : fA gF m z w) : Wl (fq gF z) w := fun _ hg => h.rows hg
theorem tE (gF n m c k mw : Nat) (z : jm) (A : Mx) (nu cs : Nat -> Nat) (w : World) (hn : n <= 64) (hm : m <= 64) (hc : c < m) (hmw : mw <= 1048577) (hI : nG n m mw A c k nu cs z) (h : fA gF m z w) :
 Calls Tryz.prog 60 #[.pointer (some ⟨gF, 0, none⟩), .int .i64 (c : Int)] w fun e w' => ∃ p : Bool × jm, e = .returned (.bool p.1) /\ aN (fq gF z) w w' /\ fA gF m p.2 w' /\ (∀ g, fq gF p.2 g -> fq gF z g ∨ w.heap.size <= g) /\ wM n m mw A c k nu cs z p.1 p.2 := by
 rcases Nat.eq_zero_or_pos n with rfl | h0
 · exact (yh gF m c k mw z A nu cs w hc hI h).mono fun e w' ⟨b, z', q⟩ => ⟨(b, z'), q⟩
 · exact (xO gF n m c k mw z A nu cs w h0 hn hm hc hmw hI h).mono fun e w' ⟨b, z', q⟩ => ⟨(b, z'), q⟩
theorem xD (k c : Nat) (cs : Nat -> Nat) : (List.range (k + 1)).map (lJ cs k c) = (List.range k).map cs ++ [c] := by
 rw [List.range_succ, List.map_append];congr 1
 · exact List.map_congr_left fun t ht => ea (List.mem_range.1 ht)
 · simp [jU]
structure RnX where
 c : Nat
 k : Nat
 z : jm
 nu : Nat -> Nat
 cs : Nat -> Nat
 lo : Option Addr
 lc : Nat
structure RnI (n m mw : Nat) (A : Mx) (x : RnX) : Prop where
 hc : x.c <= m
 st : nG n m mw A x.c x.k x.nu x.cs x.z
theorem zX (gF n m mw : Nat) (z : jm) (A : Mx) (nu cs : Nat -> Nat) (w : World) (hn : n <= 64) (hm : m <= 64) (hmw : mw <= 1048577) (hI : nG n m mw A 0 0 nu cs z) (h : fA gF m z w) :
 Calls Tryz.prog 80 #[.pointer (some ⟨gF, 0, none⟩), .int .i64 (m : Int)] w fun e w' => ∃ p : (Option Addr × Nat) × Nat × jm × (Nat -> Nat) × (Nat -> Nat), e = .returned (.slice p.1.1 p.2.1 p.1.2) /\ aN (fq gF z) w w' /\ nE 3 1 p.1.1 p.2.1 p.1.2 (iL ((List.range p.2.1).map p.2.2.2.2)) w' /\ (∀ b o, p.1.1 = some ⟨b, o, none⟩ -> fq gF z b ∨ w.heap.size <= b) /\ nG n m mw A m p.2.1 p.2.2.2.1 p.2.2.2.2 p.2.2.1 := by
 have HI := hi_ hI;clear hI;refine bS (S0 := fq gF z) Tryz.func80 (Fr.fldS h) ?_;clear h;refine ah ?_;refine rW [] ?_;refine dW ?_;refine eW ?_;refine ah ?_;refine rW [] ?_;refine dW ?_;refine eW ?_;refine ah ?_;refine rW [] ?_;refine dW ?_;refine dW ?_;refine eW ?_;refine ah ?_;refine yv (te := 3) (sz := 1) ?_;refine cI (X := RnX) (RnI n m mw A) (fun x => m - x.c) (fun x => [(8, .int .i64 (x.c : Int)), (7, .int .i64 (m : Int)), (5, .slice x.lo x.k x.lc), (0, .pointer (some ⟨gF, 0, none⟩))]) (fun x => [.lg 3 1 x.lo x.k x.lc (iL ((List.range x.k).map x.cs)), .qu gF m x.z]) ⟨0, 0, z, nu, cs, none, 0⟩ ⟨Nat.zero_le _, HI.out⟩ fun x hx => ?_;obtain ⟨c, k, z1, nu1, cs1, lo, lc⟩ := x;have hc : c <= m := hx.hc;have HX : Hid (nG n m mw A c k nu1 cs1 z1) := hi_ hx.st;have hk : k <= 64 := by have := hx.st.br.kn; have : k <= n := this; omega
 clear hx;by_cases h : c < m
 · have h01 : (c : Int) < (m : Int) := by omega
   refine ah ?_;refine rW [] ?_;refine dB true ?_;refine eW ?_;refine ah ?_;refine fB ?_;refine ah ?_;refine rW [] ?_;refine dW ?_;refine dW ?_;refine eW ?_;refine ah ?_;refine rW [] ?_;refine dW ?_;refine dW ?_;refine cUp (α := Bool × jm) (mk := fun p => .bool p.1) (e := .qu gF m z1) (e' := fun p => .qu gF m p.2) (ens := fun p => [.pr (wM n m mw A c k nu1 cs1 z1 p.1 p.2)]) (fun w' H => (tE gF n m c k mw z1 A nu1 cs1 w' hn hm h hmw HX.out (H.all (.qu gF m z1) (by simp))).mono fun e w'' ⟨p, he, q1, q2, q3, q4⟩ => ⟨p, he, q1, q2, q3, fun x hx => by rcases List.mem_singleton.1 hx with rfl; exact ⟨q4, fun _ h => h⟩⟩) (fun w h => fA.wl h) (hne := ⟨(false, z1)⟩) fun p => ?_;refine eW ?_;refine ah ?_;refine sU (A := wM n m mw A c k nu1 cs1 z1 p.1 p.2) (by simp) fun hs => ?_;obtain ⟨b, z2⟩ := p
   replace hs : wM n m mw A c k nu1 cs1 z1 b z2 := hs
   by_cases hb : b = true
   · subst hb;have hs2 := hs.resolve_left fun q => nomatch q.1;obtain ⟨_, hkn, nu2, hst, _⟩ := hs2;have HST := hi_ hst;clear hst hs;refine ah ?_;refine fB ?_;refine ah ?_;refine rW [] ?_;refine dW ?_;refine dW ?_;refine bW (m := 1) fun g16 => ?_;refine yT (k := k) (cap := lc) (g := g16) (c := 1) (ao := lo) (cs := iL ((List.range k).map cs1)) (v := .int .i64 (c : Int)) Tryz.underlying34 sS rfl (pW (.int .i64 0) rfl (fun n h => nomatch h)) (by omega) (by omega) rfl ⟨iF _, by decide⟩ (by simp) fun u => ?_;refine dW ?_;refine eW ?_;refine ah ?_;refine rW [] ?_;refine dE (dR (a := c) (by omega)) ?_;refine dW ?_;refine eW ?_;refine ah ?_;exact cf (⟨c + 1, k + 1, z2, nu2, lJ cs1 k c, u.1, u.2⟩ : RnX) ⟨⟨h, HST.out⟩, by show m - (c + 1) < m - c; omega⟩ (he := by
      intro w' h';rw [tB, <- xD] at h';exact h'.pick (by repeat (first | exact Pk.n | refine Pk.c (by repeat (first | exact Rm.z | apply Rm.s)) ?_)))
   · have hb' : b = false := by simpa using hb
     subst hb';have hs2 := hs.resolve_right fun q => nomatch q.1;obtain ⟨_, _, hst, _⟩ := hs2;have HST := hi_ hst;clear hst hs hb;refine ah ?_;refine dT ?_;refine ah ?_;refine rW [] ?_;refine dE (dR (a := c) (by omega)) ?_;refine dW ?_;refine eW ?_;refine ah ?_;exact cf (⟨c + 1, k, z2, nu1, cs1, lo, lc⟩ : RnX) ⟨⟨h, HST.out⟩, by show m - (c + 1) < m - c; omega⟩
 · obtain rfl : m = c := by omega
   refine ah ?_;refine rW [] ?_;refine dB false ?_;refine eW ?_;refine ah ?_;refine dT ?_;refine ah ?_;refine rW [] ?_;refine dW ?_;refine dW ?_;refine eW ?_;refine ah ?_;refine ei fun w' H => ?_;exact ⟨_, ee, ((lo, lc), k, z1, nu1, cs1), rfl, H.bs, H.m0, fun b o e => H.own (.lg 3 1 lo k lc (iL ((List.range k).map cs1))) (by simp) rfl b ⟨o, e⟩, HX.out⟩
theorem ng {n m i : Nat} {xs : List Int} (hi : i < n) : (bZ n m xs).getD i [] = rowOf xs m i := by simp [bZ, hi]
theorem qW {n m i j : Nat} {xs : List Int} (hi : i < n) (hj : j < m) : bE (bZ n m xs) i j = aE xs n m i j := by
 unfold bE gi;rw [ng hi, fK _ _ _ _ hj, eA hi hj]
theorem je {w : World} {ao : Option Addr} {xs : List Int} {B : Nat} (h : aL w B ao xs) : ∀ x ∈ xs, x.natAbs < W ^ B := fun x hx => by
 obtain ⟨i, hi, rfl⟩ := List.getElem_of_mem hx;obtain ⟨b, o, _, _, hc⟩ := h (by omega);obtain ⟨q, _, _, hI⟩ := hc i hi;exact Nat.lt_of_lt_of_le (bh _) (Nat.pow_le_pow_right (by decide) hI.ag)
theorem nG.start {n m mw : Nat} {xs : List Int} {z : jm} (cs : Nat -> Nat) (hs : xs.length = n * m) (hb : ∀ x ∈ xs, x.natAbs < W ^ mw) (h : z.E = bZ n m xs /\ z.ls = 1 /\ z.tn = false /\ z.tk = 0 /\ z.nu.length = n) : nG n m mw (aE xs n m) 0 0 (fun i => i) cs z := by
 obtain ⟨h1, h2, _, h3, h4⟩ := h;have hA : ∀ i j, (aE xs n m i j).natAbs < W ^ mw := fun i j => fV (Nat.pow_pos (by unfold W; omega)) hb i j;refine ⟨by rw [h1, dS], fun t ht => by rw [h1, ng ht]; exact bO hs ht, h4, h3, ?_, fun i j => Nat.le_of_lt (hA i j), fun t ht j => ?_, ?_⟩
 · rw [h2, h1]; exact jG.start cs fun i hi j hj => qW hi hj
 · rw [h1];by_cases hj : j < m
   · rw [qW ht hj]; exact Nat.le_trans (au (hA t j)) (by omega)
   · have : bE (bZ n m xs) t j = 0 := by
      unfold bE gi;rw [ng ht]; exact dY _ _ (by rw [bO hs ht]; omega)
     rw [this]; simp [aY]
 · rw [h2]; exact Nat.le_trans (au (k := 1) (by unfold W; decide)) (by omega)
def iK (n m : Nat) (A : Mx) (k : Nat) (cs : Nat -> Nat) : Prop := ∃ nu R d, jG n m A m k nu cs R d
theorem xy (n m nm mw cap : Nat) (ao : Option Addr) (xs : List Int) (w : World) (hn : n <= 64) (hm : m <= 64) (hmw : mw <= 1048577) (hA : aL w mw ao xs) (hs : xs.length = n * m) (hnm : xs.length = nm) :
 Calls Tryz.prog 47 #[.agg #[.int .i64 (n : Int), .int .i64 (m : Int), .slice ao nm cap]] w fun e w' => ∃ p : (Option Addr × Nat) × Nat × (Nat -> Nat), e = .returned (.tuple #[.slice p.1.1 p.2.1 p.1.2, .int .i64 0]) /\ Nw w w' [.lg 3 1 p.1.1 p.2.1 p.1.2 (iL ((List.range p.2.1).map p.2.2)), .pr (iK n m (aE xs n m) p.2.1 p.2.2)] := by
 have hxb := je hA;have hC : ∀ w', Calls Tryz.prog 7 #[.agg #[.int .i64 (n : Int), .int .i64 (m : Int), .slice ao nm cap]] w' fun e w'' => e = .returned (.int .i64 0) /\ Below w'.heap.size w' w'' := fun w' => by
  have := cJ (n : Int) (m : Int) ao nm cap w' (by omega) (by omega);rw [dC (by unfold aR bJ; rw [<- hnm, hs]; simp; omega)] at this; exact this
 have hO := fun w' (h : aL w' mw ao xs) => zG n m nm mw cap ao xs w' hn hm h (by omega) hs hnm (fun x hx => Nat.le_trans (au (hxb x hx)) (by omega));have hst := fun (z : jm) h => nG.start (n := n) (m := m) (mw := mw) (xs := xs) (z := z) (fun _ => 0) hs hxb h;have HC := hi_ (And.intro hC (And.intro hO hst));clear hC hO hst hxb hs hnm;refine bS (S0 := fun _ => False) Tryz.func47 ((Fr.nil _ w).l hA (by simp)) ?_;refine ah ?_;refine rW [] ?_;refine aW fun g1 => ?_;refine dW ?_;refine dW ?_;refine eW ?_;refine ah ?_;refine rW [] ?_;refine dW ?_;refine cV (v := .int .i64 0) (fun w' H => HC.out.1 w') ?_;refine dW ?_;refine eW ?_;refine ah ?_;refine rW [] ?_;refine dW ?_;refine dB false ?_;refine eW ?_;refine ah ?_;refine dT ?_;refine ah ?_;refine rW [] ?_;refine dW ?_;refine cG (α := Nat × jm) (mk := fun q => .pointer (some ⟨q.1, 0, none⟩)) (ens := fun q => [.qu q.1 m q.2, .pr (q.2.E = bZ n m xs /\ q.2.ls = 1 /\ q.2.tn = false /\ q.2.tk = 0 /\ q.2.nu.length = n)]) (hne := ⟨(0, ⟨none, 0, none, 0, [], [], [], false, p0, 0, 0⟩)⟩) (fun w' H => (HC.out.2.1 w' (H.all (.ls mw ao xs) (by simp))).mono fun e w'' ⟨q, he, hnw, hq⟩ => ⟨q, he, hnw.1, fun e he => by
  rcases List.mem_cons.1 he with rfl | he
  · exact hnw.2.1 _ (List.mem_singleton.2 rfl)
  · rcases List.mem_singleton.1 he with rfl;exact ⟨hq, fun _ h => h.elim⟩, .cons (fun x hx => by rcases List.mem_singleton.1 hx with rfl; exact ⟨fun _ _ _ h => h, fun q => nomatch q⟩) (List.pairwise_singleton ..)⟩) fun q => ?_
 refine dW ?_;refine dW ?_;refine cRep (α := (Option Addr × Nat) × Nat × (Nat -> Nat)) (mk := fun p => .slice p.1.1 p.2.1 p.1.2) (e := .qu q.1 m q.2) (ens := fun p => [.lg 3 1 p.1.1 p.2.1 p.1.2 (iL ((List.range p.2.1).map p.2.2)), .pr (iK n m (aE xs n m) p.2.1 p.2.2)]) (hne := ⟨((none, 0), 0, fun _ => 0)⟩) (fun w' H => (zX q.1 n m mw q.2 (aE xs n m) _ _ w' hn hm hmw (HC.out.2.2 q.2 H.m1) H.m0).mono fun e w'' ⟨p, he, q1, q2, q3, q4⟩ => ⟨(p.1, p.2.1, p.2.2.2.2), he, q1, fun x hx => by
  rcases List.mem_cons.1 hx with rfl | hx
  · exact ⟨q2, fun b ⟨o, e⟩ => q3 b o e⟩
  · rcases List.mem_singleton.1 hx with rfl;exact ⟨⟨_, _, _, q4.br⟩, fun _ h => h.elim⟩, .cons (fun x hx => by rcases List.mem_singleton.1 hx with rfl; exact ⟨fun _ _ _ h => h, fun q => nomatch q⟩) (List.pairwise_singleton ..)⟩) (fun w h => fA.wl h) fun p => ?_
 refine dW ?_;refine dW ?_;refine eW ?_;refine ah ?_;refine iO fun w' H => ?_;refine ⟨_, _, ee, ee, p, rfl, H.below, fun e he => ?_, .cons (fun x hx => by rcases List.mem_singleton.1 hx with rfl; exact ⟨fun _ _ _ h => h, fun q => nomatch q⟩) (List.pairwise_singleton ..)⟩;rcases List.mem_cons.1 he with rfl | he
 · exact ⟨H.m0, fun b hb => (H.own _ (List.mem_cons_self ..) rfl b hb).elim (fun h => h.elim) id⟩
 · rcases List.mem_singleton.1 he with rfl;exact ⟨H.m1, fun _ h => h.elim⟩
theorem ud (n m nm mw cap : Nat) (ao : Option Addr) (xs : List Int) (w : World) (hn : n <= 64) (hm : m <= 64) (hmw : mw <= 1048577) (hA : aL w mw ao xs) (hs : xs.length = n * m) (hnm : xs.length = nm) :
 Calls Tryz.prog 46 #[.agg #[.int .i64 (n : Int), .int .i64 (m : Int), .slice ao nm cap]] w fun e w' => ∃ p : (Option Addr × Nat) × Nat × (Nat -> Nat), e = .returned (.tuple #[.slice p.1.1 p.2.1 p.1.2, .int .i64 0]) /\ Nw w w' [.lg 3 1 p.1.1 p.2.1 p.1.2 (iL ((List.range p.2.1).map p.2.2)), .pr (iK m n (aE (mj n m xs) m n) p.2.1 p.2.2)] := by
 have hxb := je hA;have hT := fun w' (h : aL w' mw ao xs) => by
  have := xA n m ao cap mw xs w' hn hm h (by omega) hs;rw [hnm] at this; exact this
 have hP := fun p cp w' (h : ik w' p (mj n m xs)) => xy m n (m * n) mw cp p (mj n m xs) w' hm hn hmw (h.po fun x hx => au (hxb x (zr hs hx))) (n8 ..) (n8 ..);have HC := hi_ (And.intro hT hP);clear hT hP hxb hs hnm;refine bS (S0 := fun _ => False) Tryz.func46 ((Fr.nil _ w).l hA (by simp)) ?_;refine ah ?_;refine rW [] ?_;refine aW fun g1 => ?_;refine dW ?_;refine dW ?_;refine eW ?_;refine ah ?_;refine rW [] ?_;refine dW ?_;refine uP (α := Option Addr × Nat) (mk := fun p => .tuple #[.agg #[.int .i64 (m : Int), .int .i64 (n : Int), .slice p.1 (m * n) p.2], .int .i64 0]) (ao := fun p => p.1) (xs := fun _ => mj n m xs) (A := fun _ => True) (fun w' H => HC.out.1 w' (H.all (.ls mw ao xs) (by simp))) fun t => ?_;(iterate 3 refine dW ?_);refine aW fun g4 => ?_;refine sG ?_;refine dW ?_;refine eW ?_;refine ah ?_;refine rW [] ?_;refine dW ?_;refine dB false ?_;refine eW ?_;refine ah ?_;refine dT ?_;refine ah ?_;refine rW [] ?_;refine dW ?_;refine cG (α := (Option Addr × Nat) × Nat × (Nat -> Nat)) (mk := fun p => .tuple #[.slice p.1.1 p.2.1 p.1.2, .int .i64 0]) (ens := fun p => [.lg 3 1 p.1.1 p.2.1 p.1.2 (iL ((List.range p.2.1).map p.2.2)), .pr (iK m n (aE (mj n m xs) m n) p.2.1 p.2.2)]) (hne := ⟨((none, 0), 0, fun _ => 0)⟩) (fun w' H => HC.out.2 t.1 t.2 w' (H.all (.kP t.1 (mj n m xs)) (by simp))) fun p => ?_;(iterate 4 refine dW ?_);refine eW ?_;refine ah ?_;refine iO fun w' H => ?_;refine ⟨_, _, ee, ee, p, rfl, H.below, fun e he => ?_, .cons (fun x hx => by rcases List.mem_singleton.1 hx with rfl; exact ⟨fun _ _ _ h => h, fun q => nomatch q⟩) (List.pairwise_singleton ..)⟩;rcases List.mem_cons.1 he with rfl | he
 · exact ⟨H.m0, fun b hb => (H.own _ (List.mem_cons_self ..) rfl b hb).elim (fun h => h.elim) id⟩
 · rcases List.mem_singleton.1 he with rfl;exact ⟨H.m1, fun _ h => h.elim⟩
def xH (b : Bool) : Int := if b then -1 else 1
structure DeX where
 c : Nat
 z : jm
 nu : Nat -> Nat
 cs : Nat -> Nat
structure DeI (n mw : Nat) (A : Mx) (x : DeX) : Prop where
 hc : x.c <= n
 st : nG n n mw A x.c x.c x.nu x.cs x.z
 sg : bK n (fun a b => A (x.nu a) b) * xH x.z.tn = bK n A
theorem DeI.next {n mw c : Nat} {A : Mx} {nu cs nu' : Nat -> Nat} {z z' : jm} (h : DeI n mw A ⟨c, z, nu, cs⟩) (hc : c < n) (hst : nG n n mw A (c + 1) (c + 1) nu' (lJ cs c c) z') (hr : (z'.tn = z.tn /\ nu' = nu) ∨ (z'.tn = !z.tn /\ ∃ p, c < p /\ p < n /\ nu' = fun i => nu (jC c p i))) : DeI n mw A ⟨c + 1, z', nu', lJ cs c c⟩ := by
 refine ⟨hc, hst, ?_⟩;have h0 : bK n (fun a b => A (nu a) b) * xH z.tn = bK n A := h.sg;show bK n (fun a b => A (nu' a) b) * xH z'.tn = bK n A;rcases hr with ⟨e1, e2⟩ | ⟨e1, p, h1, h2, e2⟩
 · rw [e1, e2]; exact h0
 · rw [e1, e2, <- h0, xW (B := fun a b => A (nu a) b) hc h2 (by omega)];cases z.tn <;> simp [xH, Int.neg_mul, Int.mul_neg]
theorem AL (n nm mw cap : Nat) (ao : Option Addr) (xs : List Int) (w : World) (hn : n <= 64) (hmw : mw <= 1048577) (hA : aL w mw ao xs) (hs : xs.length = n * n) (hnm : xs.length = nm) :
 Calls Tryz.prog 27 #[.agg #[.int .i64 (n : Int), .int .i64 (n : Int), .slice ao nm cap]] w fun e w' => (∃ v', e = .returned (.tuple #[v', .int .i64 0]) /\ aj w' w.heap.size v' (bK n (aE xs n n))) /\ Below w.heap.size w w' := by
 have hxb := je hA;have hC : ∀ w', Calls Tryz.prog 7 #[.agg #[.int .i64 (n : Int), .int .i64 (n : Int), .slice ao nm cap]] w' fun e w'' => e = .returned (.int .i64 0) /\ Below w'.heap.size w' w'' := fun w' => by
  have := cJ (n : Int) (n : Int) ao nm cap w' (by omega) (by omega);rw [dC (by unfold aR bJ; rw [<- hnm, hs]; simp; omega)] at this; exact this
 have hO := fun w' (h : aL w' mw ao xs) => zG n n nm mw cap ao xs w' hn hn h (by omega) hs hnm (fun x hx => Nat.le_trans (au (hxb x hx)) (by omega));have hst : ∀ z : jm, (z.E = bZ n n xs /\ z.ls = 1 /\ z.tn = false /\ z.tk = 0 /\ z.nu.length = n) -> DeI n mw (aE xs n n) ⟨0, z, fun i => i, fun _ => 0⟩ := fun z h => ⟨Nat.zero_le _, nG.start (fun _ => 0) hs hxb h, by show bK n (fun a b => aE xs n n a b) * xH z.tn = _; rw [h.2.2.1]; simp [xH]⟩;have HC := hi_ (And.intro hC (And.intro hO hst));obtain ⟨A, hA'⟩ : ∃ A, aE xs n n = A := ⟨_, rfl⟩;rw [hA'] at HC ⊢;clear hC hO hst hxb hs hnm hA';refine bS (S0 := fun _ => False) Tryz.func27 ((Fr.nil _ w).l hA (by simp)) ?_;refine ah ?_;refine rW [] ?_;refine aW fun g1 => ?_;refine aW fun g2 => ?_;refine dW ?_;refine eW ?_;refine ah ?_;refine rW [] ?_;refine dW ?_;refine cV (v := .int .i64 0) (fun w' H => HC.out.1 w') ?_;refine dW ?_;refine eW ?_;refine ah ?_;refine rW [] ?_;refine dW ?_;refine dB false ?_;refine eW ?_;refine ah ?_;refine dT ?_;refine ah ?_;refine rW [] ?_;(iterate 4 refine dW ?_);refine dB false ?_;refine eW ?_;refine ah ?_;refine dT ?_;refine ah ?_;refine rW [] ?_;refine dW ?_;refine cG (α := Nat × jm) (mk := fun q => .pointer (some ⟨q.1, 0, none⟩)) (ens := fun q => [.qu q.1 n q.2, .pr (q.2.E = bZ n n xs /\ q.2.ls = 1 /\ q.2.tn = false /\ q.2.tk = 0 /\ q.2.nu.length = n)]) (hne := ⟨(0, ⟨none, 0, none, 0, [], [], [], false, p0, 0, 0⟩)⟩) (fun w' H => (HC.out.2.1 w' (H.all (.ls mw ao xs) (by simp))).mono fun e w'' ⟨q, he, hnw, hq⟩ => ⟨q, he, hnw.1, fun e he => by
  rcases List.mem_cons.1 he with rfl | he
  · exact hnw.2.1 _ (List.mem_singleton.2 rfl)
  · rcases List.mem_singleton.1 he with rfl;exact ⟨hq, fun _ h => h.elim⟩, .cons (fun x hx => by rcases List.mem_singleton.1 hx with rfl; exact ⟨fun _ _ _ h => h, fun q => nomatch q⟩) (List.pairwise_singleton ..)⟩) fun q => ?_
 refine dW ?_;refine eW ?_;refine ah ?_;refine sU (A := q.2.E = bZ n n xs /\ q.2.ls = 1 /\ q.2.tn = false /\ q.2.tk = 0 /\ q.2.nu.length = n) (by simp) fun hq => ?_;obtain ⟨gF, z⟩ := q;have HD := hi_ (HC.out.2.2 z hq);clear hq;refine dU (es' := [.row g1 24 [.int .i64 (n : Int), .int .i64 (n : Int), .slice ao nm cap], .row g2 37 [.bool false, .slice none 0 0], .qu gF n z]) ?_;refine rW [] ?_;(iterate 3 refine dW ?_);refine eW ?_;refine ah ?_;refine cI (X := DeX) (DeI n mw A) (fun x => n - x.c) (fun x => [(23, .int .i64 (x.c : Int)), (22, .int .i64 (n : Int)), (5, .pointer (some ⟨gF, 0, none⟩)), (1, .pointer (some ⟨g1, 0, none⟩)), (2, .pointer (some ⟨g2, 0, none⟩)), (3, .int .i64 0)]) (fun x => [.row g1 24 [.int .i64 (n : Int), .int .i64 (n : Int), .slice ao nm cap], .row g2 37 [.bool false, .slice none 0 0], .qu gF n x.z]) ⟨0, z, fun i => i, fun _ => 0⟩ HD.out fun x hx => ?_;obtain ⟨c, z1, nu1, cs1⟩ := x;have hc : c <= n := hx.hc;have HX : Hid (DeI n mw A ⟨c, z1, nu1, cs1⟩) := hi_ hx;clear hx;by_cases h : c < n
 · have h01 : (c : Int) < (n : Int) := by omega
   refine ah ?_;refine rW [] ?_;refine dB true ?_;refine eW ?_;refine ah ?_;refine fB ?_;refine ah ?_;refine rW [] ?_;refine dW ?_;refine dW ?_;refine eW ?_;refine ah ?_;refine rW [] ?_;refine dW ?_;refine dW ?_;refine cUp (α := Bool × jm) (mk := fun p => .bool p.1) (e := .qu gF n z1) (e' := fun p => .qu gF n p.2) (ens := fun p => [.pr (wM n n mw A c c nu1 cs1 z1 p.1 p.2)]) (fun w' H => (tE gF n n c c mw z1 A nu1 cs1 w' hn hn h hmw HX.out.st (H.all (.qu gF n z1) (by simp))).mono fun e w'' ⟨p, he, q1, q2, q3, q4⟩ => ⟨p, he, q1, q2, q3, fun x hx => by rcases List.mem_singleton.1 hx with rfl; exact ⟨q4, fun _ h => h⟩⟩) (fun w h => fA.wl h) (hne := ⟨(false, z1)⟩) fun p => ?_;refine dW ?_;refine eW ?_;refine ah ?_;refine sU (A := wM n n mw A c c nu1 cs1 z1 p.1 p.2) (by simp) fun hs => ?_;obtain ⟨b, z2⟩ := p
   replace hs : wM n n mw A c c nu1 cs1 z1 b z2 := hs
   by_cases hb : b = true
   · subst hb;have hs2 := hs.resolve_left fun q => nomatch q.1;obtain ⟨_, hkn, nu2, hst, hrel⟩ := hs2;have HST := hi_ (HX.out.next h hst hrel);clear hst hs hrel;refine ah ?_;refine dT ?_;refine ah ?_;refine rW [] ?_;refine dE (dR (a := c) (by omega)) ?_;refine dW ?_;refine eW ?_;refine ah ?_;exact cf (⟨c + 1, z2, nu2, lJ cs1 c c⟩ : DeX) ⟨HST.out, by show n - (c + 1) < n - c; omega⟩
   · have hb' : b = false := by simpa using hb
     subst hb';have hs2 := hs.resolve_right fun q => nomatch q.1;obtain ⟨_, _, _, h0⟩ := hs2;have hd : bK n A = 0 := by rw [<- HX.out.sg, HX.out.st.br.det0 h h0, Int.zero_mul]
     have HDZ := hi_ hd;clear hd hs hb h0;refine ah ?_;refine fB ?_;refine ah ?_;refine rW [] ?_;refine dW ?_;refine sW ?_;refine dW ?_;refine eW ?_;refine ah ?_;refine iO fun w' H => ?_;exact ⟨_, _, jB (H.all (.row g2 37 [.bool false, .slice none 0 0]) (by simp)), ee, ⟨_, rfl, by rw [HDZ.out]; exact aj.zero _ _⟩, H.below⟩
 · obtain rfl : n = c := by omega
   refine ah ?_;refine rW [] ?_;refine dB false ?_;have hdt : z1.ls * xH z1.tn = bK n A := by rw [HX.out.st.br.bK (s := 0)]; exact HX.out.sg
   have hlw : ag z1.ls.natAbs <= 17592186044415 := Nat.le_trans HX.out.st.lb (by omega);have HDT := hi_ (And.intro hdt hlw);clear hdt hlw;refine eW ?_;refine ah ?_;obtain ⟨ro, rc, no, nc, gs, E, nul, tn, lp, ls, tk⟩ := z1;refine vU (es' := [.cell ⟨gF, 2, none⟩ (.bool tn), .cell ⟨gF, 3, none⟩ (.bool lp.1), .cell ⟨gF, 4, none⟩ (.slice lp.2.1 lp.2.2.1 lp.2.2.2), .num (av lp) ls, .row g1 24 [.int .i64 (n : Int), .int .i64 (n : Int), .slice ao nm cap], .row g2 37 [.bool false, .slice none 0 0]]) (fun w' h' => by
    have h2 : Fr _ w w' (.qu gF n ⟨ro, rc, no, nc, gs, E, nul, tn, lp, ls, tk⟩ :: [.row g1 24 [.int .i64 (n : Int), .int .i64 (n : Int), .slice ao nm cap], .row g2 37 [.bool false, .slice none 0 0]]) := h'.pick (by repeat (first | exact Pk.n | refine Pk.c (by repeat (first | exact Rm.z | apply Rm.s)) ?_));have hF : fA gF n ⟨ro, rc, no, nc, gs, E, nul, tn, lp, ls, tk⟩ w' := h2.m0;have hr : aa w' gF _ (xB ⟨ro, rc, no, nc, gs, E, nul, tn, lp, ls, tk⟩) := hF.1.1;refine h2.o6 (X := [.cell ⟨gF, 2, none⟩ (.bool tn), .cell ⟨gF, 3, none⟩ (.bool lp.1), .cell ⟨gF, 4, none⟩ (.slice lp.2.1 lp.2.2.1 lp.2.2.2), .num (av lp) ls]) rfl (fun x hx => ?_) (List.pairwise_of_forall_mem_list fun a ha b hb => ?_)
    · simp only [List.mem_cons, List.mem_nil_iff, or_false] at hx;rcases hx with rfl | rfl | rfl | rfl
      · exact ⟨hr.cell 2, fun b e => .inl e⟩
      · exact ⟨hr.cell 3, fun b e => .inl e⟩
      · exact ⟨hr.cell 4, fun b e => .inl e⟩
      · exact ⟨hF.1.2.2.2.2, fun b e => e.elim⟩
    · have hw : ∀ x ∈ [En.cell ⟨gF, 2, none⟩ (.bool tn), .cell ⟨gF, 3, none⟩ (.bool lp.1), .cell ⟨gF, 4, none⟩ (.slice lp.2.1 lp.2.2.1 lp.2.2.2), .num (av lp) ls], x.wr = false := fun x hx => by
       simp only [List.mem_cons, List.mem_nil_iff, or_false] at hx;rcases hx with rfl | rfl | rfl | rfl <;> rfl
      exact ⟨(fun q => by rw [hw a ha] at q; cases q), (fun q => by rw [hw b hb] at q; cases q)⟩) ?_
   replace HDT : Hid (ls * xH tn = bK n A /\ ag ls.natAbs <= 17592186044415) := HDT
   by_cases htn : tn = true
   · subst htn;refine ah ?_;refine dT ?_;refine ah ?_;refine rW [] ?_;(iterate 4 refine dW ?_);refine eW ?_;refine ah ?_;refine fB ?_;refine ah ?_;refine rW [] ?_;(iterate 4 refine dW ?_);refine cN (x := -ls) (fun w' H => iT (av lp) ls w' (aH.int (H.all (.num (av lp) ls) (by simp)) HDT.out.2)) fun p => ?_;refine sW ?_;refine dW ?_;refine eW ?_;refine ah ?_;refine iO fun w' H => ?_;exact ⟨_, _, jB (H.all (.row g2 37 [.bool p.1, .slice p.2.1 p.2.2.1 p.2.2.2]) (by simp)), ee, ⟨_, rfl, by have e := HDT.out.1; simp [xH] at e; rw [<- e]; exact H.all (.own w.heap.size (av p) (-ls)) (by simp [av])⟩, H.below⟩
   · have htn' : tn = false := by simpa using htn
     subst htn';clear htn;refine ah ?_;refine dT ?_;refine ah ?_;refine rW [] ?_;(iterate 4 refine dW ?_);refine eW ?_;refine ah ?_;refine dT ?_;refine ah ?_;refine rW [] ?_;(iterate 4 refine dW ?_);refine cN (x := ls) (fun w' H => fM (av lp) ls w' (aH.int (H.all (.num (av lp) ls) (by simp)) HDT.out.2)) fun p => ?_;refine sW ?_;refine dW ?_;refine eW ?_;refine ah ?_;refine iO fun w' H => ?_;exact ⟨_, _, jB (H.all (.row g2 37 [.bool p.1, .slice p.2.1 p.2.2.1 p.2.2.2]) (by simp)), ee, ⟨_, rfl, by have e := HDT.out.1; simp [xH] at e; rw [<- e]; exact H.all (.own w.heap.size (av p) ls) (by simp [av])⟩, H.below⟩
section
variable {ops : Array Oper} {Q : Exit -> Act -> World -> Prop} {ds : List Deferred} {S0 : Nat -> Prop} {w0 : World} {E0 : List En} {hd : List (List Nat)} {n j s : Nat} {l : List Nat} {G E : List En} {ls : List (Nat × Value)} {ty : TypeId} {pos : String} {af : Array Edge}
end
theorem qP (F : FuncId) (hF : ∀ (args : Array Value) (w : World), (callFunc F args).run Tryz.prog w = .ok (.enter F args) w) (lb : Array Value) (r c : Nat) (f : Nat -> Nat -> Int) (w : World) (hr : r <= 64) (hc : c <= 64)
 (hf : ∀ (i j : Nat) (w' : World), i < r -> j < c -> Below w.heap.size w w' -> Calls Tryz.prog F (#[.int .i64 (i : Int), .int .i64 (j : Int)] ++ lb) w' fun e w'' => (∃ v, e = .returned v /\ aj w'' w'.heap.size v (f i j)) /\ Below w'.heap.size w' w'') :
 Calls Tryz.prog 56 #[.int .i64 (r : Int), .int .i64 (c : Int), .func (.func F) #[] lb] w fun e w' => (∃ ao cap, e = .returned (.agg #[.int .i64 (r : Int), .int .i64 (c : Int), .slice ao (r * c) cap]) /\ ik w' ao (c8 c f (r * c)) /\ r * c <= cap /\ ∀ b o, ao = some ⟨b, o, none⟩ -> w.heap.size <= b) /\ Below w.heap.size w w' := by
 have hnc : r * c <= 4096 := Nat.mul_le_mul hr hc;have hms : r * c < 9223372036854775808 := by omega
 refine bS (S0 := fun _ => False) Tryz.func56 (Fr.nil _ w) ?_;refine ah ?_;refine rW [] ?_;refine aW fun g6 => ?_;refine eW ?_;refine ah ?_;refine rW [] ?_;(iterate 4 refine dW ?_);refine dE (qJ (a := r) (b := c) hms) ?_;obtain ⟨N, hN⟩ : ∃ N, r * c = N := ⟨_, rfl⟩;rw [hN] at hnc ⊢;have HN : Hid (r * c = N) := hi_ hN;clear hms hN;refine mN 0 N rfl rfl (Nat.zero_le _) (by omega) fun b => ?_;refine dW ?_;refine aW fun g7 => ?_;refine sG ?_;refine eW ?_;refine dU (es' := [.row b 37 (rn (List.replicate N p0) []), .row g7 24 [.int .i64 (r : Int), .int .i64 (c : Int), .slice (some ⟨b, 0, none⟩) 0 N], .row g6 24 [.int .i64 0, .int .i64 0, .slice none 0 0]]) ?_;refine zA ?_;refine mQ (e := .ns [] (c8 c f 0)) (fun w' _ => bQ.nil w') ?_;refine dU (es' := [.row g7 24 [.int .i64 (r : Int), .int .i64 (c : Int), .slice (some ⟨b, 0, none⟩) 0 N], .row g6 24 [.int .i64 0, .int .i64 0, .slice none 0 0], .kY (some ⟨b, 0, none⟩) 0 N [], .ns [] (c8 c f 0)]) ?_;refine ah ?_;refine rW [] ?_;refine dW ?_;refine dW ?_;refine eW ?_;refine ah ?_;refine cI (X := B1X) (B1I r c) (fun z => r - z.i) (fun z => [(18, .int .i64 (z.i : Int)), (17, .int .i64 (r : Int)), (1, .int .i64 (c : Int)), (2, .func (.func F) #[] lb), (7, .pointer (some ⟨g7, 0, none⟩)), (6, .pointer (some ⟨g6, 0, none⟩))])
  (fun z => [.row g7 24 [.int .i64 (r : Int), .int .i64 (c : Int), .slice z.ao z.K z.cap], .row g6 24 [.int .i64 0, .int .i64 0, .slice none 0 0], .kY z.ao z.K z.cap z.ps, .ns z.ps (c8 c f z.K)]) ⟨0, 0, some ⟨b, 0, none⟩, N, []⟩ ⟨Nat.zero_le _, Nat.zero_mul _⟩ fun z hz => ?_
 obtain ⟨i, K, ao, cap, ps⟩ := z;obtain ⟨hi, hK⟩ := hz
 replace hi : i <= r := hi
 replace hK : i * c = K := hK
 by_cases h : i < r
 · have h01 : (i : Int) < (r : Int) := by omega
   have HK : Hid (i * c + 0 = K) := hi_ hK;clear hK;refine ah ?_;refine rW [] ?_;refine dB true ?_;refine eW ?_;refine ah ?_;refine fB ?_;refine ah ?_;refine rW [] ?_;refine dW ?_;refine dW ?_;refine eW ?_;refine ah ?_;refine rW [] ?_;refine dW ?_;refine dW ?_;refine eW ?_;refine ah ?_;refine cI (X := B2X) (B2I c i) (fun z => c - z.j) (fun z => [(22, .int .i64 (z.j : Int)), (21, .int .i64 (c : Int)), (8, .int .i64 (i : Int)), (18, .int .i64 (i : Int)), (17, .int .i64 (r : Int)), (1, .int .i64 (c : Int)), (2, .func (.func F) #[] lb), (7, .pointer (some ⟨g7, 0, none⟩)), (6, .pointer (some ⟨g6, 0, none⟩))])
    (fun z => [.row g7 24 [.int .i64 (r : Int), .int .i64 (c : Int), .slice z.ao z.K z.cap], .row g6 24 [.int .i64 0, .int .i64 0, .slice none 0 0], .kY z.ao z.K z.cap z.ps, .ns z.ps (c8 c f z.K)]) ⟨0, K, ao, cap, ps⟩ ⟨Nat.zero_le _, HK.out⟩ fun z hz => ?_
   clear HK;obtain ⟨j, K, ao, cap, ps⟩ := z;obtain ⟨hj, hK⟩ := hz
   replace hj : j <= c := hj
   replace hK : i * c + j = K := hK
   by_cases h' : j < c
   · have h02 : (j : Int) < (c : Int) := by omega
     have hlt := yd h h';have ht := nV (i := i) f h';have hKN : K <= 100000000 := by have := HN.out; omega
     rw [hK] at ht;have HT : Hid (c8 c f (K + 1) = c8 c f K ++ [f i j] /\ i * c + j = K) := hi_ ⟨ht, hK⟩;clear ht hK hlt;refine ah ?_;refine rW [] ?_;refine dB true ?_;refine eW ?_;refine ah ?_;refine fB ?_;refine ah ?_;refine rW [] ?_;refine dW ?_;refine dW ?_;refine eW ?_;refine ah ?_;refine rW [] ?_;(iterate 5 refine dW ?_);refine cN (fun w' H => hf i j w' h h' H.below) fun q => ?_;refine bW (m := 1) fun g31 => ?_;refine ja (e := .ns (ps ++ [q]) (c8 c f (K + 1))) (fun w' H => by rw [HT.out.1]; exact bQ.snoc H.m5 H.m1.num) ?_;refine Ad (g := g31) (t := 37) (c := 1) (ao := ao) (k := K) (cap := cap) (ps := ps) q hKN (by simp) fun z => ?_;refine dW ?_;refine sW ?_;refine eW ?_;refine ah ?_;refine rW [] ?_;refine dE (dR (a := j) (by omega)) ?_;refine dW ?_;refine eW ?_;refine ah ?_;exact cf (⟨j + 1, K + 1, z.1, z.2, ps ++ [q]⟩ : B2X) ⟨⟨h', by show i * c + (j + 1) = K + 1; have := HT.out.2; omega⟩, by show c - (j + 1) < c - j; omega⟩
   · obtain rfl : j = c := by omega
     have HK : Hid ((i + 1) * j = K) := hi_ (by rw [Nat.succ_mul]; exact hK);clear hK;refine ah ?_;refine rW [] ?_;refine dB false ?_;refine eW ?_;refine ah ?_;refine dT ?_;refine ah ?_;refine rW [] ?_;refine dE (dR (a := i) (by omega)) ?_;refine dW ?_;refine eW ?_;refine ah ?_;exact cf (⟨i + 1, K, ao, cap, ps⟩ : B1X) ⟨⟨h, HK.out⟩, by show r - (i + 1) < r - i; omega⟩
 · obtain rfl : i = r := by omega
   obtain rfl : K = N := by rw [<- hK]; exact HN.out
   clear hK;refine ah ?_;refine rW [] ?_;refine dB false ?_;refine eW ?_;refine ah ?_;refine dT ?_;refine ah ?_;refine rW [] ?_;refine dW ?_;refine sW ?_;refine eW ?_;refine ah ?_;refine ei fun w' H => ?_;exact ⟨_, uK H.m1, ⟨ao, cap, rfl, oX H.m2 H.m3, (show rR ao K cap ps w' from H.m2).2.1, fun b o e => (H.own (.kY ao K cap ps) (by simp) rfl b ⟨o, e⟩).elim (fun h => h.elim) id⟩, H.below⟩
theorem Fr.rlF {S0 : Nat -> Prop} {w0 w : World} {es : List En} (h : Fr S0 w0 w es) {ao : Option Addr} {cs : List Value} (hx : u4 ao cs w) (hS : ∀ e ∈ es, e.wr = false) : Fr S0 w0 w (.rl ao cs :: es) :=
 h.cons hx (fun e he => ⟨(fun q => nomatch q), fun q => by rw [hS e he] at q; cases q⟩) (fun q => nomatch q)
theorem u4.below {ao : Option Addr} {cs : List Value} {w w' : World} (h : u4 ao cs w) (hb : Below w.heap.size w w') : u4 ao cs w' := fun hl => by
 obtain ⟨b, e, hlt, hc⟩ := h hl;exact ⟨b, e, Nat.lt_of_lt_of_le hlt hb.size, fun i v hv => (hb.cell (p := ⟨b, i, none⟩) hlt).trans (hc i v hv)⟩
def eO (i j : Nat) : Int := if i = j then 1 else 0
theorem zj (i j : Nat) (w : World) : Calls Tryz.prog 66 #[.int .i64 (i : Int), .int .i64 (j : Int)] w fun e w' => (∃ v, e = .returned v /\ aj w' w.heap.size v (eO i j)) /\ Below w.heap.size w w' := by
 refine bS (S0 := fun _ => False) Tryz.func66 (Fr.nil _ w) ?_;by_cases h : i = j
 · subst h;rw [show eO i i = 1 from if_pos rfl];refine ah ?_;refine rW [] ?_;refine aW fun g4 => ?_;refine eW ?_;refine ah ?_;refine rW [] ?_;refine dW ?_;refine dW ?_;refine dB true ?_;refine eW ?_;refine ah ?_;refine fB ?_;refine ah ?_;refine rW [] ?_;refine cN (fun w' H => ko 1 w' (by omega) (by omega)) fun q => ?_;refine sW ?_;refine eW ?_;refine ah ?_;refine ei fun w' H => ?_;exact ⟨_, jB H.m1, ⟨_, rfl, H.m0⟩, H.below⟩
 · rw [show eO i j = 0 from if_neg h];have h01 : ¬ (i : Int) = (j : Int) := by omega
   refine ah ?_;refine rW [] ?_;refine aW fun g4 => ?_;refine eW ?_;refine ah ?_;refine rW [] ?_;refine dW ?_;refine dW ?_;refine dB false ?_;refine eW ?_;refine ah ?_;refine dT ?_;refine ah ?_;refine rW [] ?_;refine dW ?_;refine sW ?_;refine eW ?_;refine ah ?_;refine ei fun w' H => ?_;exact ⟨_, jB H.m0, ⟨_, rfl, aj.zero _ _⟩, H.below⟩
theorem y5 (n : Nat) (w : World) (hn : n <= 64) : Calls Tryz.prog 29 #[.int .i64 (n : Int)] w fun e w' => (∃ p : Option Addr × Nat, e = .returned (.tuple #[.agg #[.int .i64 (n : Int), .int .i64 (n : Int), .slice p.1 (n * n) p.2], .int .i64 0]) /\ ik w' p.1 (c8 n eO (n * n)) /\ True /\ ∀ b o, p.1 = some ⟨b, o, none⟩ -> w.heap.size <= b) /\ Below w.heap.size w w' := by
 have s1 : bJ (n : Int) = true := by unfold bJ; simp; omega
 have hS1 : ∀ w', Calls Tryz.prog 34 #[.int .i64 (n : Int)] w' fun e w'' => e = .returned (.bool true) /\ Below w'.heap.size w' w'' := fun w' => (rZ n w').mono fun e w'' ⟨h1, h2⟩ => ⟨by rw [h1, s1], h2 ▸ Below.refl _ _⟩;clear s1;refine bS (S0 := fun _ => False) Tryz.func29 (Fr.nil _ w) ?_;refine ah ?_;refine rW [] ?_;refine aW fun g2 => ?_;refine dW ?_;refine eW ?_;refine ah ?_;refine rW [] ?_;refine dW ?_;refine cV (v := .bool true) (fun w' H => hS1 w') ?_;refine dW ?_;refine eW ?_;refine ah ?_;refine dT ?_;refine ah ?_;refine rW [] ?_;refine dW ?_;refine dW ?_;refine uP (α := Option Addr × Nat) (mk := fun p => .agg #[.int .i64 (n : Int), .int .i64 (n : Int), .slice p.1 (n * n) p.2]) (ao := fun p => p.1) (xs := fun _ => c8 n eO (n * n)) (A := fun _ => True) (fun w' H => (qP 66 (fun _ _ => by go_simp) #[] n n eO w' hn hn (fun i j w2 hi hj hb => zj i j w2)).mono (by
  rintro e w3 ⟨⟨ao, cap', rfl, hl, _, hS⟩, hb⟩;exact ⟨⟨(ao, cap'), rfl, hl, trivial, hS⟩, hb⟩)) fun q => ?_
 refine sW ?_;refine dW ?_;refine eW ?_;refine ah ?_;refine iO fun w' H => ?_;exact ⟨_, _, uK H.m2, ee, ⟨q, rfl, H.m0, trivial, (show True /\ ∀ b o, q.1 = some ⟨b, o, none⟩ -> w.heap.size <= b from H.m1).2⟩, H.below⟩
def fv (m : Nat) (xs : List Int) (rs cs : List Nat) (i j : Nat) : Int := gi xs (rs.getD i 0 * m + cs.getD j 0)
def nI (ao : Option Addr) (cs : List Value) (w : World) : Prop := 0 < cs.length -> ∃ b o, ao = some ⟨b, o, none⟩ /\ b < w.heap.size /\ ∀ (i : Nat) v, cs[i]? = some v -> w.cell? ⟨b, o + i, none⟩ = some v
abbrev En.yM (ao : Option Addr) (cs : List Value) : En := .fact false false (fun g => 0 < cs.length /\ ∃ o, ao = some ⟨g, o, none⟩) (nI ao cs)
 (fun h b ⟨hl, o, e⟩ => by
  obtain ⟨b', o', e', hb, _⟩ := h hl;rw [e] at e'; cases e'; exact hb)
 (fun {w w' T} h hc _ hs hl => by
  obtain ⟨b, o, e, hb, hcl⟩ := h hl;exact ⟨b, o, e, Nat.lt_of_lt_of_le hb hc.size, fun i v hv => (hc.cell (p := ⟨b, o + i, none⟩) hb (hs b ⟨hl, o, e⟩)).trans (hcl i v hv)⟩)
theorem nI.below {ao : Option Addr} {cs : List Value} {w w' : World} (h : nI ao cs w) (hb : Below w.heap.size w w') : nI ao cs w' := fun hl => by
 obtain ⟨b, o, e, hlt, hc⟩ := h hl;exact ⟨b, o, e, Nat.lt_of_lt_of_le hlt hb.size, fun i v hv => (hb.cell (p := ⟨b, o + i, none⟩) hlt).trans (hc i v hv)⟩
theorem Fr.rloF {S0 : Nat -> Prop} {w0 w : World} {es : List En} (h : Fr S0 w0 w es) {ao : Option Addr} {cs : List Value} (hx : nI ao cs w) (hS : ∀ e ∈ es, e.wr = false) : Fr S0 w0 w (.yM ao cs :: es) :=
 h.cons hx (fun e he => ⟨(fun q => nomatch q), fun q => by rw [hS e he] at q; cases q⟩) (fun q => nomatch q)
section
variable {P : Program} {Q : Exit -> Act -> World -> Prop} {ds : List Deferred} {S0 : Nat -> Prop} {w0 : World} {n : Nat} {ls : List (Nat × Value)} {es : List En} {c : Code}
theorem rloW {ao : Option Addr} {cs : List Value} {v : Value} (i : Nat) (hm : En.yM ao cs ∈ es) (hi : cs[i]? = some v) (k : ∀ b o, ao = some ⟨b, o, none⟩ -> eP ds P n S0 w0 c Q ls (.cell ⟨b, o + i, none⟩ v :: es)) : eP ds P n S0 w0 c Q ls es := fun a w ha hw => by
 have hl : 0 < cs.length := by have := (List.getElem?_eq_some_iff.1 hi).1; omega
 obtain ⟨b, o, e, hb, hc⟩ := (hw.all _ hm : nI ao cs w) hl;exact k b o e a w ha (hw.cellOf hm rfl ⟨hl, o, e⟩ (hc i v hi))
end
theorem y4 (i j ga gr gc n m nm cap k1 c1 k2 c2 L : Nat) (ao ro co : Option Addr) (rs cs : List Nat) (xs : List Int) (w : World) (h1 : w.cell? ⟨ga, 1, none⟩ = some (.int .i64 (m : Int))) (h2 : w.cell? ⟨ga, 2, none⟩ = some (.slice ao nm cap)) (h3 : w.cell? ⟨gr, 0, none⟩ = some (.slice ro k1 c1)) (h4 : w.cell? ⟨gc, 0, none⟩ = some (.slice co k2 c2))
 (hR : nI ro (iL rs) w) (hC : u4 co (iL cs) w) (hA : aL w L ao xs) (hL : L <= 17592186044415) (hk1 : rs.length = k1) (hk2 : cs.length = k2) (hs : xs.length = n * m) (hnm : xs.length = nm) (hi : i < k1) (hj : j < k2) (hri : rs.getD i 0 < n) (hcj : cs.getD j 0 < m) (hn : n <= 64) (hm : m <= 64) :
 Calls Tryz.prog 57 #[.int .i64 (i : Int), .int .i64 (j : Int), .pointer (some ⟨ga, 0, none⟩), .pointer (some ⟨gr, 0, none⟩), .pointer (some ⟨gc, 0, none⟩)] w fun e w' => (∃ v, e = .returned v /\ aj w' w.heap.size v (gi xs (rs.getD i 0 * m + cs.getD j 0))) /\ Below w.heap.size w w' := by
 obtain ⟨q, hq⟩ : ∃ q, rs.getD i 0 = q := ⟨_, rfl⟩;obtain ⟨p, hp⟩ : ∃ p, cs.getD j 0 = p := ⟨_, rfl⟩;have kr := np [] (by rw [hk1]; exact hi) hq;have kc := np [] (by rw [hk2]; exact hj) hp;rw [List.append_nil] at kr kc;rw [hq] at hri ⊢;rw [hp] at hcj ⊢;have hlt := jb hri hcj;have hb1 : q * m <= 4096 := Nat.mul_le_mul (show q <= 64 by omega) hm;obtain ⟨t, ht⟩ : ∃ t, q * m + p = t := ⟨_, rfl⟩;have htl : t < nm := by omega
 have htx : t < xs.length := by omega
 obtain ⟨bx, ox, rfl⟩ := hA.pos htx;have HA : Fr (fun _ => False) w w [.cell ⟨gc, 0, none⟩ (.slice co k2 c2), .cell ⟨gr, 0, none⟩ (.slice ro k1 c1), .cell ⟨ga, 2, none⟩ (.slice (some ⟨bx, ox, none⟩) nm cap), .cell ⟨ga, 1, none⟩ (.int .i64 (m : Int)), .rl co (iL cs), .yM ro (iL rs), .ls L (some ⟨bx, ox, none⟩) xs] :=
  Fr.cl (Fr.cl (Fr.cl (Fr.cl ((((Fr.nil _ w).l hA (by simp)).rloF hR (by simp [En.wr])).rlF hC (by simp [En.wr])) h1 (by simp [En.wr])) h2 (by simp [En.wr])) h3 (by simp [En.wr])) h4 (by simp [En.wr])
 have HS := hi_ (And.intro hs hnm);rw [ht];have HT := hi_ ht;clear hs hnm hR hC hA h1 h2 h3 h4 hlt hk1 hk2 hq hp ht;refine bS (S0 := fun _ => False) Tryz.func57 HA ?_;clear HA;refine ah ?_;refine rloW (ao := ro) (cs := iL rs) (v := .int .i64 (q : Int)) i (by simp) kr fun rb rof hrb => ?_;subst hrb;refine rlW (ao := co) (cs := iL cs) (v := .int .i64 (p : Int)) j (by simp) kc fun cb hcb => ?_;subst hcb;refine rO (L := L) (xs := xs) (b := bx) (o := ox) t (by simp) htx fun pv => ?_;have h01 : (i : Int) < (k1 : Int) := by omega
 have h02 : (j : Int) < (k2 : Int) := by omega
 have h03 : (t : Int) < (nm : Int) := by omega
 refine rW [] ?_;refine aW fun g7 => ?_;refine eW ?_;refine ah ?_;refine rW [] ?_;(iterate 8 refine dW ?_);refine dE (qJ (a := q) (b := m) (by omega)) ?_;(iterate 4 refine dW ?_);refine dE ((AN (a := q * m) (b := p) (by omega)).trans (by rw [HT.out])) ?_;refine dW ?_;refine dW ?_;refine cN (fun w' H => fM (av pv) (gi xs t) w' ((H.all (.at L (av pv) (gi xs t)) (by simp [av]) : ai ..).mono hL)) fun q2 => ?_;refine sW ?_;refine eW ?_;refine ah ?_;refine ei fun w' H => ?_;exact ⟨_, jB (H.all (.row g7 37 [.bool q2.1, .slice q2.2.1 q2.2.2.1 q2.2.2.2]) (by simp)), ⟨_, rfl, H.all (.own w.heap.size (av q2) (gi xs t)) (by simp [av])⟩, H.below⟩
theorem yk (n m nm cap k1 c1 k2 c2 L : Nat) (ao ro co : Option Addr) (rs cs : List Nat) (xs : List Int) (w : World) (hR : nI ro (iL rs) w) (hC : u4 co (iL cs) w) (hA : aL w L ao xs) (hL : L <= 17592186044415) (hk1 : rs.length = k1) (hk2 : cs.length = k2) (hs : xs.length = n * m) (hnm : xs.length = nm) (hr : ∀ i < k1, rs.getD i 0 < n) (hc : ∀ j < k2, cs.getD j 0 < m) (hn : n <= 64) (hm : m <= 64) (h1 : k1 <= 64) (h2 : k2 <= 64) :
 Calls Tryz.prog 26 #[.agg #[.int .i64 (n : Int), .int .i64 (m : Int), .slice ao nm cap], .slice ro k1 c1, .slice co k2 c2] w fun e w' => (∃ p : Option Addr × Nat, e = .returned (.tuple #[.agg #[.int .i64 (k1 : Int), .int .i64 (k2 : Int), .slice p.1 (k1 * k2) p.2], .int .i64 0]) /\ ik w' p.1 (c8 k2 (fv m xs rs cs) (k1 * k2)) /\ True /\ ∀ b o, p.1 = some ⟨b, o, none⟩ -> w.heap.size <= b) /\ Below w.heap.size w w' := by
 have hCk : ∀ w', Calls Tryz.prog 7 #[.agg #[.int .i64 (n : Int), .int .i64 (m : Int), .slice ao nm cap]] w' fun e w'' => e = .returned (.int .i64 0) /\ Below w'.heap.size w' w'' := fun w' => by
  have := cJ (n : Int) (m : Int) ao nm cap w' (by omega) (by omega);rw [dC (by unfold aR bJ; rw [<- hnm, hs]; simp; omega)] at this; exact this
 have kr := fun i (hi : i < k1) q (hq : rs.getD i 0 = q) => np [] (by rw [hk1]; exact hi) hq;have kc := fun i (hi : i < k2) q (hq : cs.getD i 0 = q) => np [] (by rw [hk2]; exact hi) hq;simp only [List.append_nil] at kr kc;have HA : Fr (fun _ => False) w w [.rl co (iL cs), .yM ro (iL rs), .ls L ao xs] := (((Fr.nil _ w).l hA (by simp)).rloF hR (by simp [En.wr])).rlF hC (by simp [En.wr]);have HP := hi_ (fun i j ga gr gc (w' : World) a1 a2 a3 a4 a5 a6 a7 hi hj => y4 i j ga gr gc n m nm cap k1 c1 k2 c2 L ao ro co rs cs xs w' a1 a2 a3 a4 a5 a6 a7 hL hk1 hk2 hs hnm hi hj (hr i hi) (hc j hj) hn hm);have HC := hi_ hCk;have HK := hi_ (And.intro kr (And.intro kc (And.intro hr hc)));clear hCk kr kc hR hC hA hs hnm hr hc hk1 hk2;refine bS (S0 := fun _ => False) Tryz.func26 HA ?_;clear HA;refine ah ?_;refine rW [] ?_;refine aW fun g3 => ?_;refine aW fun g4 => ?_;refine aW fun g5 => ?_;refine aW fun g6 => ?_;refine dW ?_;refine eW ?_;refine ah ?_;refine rW [] ?_;refine dW ?_;refine cV (v := .int .i64 0) (fun w' H => HC.out w') ?_;refine dW ?_;refine eW ?_;refine ah ?_;refine rW [] ?_;refine dW ?_;refine dB false ?_;refine eW ?_;refine ah ?_;refine dT ?_;refine ah ?_;refine rW [] ?_;(iterate 3 refine dW ?_);refine eW ?_;refine ah ?_;refine cI (X := Nat) (fun k => k <= k1) (fun k => k1 - k) (fun k => [(21, .int .i64 (k : Int)), (20, .int .i64 (k1 : Int)), (19, .slice ro k1 c1), (3, .pointer (some ⟨g3, 0, none⟩)), (4, .pointer (some ⟨g4, 0, none⟩)), (5, .pointer (some ⟨g5, 0, none⟩)), (6, .pointer (some ⟨g6, 0, none⟩))])
  (fun _ => [.row g6 24 [.int .i64 0, .int .i64 0, .slice none 0 0], .row g5 34 [.slice co k2 c2], .row g4 34 [.slice ro k1 c1], .row g3 24 [.int .i64 (n : Int), .int .i64 (m : Int), .slice ao nm cap], .rl co (iL cs), .yM ro (iL rs), .ls L ao xs]) 0 (Nat.zero_le _) fun k hk => ?_
 by_cases h : k < k1
 · have h01 : (k : Int) < (k1 : Int) := by omega
   refine ah ?_;refine rW [] ?_;refine dB true ?_;refine eW ?_;refine ah ?_;obtain ⟨q, hq⟩ : ∃ q, rs.getD k 0 = q := ⟨_, rfl⟩;have hqn : q < n := by rw [<- hq]; exact HK.out.2.2.1 k h
   have kr := HK.out.1 k h q hq;clear hq;refine rloW (ao := ro) (cs := iL rs) (v := .int .i64 (q : Int)) k (by simp) kr fun rb rof hrb => ?_;subst hrb;have h02 : ¬ (q : Int) < 0 := by omega
   have h03 : ¬ (n : Int) <= (q : Int) := by omega
   refine fB ?_;refine ah ?_;refine rW [] ?_;(iterate 3 refine dW ?_);refine eW ?_;refine ah ?_;refine rW [] ?_;refine dW ?_;refine dB false ?_;refine dW ?_;(iterate 3 refine dG ?_);refine rJ false ?_;refine dW ?_;refine eW ?_;refine ah ?_;refine dT ?_;refine ah ?_;refine rW [] ?_;refine dE (dR (a := k) (by omega)) ?_;refine dW ?_;refine eW ?_;refine ah ?_;exact cf (k + 1) ⟨h, by omega⟩
 · obtain rfl : k1 = k := by omega
   refine ah ?_;refine rW [] ?_;refine dB false ?_;refine eW ?_;refine ah ?_;refine dT ?_;refine ah ?_;refine rW [] ?_;(iterate 3 refine dW ?_);refine eW ?_;refine ah ?_;refine cI (X := Nat) (fun k => k <= k2) (fun k => k2 - k) (fun k => [(37, .int .i64 (k : Int)), (36, .int .i64 (k2 : Int)), (35, .slice co k2 c2), (3, .pointer (some ⟨g3, 0, none⟩)), (4, .pointer (some ⟨g4, 0, none⟩)), (5, .pointer (some ⟨g5, 0, none⟩)), (6, .pointer (some ⟨g6, 0, none⟩))])
    (fun _ => [.row g6 24 [.int .i64 0, .int .i64 0, .slice none 0 0], .row g5 34 [.slice co k2 c2], .row g4 34 [.slice ro k1 c1], .row g3 24 [.int .i64 (n : Int), .int .i64 (m : Int), .slice ao nm cap], .rl co (iL cs), .yM ro (iL rs), .ls L ao xs]) 0 (Nat.zero_le _) fun k hk' => ?_
   by_cases h : k < k2
   · have h01 : (k : Int) < (k2 : Int) := by omega
     refine ah ?_;refine rW [] ?_;refine dB true ?_;refine eW ?_;refine ah ?_;obtain ⟨q, hq⟩ : ∃ q, cs.getD k 0 = q := ⟨_, rfl⟩;have hqn : q < m := by rw [<- hq]; exact HK.out.2.2.2 k h
     have kc := HK.out.2.1 k h q hq;clear hq;refine rlW (ao := co) (cs := iL cs) (v := .int .i64 (q : Int)) k (by simp) kc fun cb hcb => ?_;subst hcb;have h02 : ¬ (q : Int) < 0 := by omega
     have h03 : ¬ (m : Int) <= (q : Int) := by omega
     refine fB ?_;refine ah ?_;refine rW [] ?_;(iterate 3 refine dW ?_);refine eW ?_;refine ah ?_;refine rW [] ?_;refine dW ?_;refine dB false ?_;refine dW ?_;(iterate 3 refine dG ?_);refine rJ false ?_;refine dW ?_;refine eW ?_;refine ah ?_;refine dT ?_;refine ah ?_;refine rW [] ?_;refine dE (dR (a := k) (by omega)) ?_;refine dW ?_;refine eW ?_;refine ah ?_;exact cf (k + 1) ⟨h, by omega⟩
   · obtain rfl : k2 = k := by omega
     refine ah ?_;refine rW [] ?_;refine dB false ?_;have h04 : ¬ (64 : Int) < (k1 : Int) := by omega
     have h05 : ¬ (64 : Int) < (k2 : Int) := by omega
     refine eW ?_;refine ah ?_;refine dT ?_;refine ah ?_;refine rW [] ?_;refine dW ?_;refine dW ?_;refine dB false ?_;refine dW ?_;refine dG ?_;refine dG ?_;refine rJ false ?_;refine dW ?_;refine eW ?_;refine ah ?_;refine dT ?_;refine ah ?_;refine rW [] ?_;(iterate 4 refine dW ?_);refine fW ?_;refine uP (α := Option Addr × Nat) (mk := fun p => .agg #[.int .i64 (k1 : Int), .int .i64 (k2 : Int), .slice p.1 (k1 * k2) p.2]) (ao := fun p => p.1) (xs := fun _ => c8 k2 (fv m xs rs cs) (k1 * k2)) (A := fun _ => True) (fun w' H => (qP 57 (fun _ _ => by go_simp) #[.pointer (some ⟨g3, 0, none⟩), .pointer (some ⟨g4, 0, none⟩), .pointer (some ⟨g5, 0, none⟩)] k1 k2 (fv m xs rs cs) w' h1 h2 (fun i j w2 hi hj hb => by
      have a1 : aa w' g3 24 [.int .i64 (n : Int), .int .i64 (m : Int), .slice ao nm cap] := H.all (.row g3 24 [.int .i64 (n : Int), .int .i64 (m : Int), .slice ao nm cap]) (by simp);have a2 : aa w' g4 34 [.slice ro k1 c1] := H.all (.row g4 34 [.slice ro k1 c1]) (by simp);have a3 : aa w' g5 34 [.slice co k2 c2] := H.all (.row g5 34 [.slice co k2 c2]) (by simp);have a4 : nI ro (iL rs) w' := H.all (.yM ro (iL rs)) (by simp);have a5 : u4 co (iL cs) w' := H.all (.rl co (iL cs)) (by simp);have a6 : aL w' L ao xs := H.all (.ls L ao xs) (by simp);exact HP.out i j g3 g4 g5 w2 ((a1.below hb a1.lt).cell 1) ((a1.below hb a1.lt).cell 2) ((a2.below hb a2.lt).cell 0) ((a3.below hb a3.lt).cell 0) (a4.below hb) (a5.below hb) (a6.below hb) hi hj)).mono (by
      rintro e w3 ⟨⟨ao, cap', rfl, hl, _, hS⟩, hb⟩;exact ⟨⟨(ao, cap'), rfl, hl, trivial, hS⟩, hb⟩)) fun q => ?_
     refine sW ?_;refine dW ?_;refine eW ?_;refine ah ?_;refine iO fun w' H => ?_;exact ⟨_, _, uK (H.all (.row g6 24 [.int .i64 (k1 : Int), .int .i64 (k2 : Int), .slice q.1 (k1 * k2) q.2]) (by simp)), ee, ⟨q, rfl, H.m0, trivial, (show True /\ ∀ b o, q.1 = some ⟨b, o, none⟩ -> w.heap.size <= b from H.m1).2⟩, H.below⟩
theorem u4.yM {ao : Option Addr} {cs : List Value} {w : World} (h : u4 ao cs w) : nI ao cs w := fun hl => by
 obtain ⟨b, e, hb, hc⟩ := h hl;exact ⟨b, 0, e, hb, fun i v hv => by rw [Nat.zero_add]; exact hc i v hv⟩
theorem tw (n m nm cap k1 c1 k2 c2 L : Nat) (ao ro co : Option Addr) (rs cs : List Nat) (xs : List Int) (w : World) (hR : u4 ro (iL rs) w) (hC : u4 co (iL cs) w) (hA : aL w L ao xs) (hL : L <= 17592186044415) (hk1 : rs.length = k1) (hk2 : cs.length = k2) (hs : xs.length = n * m) (hnm : xs.length = nm) (hr : ∀ i < k1, rs.getD i 0 < n) (hc : ∀ j < k2, cs.getD j 0 < m) (hn : n <= 64) (hm : m <= 64) (h1 : k1 <= 64) (h2 : k2 <= 64) :
 Calls Tryz.prog 26 #[.agg #[.int .i64 (n : Int), .int .i64 (m : Int), .slice ao nm cap], .slice ro k1 c1, .slice co k2 c2] w fun e w' => (∃ p : Option Addr × Nat, e = .returned (.tuple #[.agg #[.int .i64 (k1 : Int), .int .i64 (k2 : Int), .slice p.1 (k1 * k2) p.2], .int .i64 0]) /\ ik w' p.1 (c8 k2 (fv m xs rs cs) (k1 * k2)) /\ True /\ ∀ b o, p.1 = some ⟨b, o, none⟩ -> w.heap.size <= b) /\ Below w.heap.size w w' := yk n m nm cap k1 c1 k2 c2 L ao ro co rs cs xs w hR.yM hC hA hL hk1 hk2 hs hnm hr hc hn hm h1 h2
section
variable {P : Program} {S0 : Nat -> Prop} {w0 : World} {n : Nat} {ls : List (Nat × Value)} {es : List En} {fn : Func} {R : Ending -> World -> Prop}
theorem fin4 {a b c d : Nat} {ty : TypeId} (k : ∀ w, Fr S0 w0 w es -> ∃ v v' v2 v3, eJ P ls w (.tmp a) v /\ eJ P ls w (.tmp b) v' /\ eJ P ls w (.cell c ty) v2 /\ eJ P ls w (.tmp d) v3 /\ R (.returned (.tuple #[v, v', v2, v3])) w) (h : fn.results = #[.tmp a, .tmp b, .cell c ty, .tmp d] := by rfl) : QW n S0 w0 (bodyPost P fn R) .ret ls es := fun a w ha hw => by
 obtain ⟨v, v', v2, v3, h1, h2, h3, h4, hR⟩ := k w hw;refine bodyPost_ret (v := .tuple #[v, v', v2, v3]) ?_ ha.df hR;have e1 := (ha.tmp h1.1).trans (by rw [h1.2]);have e2 := (ha.tmp h2.1).trans (by rw [h2.2]);have e4 := (ha.tmp h4.1).trans (by rw [h4.2]);obtain ⟨h31, ad, h32, h33⟩ := h3;have e3 := (ha.tmp h31).trans (by rw [h32]);simp [results, h, asAddr, *]
theorem fin5 {a b c d e : Nat} {ty ty' : TypeId} (k : ∀ w, Fr S0 w0 w es -> ∃ v v' v2 v3 v4, eJ P ls w (.cell a ty') v /\ eJ P ls w (.tmp b) v' /\ eJ P ls w (.tmp c) v2 /\ eJ P ls w (.cell d ty) v3 /\ eJ P ls w (.tmp e) v4 /\ R (.returned (.tuple #[v, v', v2, v3, v4])) w) (h : fn.results = #[.cell a ty', .tmp b, .tmp c, .cell d ty, .tmp e] := by rfl) : QW n S0 w0 (bodyPost P fn R) .ret ls es := fun a w ha hw => by
 obtain ⟨v, v', v2, v3, v4, h1, h2, h3, h4, h5, hR⟩ := k w hw;refine bodyPost_ret (v := .tuple #[v, v', v2, v3, v4]) ?_ ha.df hR;have e2 := (ha.tmp h2.1).trans (by rw [h2.2]);have e3 := (ha.tmp h3.1).trans (by rw [h3.2]);have e5 := (ha.tmp h5.1).trans (by rw [h5.2]);obtain ⟨h11, ad1, h12, h13⟩ := h1;have e1 := (ha.tmp h11).trans (by rw [h12]);obtain ⟨h41, ad, h42, h43⟩ := h4;have e4 := (ha.tmp h41).trans (by rw [h42]);simp [results, h, asAddr, *]
end
theorem pS {m K k : Nat} {xs : List Int} {rs cs : List Nat} {L : Nat} (h : ∀ x ∈ xs, ag x.natAbs <= L) : ∀ x ∈ c8 k (fv m xs rs cs) K, ag x.natAbs <= L := fun x hx => by
 obtain ⟨q, _, rfl⟩ := List.mem_map.1 hx;unfold fv;by_cases h1 : rs.getD (q / k) 0 * m + cs.getD (q % k) 0 < xs.length
 · exact h _ (jY h1)
 · rw [show gi xs _ = 0 from dY _ _ (by omega)]; simp [aY]
theorem iK.lt {n m k : Nat} {A : Mx} {cs : Nat -> Nat} (h : iK n m A k cs) : k <= n /\ ∀ t < k, ((List.range k).map cs).getD t 0 < m := by
 obtain ⟨nu, R, d, h⟩ := h;exact ⟨h.kn, fun t ht => by have := h.csl t ht; simp [ht]; exact this⟩
def dZ (m : Nat) (xs : List Int) (k : Nat) (c1 c2 : Nat -> Nat) : Int := bK k (aE (c8 k (fv m xs ((List.range k).map c1) ((List.range k).map c2)) (k * k)) k k)
theorem xP (n m nm mw cap : Nat) (ao : Option Addr) (xs : List Int) (w : World) (hn : n <= 64) (hm : m <= 64) (hmw : mw <= 1048577) (hA : aL w mw ao xs) (hs : xs.length = n * m) (hnm : xs.length = nm) (hrk : ∀ k1 c1 k2 c2, iK m n (aE (mj n m xs) m n) k1 c1 -> iK n m (aE xs n m) k2 c2 -> k1 = k2) :
 Calls Tryz.prog 15 #[.agg #[.int .i64 (n : Int), .int .i64 (m : Int), .slice ao nm cap]] w fun e w' => ∃ p : ((Option Addr × Nat) × (Option Addr × Nat)) × (Nat × (Nat -> Nat) × (Nat -> Nat)) × P4, e = .returned (.tuple #[.slice p.1.1.1 p.2.1.1 p.1.1.2, .slice p.1.2.1 p.2.1.1 p.1.2.2, av p.2.2, .int .i64 0]) /\ Nw w w' [.pr (iK m n (aE (mj n m xs) m n) p.2.1.1 p.2.1.2.1 /\ iK n m (aE xs n m) p.2.1.1 p.2.1.2.2), .lg 3 1 p.1.1.1 p.2.1.1 p.1.1.2 (iL ((List.range p.2.1.1).map p.2.1.2.1)), .lg 3 1 p.1.2.1 p.2.1.1 p.1.2.2 (iL ((List.range p.2.1.1).map p.2.1.2.2)), .own w.heap.size (av p.2.2) (dZ m xs p.2.1.1 p.2.1.2.1 p.2.1.2.2)] := by
 have hxb := je hA;have hwx : ∀ x ∈ xs, ag x.natAbs <= mw := fun x hx => au (hxb x hx);have hR := fun w' (h : aL w' mw ao xs) => ud n m nm mw cap ao xs w' hn hm hmw h hs hnm;have hP := fun w' (h : aL w' mw ao xs) => xy n m nm mw cap ao xs w' hn hm hmw h hs hnm;have hK := fun k1 c1 k2 c2 ro co (rs cs : List Nat) w' a1 a2 (a3 : aL w' mw ao xs) a4 a5 a6 a7 a8 a9 => tw n m nm cap k1 c1 k2 c2 mw ao ro co rs cs xs w' a1 a2 a3 (by omega) a4 a5 hs hnm a6 a7 hn hm a8 a9;have HC := hi_ (And.intro hR (And.intro hP (And.intro hK (And.intro hrk hwx))));clear hR hP hK hrk hwx hxb hs hnm;refine bS (S0 := fun _ => False) Tryz.func15 ((Fr.nil _ w).l hA (by simp)) ?_;clear hA;refine ah ?_;refine rW [] ?_;refine aW fun g1 => ?_;refine dW ?_;refine dW ?_;refine aW fun g4 => ?_;refine dW ?_;refine eW ?_;refine ah ?_;refine rW [] ?_;refine dW ?_;refine cG (α := (Option Addr × Nat) × Nat × (Nat -> Nat)) (mk := fun p => .tuple #[.slice p.1.1 p.2.1 p.1.2, .int .i64 0]) (ens := fun p => [.lg 3 1 p.1.1 p.2.1 p.1.2 (iL ((List.range p.2.1).map p.2.2)), .pr (iK m n (aE (mj n m xs) m n) p.2.1 p.2.2)]) (hne := ⟨((none, 0), 0, fun _ => 0)⟩) (fun w' H => HC.out.1 w' (H.all (.ls mw ao xs) (by simp))) fun q1 => ?_;(iterate 5 refine dW ?_);refine eW ?_;refine ah ?_;refine rW [] ?_;refine dW ?_;refine dB false ?_;refine eW ?_;refine ah ?_;refine dT ?_;refine ah ?_;refine rW [] ?_;refine dW ?_;refine cG (α := (Option Addr × Nat) × Nat × (Nat -> Nat)) (mk := fun p => .tuple #[.slice p.1.1 p.2.1 p.1.2, .int .i64 0]) (ens := fun p => [.lg 3 1 p.1.1 p.2.1 p.1.2 (iL ((List.range p.2.1).map p.2.2)), .pr (iK n m (aE xs n m) p.2.1 p.2.2)]) (hne := ⟨((none, 0), 0, fun _ => 0)⟩) (fun w' H => HC.out.2.1 w' (H.all (.ls mw ao xs) (by simp))) fun q2 => ?_;(iterate 4 refine dW ?_);refine eW ?_;refine ah ?_;obtain ⟨⟨ro, rc⟩, k, c1⟩ := q1;obtain ⟨⟨co, cc⟩, k2, c2⟩ := q2;refine sU (A := iK m n (aE (mj n m xs) m n) k c1) (by simp) fun hp1 => ?_;refine sU (A := iK n m (aE xs n m) k2 c2) (by simp) fun hp2 => ?_;obtain rfl : k = k2 := HC.out.2.2.2.1 k c1 k2 c2 hp1 hp2;have hl1 := iK.lt hp1;have hl2 := iK.lt hp2;have hk64 : k <= 64 := by omega
 have HP := hi_ (And.intro hp1 (And.intro hp2 (And.intro hl1.2 hl2.2)));clear hp1 hp2 hl1 hl2;refine rW [] ?_;(iterate 3 refine dW ?_);refine uP (α := Option Addr × Nat) (mk := fun p => .tuple #[.agg #[.int .i64 (k : Int), .int .i64 (k : Int), .slice p.1 (k * k) p.2], .int .i64 0]) (ao := fun p => p.1) (xs := fun _ => c8 k (fv m xs ((List.range k).map c1) ((List.range k).map c2)) (k * k)) (A := fun _ => True) (fun w' H => HC.out.2.2.1 k rc k cc ro co ((List.range k).map c1) ((List.range k).map c2) w' (nE.rl (H.all (.lg 3 1 ro k rc (iL ((List.range k).map c1))) (by simp))) (nE.rl (H.all (.lg 3 1 co k cc (iL ((List.range k).map c2))) (by simp))) (H.all (.ls mw ao xs) (by simp)) (by simp) (by simp) HP.out.2.2.1 HP.out.2.2.2 hk64 hk64) fun t => ?_;(iterate 3 refine dW ?_);refine aW fun g6 => ?_;refine sG ?_;refine dW ?_;refine eW ?_;refine ah ?_;refine rW [] ?_;refine dW ?_;refine vH (x := dZ m xs k c1 c2) (z := .int .i64 0) (fun w' H => AL k (k * k) mw t.2 t.1 _ w' hk64 hmw (ik.po (H.all (.kP t.1 (c8 k (fv m xs ((List.range k).map c1) ((List.range k).map c2)) (k * k))) (by simp)) (pS HC.out.2.2.2.2)) (cU ..) (cU ..)) fun pd => ?_;(iterate 3 refine dW ?_);refine sW ?_;refine dW ?_;refine eW ?_;refine ah ?_;refine rW [] ?_;(iterate 6 refine dW ?_);refine sW ?_;refine dW ?_;refine eW ?_;refine ah ?_;refine fin4 (fun w' H => ?_);have H2 : Fr _ w w' [.lg 3 1 ro k rc (iL ((List.range k).map c1)), .lg 3 1 co k cc (iL ((List.range k).map c2)), .own w.heap.size (av pd) (dZ m xs k c1 c2)] := H.pick (by repeat (first | exact Pk.n | refine Pk.c (by repeat (first | exact Rm.z | apply Rm.s)) ?_));have H3 := H2.pure (e := .pr (iK m n (aE (mj n m xs) m n) k c1 /\ iK n m (aE xs n m) k c2)) ⟨HP.out.1, HP.out.2.1⟩ (fun _ h => h);refine ⟨_, _, _, _, ee, ee, jB (H.all (.row g4 37 [.bool pd.1, .slice pd.2.1 pd.2.2.1 pd.2.2.2]) (by simp)), ee, (((ro, rc), (co, cc)), (k, c1, c2), pd), rfl, H.below, fun e he => ⟨H3.all e he, fun b hb => ?_⟩, H3.sep⟩;have he' := he;simp only [List.mem_cons, List.mem_nil_iff, or_false] at he';rcases he' with rfl | rfl | rfl | rfl
 · exact hb.elim
 · exact (H3.own _ he rfl b hb).elim (fun h => h.elim) id
 · exact (H3.own _ he rfl b hb).elim (fun h => h.elim) id
 · exact hb.elim
def nQ (j : Nat) (x : Int) (vs : List Int) (y : Int) (us : List Int) (d : Int) (k : Nat) : Int := if k < j then 0 else if k = j then x * gi vs k + y * gi us k else (x * gi vs k + y * gi us k) % d
def iN (n j : Nat) (x : Int) (vs : List Int) (y : Int) (us : List Int) (d : Int) : List Int := (List.range n).map (nQ j x vs y us d)
theorem fm (n j : Nat) (x : Int) (vs : List Int) (y : Int) (us : List Int) (d : Int) : (iN n j x vs y us d).length = n := by simp [iN]
theorem ml {n j k : Nat} {x : Int} {vs : List Int} {y : Int} {us : List Int} {d : Int} (h : k < n) : gi (iN n j x vs y us d) k = nQ j x vs y us d k := by
 rw [c7 (by rw [fm]; exact h)]; simp [iN]
structure MxX where
 k : Nat
 ps : List P4
 zs : List Int
structure MxI (n j : Nat) (x : Int) (vs : List Int) (y : Int) (us : List Int) (d : Int) (z : MxX) : Prop where
 hk : z.k <= n
 pl : z.ps.length = n
 zl : z.zs.length = n
 val : ∀ t < n, gi z.zs t = if t < z.k then nQ j x vs y us d t else 0
theorem MxI.next {n j k : Nat} {x y d v : Int} {vs us zs : List Int} {ps ps' : List P4} (h : MxI n j x vs y us d ⟨k, ps, zs⟩) (hk : k < n) (hp : ps'.length = n) (hv : v = nQ j x vs y us d k) : MxI n j x vs y us d ⟨k + 1, ps', zs.set k v⟩ := by
 have zl : zs.length = n := h.zl;refine ⟨hk, hp, by show (zs.set k v).length = n; rw [List.length_set]; exact zl, fun t ht => ?_⟩;show gi (zs.set k v) t = if t < k + 1 then _ else _;rw [gE (by omega)];by_cases e : t = k
 · rw [if_pos e, if_pos (by omega), hv, e]
 · rw [if_neg e];have := h.val t ht;rw [this];show (if t < k then _ else _) = _;by_cases e2 : t < k
   · rw [if_pos e2, if_pos (by omega)]
   · rw [if_neg e2, if_neg (by omega)]
theorem vt (gB n j L : Nat) (x y d : Int) (px py pd : P4) (va wa : Option Addr) (cv cw : Nat) (vs us : List Int) (w : World) (hn : n <= 64) (hj : j < n) (hL : L <= 1000000000) (hd : d ≠ 0) (hx : ai w L (av px) x) (hy : ai w L (av py) y) (hD : ai w L (av pd) d) (c1 : w.cell? ⟨gB, 1, none⟩ = some (.bool pd.1)) (c2 : w.cell? ⟨gB, 2, none⟩ = some (.slice pd.2.1 pd.2.2.1 pd.2.2.2)) (hv : aL w L va vs) (hu : aL w L wa us) (hvl : vs.length = n) (hul : us.length = n) :
 Calls Tryz.prog 92 #[.pointer (some ⟨gB, 0, none⟩), .int .i64 (j : Int), av px, .slice va n cv, av py, .slice wa n cw] w fun e w' => ∃ p : Nat × List P4, e = .returned (.slice (some ⟨p.1, 0, none⟩) n n) /\ Nw w w' [.row p.1 37 (rn p.2 []), .ns p.2 (iN n j x vs y us d), .pr (p.2.length = n)] := by
 have HA : Fr (fun _ => False) w w [.cell ⟨gB, 1, none⟩ (.bool pd.1), .cell ⟨gB, 2, none⟩ (.slice pd.2.1 pd.2.2.1 pd.2.2.2), .ls L va vs, .ls L wa us, .at L (av px) x, .at L (av py) y, .at L (av pd) d] :=
  Fr.cl (Fr.cl (((((Fr.nil _ w).i hD).i hy).i hx |>.l hu (by simp [En.wr, En.at])) |>.l hv (by simp [En.wr, En.at, En.ls])) c2 (by simp [En.wr, En.at, En.ls])) c1 (by simp [En.wr, En.at, En.ls])
 have HN := hi_ (And.intro hvl hul);obtain ⟨bv, ov, rfl, _⟩ := hv (by omega);obtain ⟨bu, ou, rfl, _⟩ := hu (by omega);clear hx hy hD c1 c2 hv hu hvl hul;refine bS (S0 := fun _ => False) Tryz.func92 HA ?_;clear HA;refine ah ?_;refine rW [] ?_;refine aW fun g8 => ?_;refine aW fun g10 => ?_;refine dW ?_;refine eW ?_;refine ah ?_;refine rW [] ?_;refine dW ?_;refine dW ?_;refine mN n n rfl rfl (Nat.le_refl _) (by omega) fun g => ?_;refine dW ?_;refine eW ?_;refine ah ?_;refine rW [] ?_;(iterate 3 refine dW ?_);refine eW ?_;refine ah ?_;refine mQ (e := .ns (List.replicate n p0) (List.replicate n 0)) (fun w' _ => bQ.kF w' n) ?_;refine cI (X := MxX) (MxI n j x vs y us d) (fun z => n - z.k) (fun z => [(20, .int .i64 (z.k : Int)), (19, .int .i64 (n : Int)), (13, .slice (some ⟨g, 0, none⟩) n n), (0, .pointer (some ⟨gB, 0, none⟩)), (1, .int .i64 (j : Int)), (3, .slice (some ⟨bv, ov, none⟩) n cv), (5, .slice (some ⟨bu, ou, none⟩) n cw), (8, .pointer (some ⟨g8, 0, none⟩)), (10, .pointer (some ⟨g10, 0, none⟩))])
  (fun z => [.row g 37 (rn z.ps []), .row g8 37 [.bool px.1, .slice px.2.1 px.2.2.1 px.2.2.2], .row g10 37 [.bool py.1, .slice py.2.1 py.2.2.1 py.2.2.2], .cell ⟨gB, 1, none⟩ (.bool pd.1), .cell ⟨gB, 2, none⟩ (.slice pd.2.1 pd.2.2.1 pd.2.2.2), .ns z.ps z.zs, .ls L (some ⟨bv, ov, none⟩) vs, .ls L (some ⟨bu, ou, none⟩) us, .at L (av px) x, .at L (av py) y, .at L (av pd) d]) ⟨0, List.replicate n p0, List.replicate n 0⟩ ⟨Nat.zero_le _, by simp, by simp, fun t ht => by rw [if_neg (by show ¬ t < 0; omega)]; show gi (List.replicate n 0) t = 0; rw [c7 (by simpa using ht)]; simp⟩ fun z hz => ?_
 obtain ⟨k, ps, zs⟩ := z;have hk : k <= n := hz.hk;have HM : Hid (MxI n j x vs y us d ⟨k, ps, zs⟩) := hi_ hz;clear hz;by_cases h : k < n
 · have h01 : (k : Int) < (n : Int) := by omega
   refine ah ?_;refine rW [] ?_;refine dB true ?_;by_cases h2 : k < j
   · have h02 : (k : Int) < (j : Int) := by omega
     refine eW ?_;refine ah ?_;refine fB ?_;refine ah ?_;refine rW [] ?_;refine dW ?_;refine dW ?_;refine eW ?_;refine ah ?_;refine rW [] ?_;refine dW ?_;refine dW ?_;refine dB true ?_;refine eW ?_;refine ah ?_;refine fB ?_;refine ah ?_;refine rW [] ?_;refine dE (dR (a := k) (by omega)) ?_;refine dW ?_;refine eW ?_;refine ah ?_;exact cf (⟨k + 1, ps, zs⟩ : MxX) ⟨⟨h, HM.out.pl, HM.out.zl, fun t ht => by
      have := HM.out.val t ht;rw [this];show (if t < k then _ else _) = if t < k + 1 then _ else _;by_cases e : t < k
      · rw [if_pos e, if_pos (by omega)]
      · rw [if_neg e];by_cases e2 : t = k
        · rw [if_pos (by omega), e2]; unfold nQ; rw [if_pos h2]
        · rw [if_neg (by omega)]⟩, by show n - (k + 1) < n - k; omega⟩
   · have h02 : ¬ (k : Int) < (j : Int) := by omega
     refine eW ?_;refine ah ?_;refine fB ?_;refine ah ?_;refine rW [] ?_;refine dW ?_;refine dW ?_;refine eW ?_;refine ah ?_;refine rW [] ?_;refine dW ?_;refine dW ?_;refine dB false ?_;refine eW ?_;refine ah ?_;refine rO (L := L) (xs := vs) (b := bv) (o := ov) k (by simp) (by rw [HN.out.1]; exact h) fun pv => ?_;refine rO (L := L) (xs := us) (b := bu) (o := ou) k (by simp) (by rw [HN.out.2]; exact h) fun pu => ?_;refine dT ?_;refine ah ?_;refine rW [] ?_;(iterate 12 refine dW ?_);refine cN (x := y * gi us k) (fun w' H => gL (av py) (av pu) y (gi us k) L L w' (H.all (.at L (av py) y) (by simp [av])) (H.all (.at L (av pu) (gi us k)) (by simp [av])) (by omega)) fun p1 => ?_;refine cN (x := x * gi vs k + y * gi us k) (fun w' H => by
      have a1 : ai w' L (av py) y := H.all (.at L (av py) y) (by simp [av]);have a2 : ai w' L (av pu) (gi us k) := H.all (.at L (av pu) (gi us k)) (by simp [av]);have hw1 : ag (y * gi us k).natAbs <= 17592186044415 := by rw [Int.natAbs_mul]; have := cP y.natAbs (gi us k).natAbs; have := a1.ag; have := a2.ag; omega
      exact gP (av px) (av pv) (av p1) x (gi vs k) (y * gi us k) L L w' (H.all (.at L (av px) x) (by simp [av])) (H.all (.at L (av pv) (gi vs k)) (by simp [av])) (aj.int (H.all (.own w.heap.size (av p1) (y * gi us k)) (by simp [av])) hw1) (by omega)) fun p2 => ?_
     refine ja (e := .ns (ps.set k p2) (zs.set k (x * gi vs k + y * gi us k))) (fun w' H => bQ.set (H.all (.ns ps zs) (by simp)) k (H.all (.own w.heap.size (av p2) (x * gi vs k + y * gi us k)) (by simp [av]) : aj ..).num) ?_;refine dW ?_;refine sN k p2 (by rw [show ps.length = n from HM.out.pl]; exact h) aI.nil rfl ?_;by_cases h3 : j < k
     · have h03 : (j : Int) < (k : Int) := by omega
       refine eW ?_;refine ah ?_;refine rW [] ?_;refine dW ?_;refine dW ?_;refine dB true ?_;have q1 := rH [] (ps := ps.set k p2) (i := k) (by rw [List.length_set, show ps.length = n from HM.out.pl]; exact h);have q2 := rK [] (ps := ps.set k p2) (i := k) (by rw [List.length_set, show ps.length = n from HM.out.pl]; exact h);rw [show gp (ps.set k p2) k = p2 by rw [gV (by rw [List.length_set, show ps.length = n from HM.out.pl]; exact h)]; simp] at q1 q2;refine eW ?_;refine ah ?_;refine fB ?_;refine ah ?_;refine rW [] ?_;(iterate 10 refine dW ?_);refine vH (x := (x * gi vs k + y * gi us k) % d) (z := .int .i64 0) (fun w' H => by
        have a1 : ai w' L (av py) y := H.all (.at L (av py) y) (by simp [av]);have a2 : ai w' L (av pu) (gi us k) := H.all (.at L (av pu) (gi us k)) (by simp [av]);have a3 : ai w' L (av px) x := H.all (.at L (av px) x) (by simp [av]);have a4 : ai w' L (av pv) (gi vs k) := H.all (.at L (av pv) (gi vs k)) (by simp [av]);have hw1 : ag (y * gi us k).natAbs <= L + L := by rw [Int.natAbs_mul]; have := cP y.natAbs (gi us k).natAbs; have := a1.ag; have := a2.ag; omega
        have hw2 : ag (x * gi vs k).natAbs <= L + L := by rw [Int.natAbs_mul]; have := cP x.natAbs (gi vs k).natAbs; have := a3.ag; have := a4.ag; omega
        have hw3 : ag (x * gi vs k + y * gi us k).natAbs <= 17592186044415 := by
         have e1 := Int.natAbs_add_le (x * gi vs k) (y * gi us k);have b1 := bh (x * gi vs k).natAbs;have b2 := bh (y * gi us k).natAbs;have d1 := Nat.pow_le_pow_right (show 0 < W by unfold W; omega) hw2;have d2 := Nat.pow_le_pow_right (show 0 < W by unfold W; omega) hw1;have hlt : (x * gi vs k).natAbs + (y * gi us k).natAbs < W ^ (L + L + 1) := by
          rw [Nat.pow_succ];have : 2 <= W := by unfold W; omega
          have := Nat.mul_le_mul_left (W ^ (L + L)) this;omega
         exact Nat.le_trans (aF e1) (Nat.le_trans (au hlt) (by omega))
        exact rL (av p2) (av pd) _ d w' (aj.int (H.all (.own w.heap.size (av p2) (x * gi vs k + y * gi us k)) (by simp [av])) hw3) ((H.all (.at L (av pd) d) (by simp [av]) : ai ..).mono (by omega)) hd) fun p3 => ?_
       refine ja (e := .ns ((ps.set k p2).set k p3) ((zs.set k (x * gi vs k + y * gi us k)).set k ((x * gi vs k + y * gi us k) % d))) (fun w' H => bQ.set (H.all (.ns (ps.set k p2) (zs.set k (x * gi vs k + y * gi us k))) (by simp)) k (H.all (.own w.heap.size (av p3) ((x * gi vs k + y * gi us k) % d)) (by simp [av]) : aj ..).num) ?_;(iterate 4 refine dW ?_);refine sN (ps := ps.set k p2) k p3 (by rw [List.length_set, show ps.length = n from HM.out.pl]; exact h) aI.nil rfl ?_;refine eW ?_;refine ah ?_;refine rW [] ?_;refine dE (dR (a := k) (by omega)) ?_;refine dW ?_;refine eW ?_;refine ah ?_;exact cf (⟨k + 1, ps.set k p3, zs.set k ((x * gi vs k + y * gi us k) % d)⟩ : MxX) ⟨HM.out.next h (by rw [List.length_set]; exact HM.out.pl) (by unfold nQ; rw [if_neg h2, if_neg (by omega)]), by show n - (k + 1) < n - k; omega⟩ (he := by
        intro w' h';rw [List.set_set, List.set_set] at h';exact h'.pick (by repeat (first | exact Pk.n | refine Pk.c (by repeat (first | exact Rm.z | apply Rm.s)) ?_)))
     · have h03 : ¬ (j : Int) < (k : Int) := by omega
       refine eW ?_;refine ah ?_;refine rW [] ?_;refine dW ?_;refine dW ?_;refine dB false ?_;refine eW ?_;refine ah ?_;refine dT ?_;refine ah ?_;refine rW [] ?_;refine dE (dR (a := k) (by omega)) ?_;refine dW ?_;refine eW ?_;refine ah ?_;exact cf (⟨k + 1, ps.set k p2, zs.set k (x * gi vs k + y * gi us k)⟩ : MxX) ⟨HM.out.next h (by rw [List.length_set]; exact HM.out.pl) (by unfold nQ; rw [if_neg h2, if_pos (by omega)]), by show n - (k + 1) < n - k; omega⟩
 · obtain rfl : n = k := by omega
   have hE : zs = iN n j x vs y us d := by
    refine List.ext_getElem (by rw [fm]; exact HM.out.zl) fun t h1 h2 => ?_;have ht : t < n := by rw [fm] at h2; exact h2
    have := HM.out.val t ht;rw [if_pos (show t < n from ht), c7 h1] at this;rw [this, <- ml ht, c7 h2]
   have HE := hi_ hE;clear hE;refine ah ?_;refine rW [] ?_;refine dB false ?_;refine eW ?_;refine ah ?_;refine dT ?_;refine ah ?_;refine rW [] ?_;refine dW ?_;refine dW ?_;refine eW ?_;refine ah ?_;refine ei fun w' H => ?_;refine ⟨_, ee, (g, ps), rfl, H.below, fun e he => ?_, ?_⟩
   · simp only [List.mem_cons, List.mem_nil_iff, or_false] at he;rcases he with rfl | rfl | rfl
     · exact ⟨H.m0, fun b hb => (H.own _ (List.mem_cons_self ..) rfl b hb).elim (fun h => h.elim) id⟩
     · exact ⟨by rw [<- HE.out]; exact H.all (.ns ps zs) (by simp), fun _ h => h.elim⟩
     · exact ⟨HM.out.pl, fun _ h => h.elim⟩
   · refine .cons (fun x hx => ?_) (.cons (fun x hx => ?_) (List.pairwise_singleton ..))
     · simp only [List.mem_cons, List.mem_nil_iff, or_false] at hx;rcases hx with rfl | rfl
       · exact ⟨fun _ _ _ h => h, fun q => nomatch q⟩
       · exact ⟨fun _ _ _ h => h, fun q => nomatch q⟩
     · rcases List.mem_singleton.1 hx with rfl;exact ⟨(fun q => nomatch q), (fun q => nomatch q)⟩
end Go.Proofs.YtjjlmfmoihooiaaGreat
