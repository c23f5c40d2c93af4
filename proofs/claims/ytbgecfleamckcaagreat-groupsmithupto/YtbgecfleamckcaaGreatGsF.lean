/- Part 6 of 9 of the proof that the law GroupSmith returns true for every input of bulk at most 1048576 and leaves its arguments as they were. -/
import Derived.Test.YtbgecfleamckcaaGreatGsE
set_option linter.all false
set_option maxRecDepth 100000
set_option maxHeartbeats 4000000
namespace Go.Proofs.YtbgecfleamckcaaGreat
open Go.RowKit
def nn (r c : Nat) (R : List Nat) (xs : List Int) : Prop := ∀ hs k l, bP r c xs hs k l -> (fy r c hs -> aC (aT c (min r c) hs) = R) /\ (¬ fy r c hs -> ∀ ts k' l', bP c r (jf r c hs) ts k' l' -> fy r c (jf c r ts) /\ aC (aT c (min r c) (jf c r ts)) = R)
structure F2X where
 rows : Bool
 ao : Option Addr
 cap : Nat
 hs : List Int
structure F2I (r c M1 M2 : Nat) (R : List Nat) (xs : List Int) (z : F2X) : Prop where
 len : z.hs.length = r * c
 ok : (z.rows = false /\ (∃ k l, bP r c xs z.hs k l) /\ ∀ x ∈ z.hs, x.natAbs < W ^ M1) \/ (z.rows = true /\ fy r c z.hs /\ aC (aT c (min r c) z.hs) = R /\ ∀ x ∈ z.hs, x.natAbs < W ^ M2)
theorem xR (r c m : Nat) (ao : Option Addr) (cap : Nat) (R : List Nat) (xs : List Int) (w : World) (hr : r <= 64) (hc : c <= 64) (h : bc w 17592186044415 ao xs) (hm : ∀ x ∈ xs, x.natAbs < W ^ m) (hm1 : m <= 1048576) (hs : xs.length = r * c) (hd : nn r c R xs) :
 Calls Tryz.prog 31 #[.agg #[.int .i64 (r : Int), .int .i64 (c : Int), .slice ao (r * c) cap]] w fun e w' => (∃ p : Option Addr × Nat, e = .returned (.tuple #[.agg #[.int .i64 (r : Int), .int .i64 (c : Int), .slice p.1 (r * c) p.2], .int .i64 0]) /\ dw w' p.1 (bD c (aS (nt R)) (r * c)) /\ R.length = min r c /\ ∀ b o, p.1 = some ⟨b, o, none⟩ -> w.heap.size <= b) /\ Below w.heap.size w w' := by
 have hF := fun w' h => qT r c m ao cap xs w' hr hc h hm (by omega) hs;have ehw : ∀ m, hW m = 132 * m + 133 := fun m => by unfold hW fz; omega
 have hm2 : hW m <= 140000000 := by rw [ehw]; omega
 have hm3 : hW (hW m) * 64 + 1 <= 8796093022207 := by rw [ehw, ehw]; omega
 have hm4 : hW m <= hW (hW m) := by rw [ehw (hW m)]; omega
 clear ehw;have hT := fun w' ao cap (hs' : List Int) h (hB : ∀ x ∈ hs', x.natAbs < W ^ hW m) (hl : hs'.length = r * c) => pQ r c (hW m) ao cap hs' w' hr hc h hB hm2 hl;obtain ⟨M1, hM1⟩ : ∃ M, hW m = M := ⟨_, rfl⟩;rw [hM1] at hF hT hm2 hm3 hm4;obtain ⟨M2, hM2⟩ : ∃ M, hW M1 = M := ⟨_, rfl⟩;rw [hM2] at hT hm3 hm4;have HD : Hid (nn r c R xs) := H5 hd;have HF := H5 hF;have HT := H5 hT;have hrc : r * c <= 4096 := Nat.mul_le_mul hr hc;clear hs hd hm hM1 hM2 hF hT hm1;refine bJ (S0 := fun _ => False) Tryz.func31 ((Fr.nil _ w).l h (by simp)) ?_;refine ak ?_;refine aW fun g1 => ?_;refine aW fun g2 => ?_;refine az ?_;refine c9 ?_;refine jc (α := Nat × List Int) (mk := fun p => .tuple #[.agg #[.int .i64 (r : Int), .int .i64 (c : Int), .slice (some ⟨p.1, 0, none⟩) (r * c) (r * c)], .int .i64 0]) (ao := fun p => some ⟨p.1, 0, none⟩) (xs := fun p => p.2) (A := fun p => (∃ k l, bP r c xs p.2 k l) /\ p.2.length = r * c /\ ∀ x ∈ p.2, x.natAbs < W ^ M1) (fun w' H => HF.out w' H.m2) fun p => ?_;obtain ⟨b, hs⟩ := p;refine aI ?_;refine aW fun g4 => ?_;refine sG ?_;refine dW ?_;refine eW ?_;refine u5 (A := ((∃ k l, bP r c xs hs k l) /\ hs.length = r * c /\ ∀ x ∈ hs, x.natAbs < W ^ M1) /\ ∀ b' o, some (⟨b, 0, none⟩ : Addr) = some ⟨b', o, none⟩ -> w.heap.size <= b') (by simp) fun hA => ?_;have hI : F2I r c M1 M2 R xs ⟨false, some ⟨b, 0, none⟩, r * c, hs⟩ := ⟨hA.1.2.1, .inl ⟨rfl, hA.1.1, hA.1.2.2⟩⟩;have HI := H5 hI;clear hA hI;refine ak ?_;refine dW ?_;refine az ?_;refine gM ?_;refine ak ?_;refine az ?_;refine di (X := F2X) (F2I r c M1 M2 R xs) (fun z => if z.rows then 0 else 1) (fun z => [(6, .bool z.rows), (4, .pointer (some ⟨g4, 0, none⟩)), (2, .pointer (some ⟨g2, 0, none⟩)), (1, .pointer (some ⟨g1, 0, none⟩))])
  (fun z => [.row g4 24 [.int .i64 (r : Int), .int .i64 (c : Int), .slice z.ao (r * c) z.cap], .row g2 24 [.int .i64 0, .int .i64 0, .slice none 0 0], .row g1 24 [.int .i64 (r : Int), .int .i64 (c : Int), .slice ao (r * c) cap], .jL z.ao z.hs]) ⟨false, some ⟨b, 0, none⟩, r * c, hs⟩ HI.out fun z hz => ?_
 clear HI;obtain ⟨rows, qo, qc, hs⟩ := z;obtain ⟨hl, hok⟩ := hz
 replace hl : hs.length = r * c := hl
 replace hok : (rows = false /\ (∃ k l, bP r c xs hs k l) /\ ∀ x ∈ hs, x.natAbs < W ^ M1) \/ (rows = true /\ fy r c hs /\ aC (aT c (min r c) hs) = R /\ ∀ x ∈ hs, x.natAbs < W ^ M2) := hok
 have hB2 : ∀ x ∈ hs, x.natAbs < W ^ M2 := fun x hx => by
  rcases hok with ⟨_, _, h⟩ | ⟨_, _, _, h⟩
  . exact Nat.lt_of_lt_of_le (h x hx) (Nat.pow_le_pow_right (by decide) hm4)
  . exact h x hx
 have hAt : ∀ w', dw w' qo hs -> bc w' 17592186044415 qo hs := fun w' h => r9 h hB2 (by omega);have HAT := H5 hAt;have hdgv := fun t ht w' (h : dw w' qo hs) => qH (r := r) (c := c) (cap := qc) (xs := hs) t hr hc (hAt w' h) (Nat.le_refl _) hl ht;rw [hl] at hdgv;have HDV := H5 hdgv;clear hdgv hAt;by_cases hdg : fy r c hs
 . have hR : aC (aT c (min r c) hs) = R := by
    rcases hok with ⟨_, ⟨k, l, h⟩, _⟩ | ⟨_, _, h, _⟩
    . exact (HD.out hs k l h).1 hdg
    . exact h
   have HH : Hid (fy r c hs /\ hs.length = r * c) := H5 ⟨hdg, hl⟩;clear hok hdg hl;refine ak ?_;refine dW ?_;refine cV (fun w' H => HDV.out true ⟨fun _ => HH.out.1, fun _ => rfl⟩ w' H.m3) ?_;refine az ?_;refine gM ?_;refine kR ?_;have hkr : min r c <= 64 := Nat.le_trans (Nat.min_le_left ..) hr;have HDN : Hid (∀ w', dw w' qo hs -> Calls Tryz.prog 32 #[.agg #[.int .i64 (r : Int), .int .i64 (c : Int), .slice qo (r * c) qc]] w' fun e w'' => (∃ q : Nat, e = .returned (.slice (some ⟨q, 0, none⟩) (min r c) (min r c)) /\ dw w'' (some ⟨q, 0, none⟩) (dh c (min r c) hs) /\ True /\ ∀ b o, some (⟨q, 0, none⟩ : Addr) = some ⟨b, o, none⟩ -> w'.heap.size <= b) /\ Below w'.heap.size w' w'') := H5 fun w' h1 => by
    have := lL r c qo qc 17592186044415 hs w' hr hc (HAT.out w' h1) (Nat.le_refl _) HH.out.2;rw [HH.out.2] at this;exact this.mono fun e w'' ⟨⟨q, he, hq, hR⟩, hb⟩ => ⟨⟨q, he, hR.x4, trivial, fun b' o e => by cases e; exact hq⟩, hb⟩
   have hdl : ∀ x ∈ dh c (min r c) hs, x.natAbs < W ^ M2 := fun x hx => by
    unfold dh at hx;obtain ⟨i, hi, rfl⟩ := List.mem_map.1 hx;have hi := List.mem_range.1 hi;refine hB2 _ (gX ?_);rw [HH.out.2];exact sf (by have := Nat.min_le_left r c; omega) (by have := Nat.min_le_right r c; omega)
   have hP : aa (du (aT c (min r c) hs)) <= 8796093022207 := by
    have h1 := jU M2 (aT c (min r c) hs) (fun x hx => by
     unfold aT at hx;obtain ⟨y, hy, rfl⟩ := List.mem_map.1 hx;exact hdl y hy)
    have h2 : (aT c (min r c) hs).length = min r c := by rw [aT, List.length_map, aQ]
    rw [h2] at h1;have h3 : M2 * min r c <= M2 * 64 := Nat.mul_le_mul_left _ hkr;have h4 := an (Nat.lt_of_le_of_lt h1 (Nat.pow_lt_pow_right (by decide : 1 < W) (Nat.lt_succ_self (M2 * min r c))));omega
   have hcl : (aC (aT c (min r c) hs)).length = min r c := by rw [fB, fZ, aT, List.length_map, aQ]
   have HCH : Hid (∀ w' q, dw w' (some ⟨q, 0, none⟩) (dh c (min r c) hs) -> Calls Tryz.prog 63 #[.slice (some ⟨q, 0, none⟩) (min r c) (min r c)] w' fun e w'' => (∃ q2 : Nat, e = .returned (.slice (some ⟨q2, 0, none⟩) (min r c) (min r c)) /\ dw w'' (some ⟨q2, 0, none⟩) (nt (aC (aT c (min r c) hs))) /\ True /\ ∀ b o, some (⟨q2, 0, none⟩ : Addr) = some ⟨b, o, none⟩ -> w'.heap.size <= b) /\ Below w'.heap.size w' w'') := H5 fun w' q h1 => by
    have := o0 (some ⟨q, 0, none⟩) (min r c) 17592186044415 (dh c (min r c) hs) w' (h1.gW fun x hx => Nat.le_trans (an (hdl x hx)) (by omega)) (Nat.le_refl _) (by rw [aQ]; omega) hP;rw [aQ] at this;exact this.mono fun e w'' ⟨⟨q2, he, hq, hR⟩, hb⟩ => ⟨⟨q2, he, hR.x4, trivial, fun b' o e => by cases e; exact hq⟩, hb⟩
   have hnl : ∀ x ∈ nt (aC (aT c (min r c) hs)), aa x.natAbs <= 17592186044415 := fun x hx => by
    unfold nt at hx;obtain ⟨y, hy, rfl⟩ := List.mem_map.1 hx;have := lO (P := du (aT c (min r c) hs)) (fun z hz => Dv.oD hz) y hy;exact Nat.le_trans (aF (this.le (gE _))) (Nat.le_trans hP (by omega))
   have HDG : Hid (∀ w' q, dw w' (some ⟨q, 0, none⟩) (nt (aC (aT c (min r c) hs))) -> Calls Tryz.prog 21 #[.int .i64 (r : Int), .int .i64 (c : Int), .slice (some ⟨q, 0, none⟩) (min r c) (min r c)] w' fun e w'' => (∃ p : Option Addr × Nat, e = .returned (.tuple #[.agg #[.int .i64 (r : Int), .int .i64 (c : Int), .slice p.1 (r * c) p.2], .int .i64 0]) /\ dw w'' p.1 (bD c (aS (nt (aC (aT c (min r c) hs)))) (r * c)) /\ True /\ ∀ b o, p.1 = some ⟨b, o, none⟩ -> w'.heap.size <= b) /\ Below w'.heap.size w' w'') := H5 fun w' q h1 => by
    have := nf r c (some ⟨q, 0, none⟩) (min r c) 17592186044415 (nt (aC (aT c (min r c) hs))) w' hr hc (by rw [aG, hcl]; exact Nat.le_refl _) (h1.gW hnl) (Nat.le_refl _);rw [aG, hcl] at this;exact this
   rw [hR] at HCH HDG hcl;have HRL := H5 hcl;clear hcl hnl hP hdl hkr hR hB2;obtain ⟨k, hk⟩ : ∃ k, min r c = k := ⟨_, rfl⟩;rw [hk] at HDN HCH HDG HRL |-;clear hk;refine rW [] ?_;refine aI ?_;refine dr ?_;refine jc (α := Nat) (mk := fun q => .slice (some ⟨q, 0, none⟩) k k) (ao := fun q => some ⟨q, 0, none⟩) (xs := fun _ => dh c k hs) (A := fun _ => True) (fun w' H => HDN.out w' H.m3) fun q1 => ?_;refine jc (α := Nat) (mk := fun q => .slice (some ⟨q, 0, none⟩) k k) (ao := fun q => some ⟨q, 0, none⟩) (xs := fun _ => nt R) (A := fun _ => True) (fun w' H => HCH.out w' q1 H.m0) fun q2 => ?_;refine jc (α := Option Addr × Nat) (mk := fun p => .tuple #[.agg #[.int .i64 (r : Int), .int .i64 (c : Int), .slice p.1 (r * c) p.2], .int .i64 0]) (ao := fun p => p.1) (xs := fun _ => bD c (aS (nt R)) (r * c)) (A := fun _ => True) (fun w' H => HDG.out w' q2 H.m0) fun q3 => ?_;refine dr ?_;refine sW ?_;refine az ?_;refine fh fun w' H => ?_;exact ⟨_, _, xc H.m7, cH, ⟨q3, rfl, H.m0, HRL.out, (show True /\ ∀ b o, q3.1 = some ⟨b, o, none⟩ -> w.heap.size <= b from H.m1).2⟩, H.below⟩
 . obtain ⟨rfl, ⟨k0, l0, hH⟩, hB1⟩ : rows = false /\ (∃ k l, bP r c xs hs k l) /\ ∀ x ∈ hs, x.natAbs < W ^ M1 := by
    rcases hok with h | ⟨_, h, _⟩
    . exact h
    . exact absurd h hdg
   have htn := (HD.out hs k0 l0 hH).2 hdg;have HH : Hid ((∀ ts k' l', bP c r (jf r c hs) ts k' l' -> fy r c (jf c r ts) /\ aC (aT c (min r c) (jf c r ts)) = R) /\ ¬ fy r c hs) := H5 ⟨htn, hdg⟩;have HT1 := H5 (fun w' (h : dw w' qo hs) => HT.out w' qo qc hs (HAT.out w' h) hB1 hl);clear hok hdg hl htn hB1 hB2 hH;refine ak ?_;refine dW ?_;refine cV (fun w' H => HDV.out false ⟨(fun q => nomatch q), fun q => absurd q HH.out.2⟩ w' H.m3) ?_;refine az ?_;refine mR ?_;refine ak ?_;refine az ?_;refine gM ?_;refine ak ?_;refine dW ?_;refine jc (α := List Int × Option Addr × Nat) (mk := fun p => .agg #[.int .i64 (r : Int), .int .i64 (c : Int), .slice p.2.1 (r * c) p.2.2]) (ao := fun p => p.2.1) (xs := fun p => jf c r p.1) (A := fun p => (∃ k l, bP c r (jf r c hs) p.1 k l) /\ p.1.length = c * r /\ ∀ x ∈ p.1, x.natAbs < W ^ M2) (fun w' H => HT1.out w' H.m3) fun p => ?_;obtain ⟨ts, tq, tc⟩ := p;refine sW ?_;refine eW ?_;refine u5 (A := ((∃ k l, bP c r (jf r c hs) ts k l) /\ ts.length = c * r /\ ∀ x ∈ ts, x.natAbs < W ^ M2) /\ ∀ b' o, tq = some ⟨b', o, none⟩ -> w.heap.size <= b') (by simp) fun hA => ?_;obtain ⟨⟨⟨k1, l1, hH1⟩, hl1, hB1⟩, _⟩ := hA;have hg := HH.out.1 ts k1 l1 hH1;have HI : Hid (F2I r c M1 M2 R xs ⟨true, tq, tc, jf c r ts⟩) := H5 ⟨iR c r ts, .inr ⟨rfl, hg.1, hg.2, fun x hx => hB1 x (qC hl1 hx)⟩⟩;clear hH1 hl1 hB1 hg;refine ak ?_;refine aI ?_;refine fg ?_;exact cI (⟨true, tq, tc, jf c r ts⟩ : F2X) ⟨HI.out, by simp⟩
theorem qn {r c k : Nat} {xs : List Int} (hr : k <= r) (hc : k <= c) (h : xs.length = k) : dh c k (bD c (aS xs) (r * c)) = xs := by
 refine List.ext_getElem (by rw [aQ, h]) fun i h1 h2 => ?_;have hi : i < k := by rw [aQ] at h1; exact h1
 have e := nY (c := c) (xs := bD c (aS xs) (r * c)) hi;rw [cW h1] at e;rw [e];have := iM (r := r) (c := c) (i := i) (j := i) (aS xs) (by omega) (by omega);unfold gi;rw [this, aS, if_pos ⟨rfl, h2⟩, cW h2]
theorem mA (r c : Nat) (ao : Option Addr) (cap : Nat) (R : List Nat) (xs : List Int) (w : World) (hr : r <= 64) (hc : c <= 64) (h : bc w 17592186044415 ao xs) (HF0 : ∀ w', bc w' 17592186044415 ao xs -> Calls Tryz.prog 31 #[.agg #[.int .i64 (r : Int), .int .i64 (c : Int), .slice ao (r * c) cap]] w' fun e w'' => (∃ p : Option Addr × Nat, e = .returned (.tuple #[.agg #[.int .i64 (r : Int), .int .i64 (c : Int), .slice p.1 (r * c) p.2], .int .i64 0]) /\ dw w'' p.1 (bD c (aS (nt R)) (r * c)) /\ R.length = min r c /\ ∀ b o, p.1 = some ⟨b, o, none⟩ -> w'.heap.size <= b) /\ Below w'.heap.size w' w'') (hRb : ∀ y ∈ R, aa y <= 17592186044415) :
 Calls Tryz.prog 11 #[.agg #[.int .i64 (r : Int), .int .i64 (c : Int), .slice ao (r * c) cap]] w fun e w' => (∃ q : Nat, e = .returned (.tuple #[.slice (some ⟨q, 0, none⟩) (min r c) (min r c), .int .i64 0]) /\ dw w' (some ⟨q, 0, none⟩) (nt R) /\ True /\ ∀ b o, some (⟨q, 0, none⟩ : Addr) = some ⟨b, o, none⟩ -> w.heap.size <= b) /\ Below w.heap.size w w' := by
 have HF := H5 HF0;have HR := H5 hRb;clear HF0 hRb;refine bJ (S0 := fun _ => False) Tryz.func11 ((Fr.nil _ w).l h (by simp)) ?_;refine ak ?_;refine aW fun g1 => ?_;refine dW ?_;refine az ?_;refine c9 ?_;refine jc (α := Option Addr × Nat) (mk := fun p => .tuple #[.agg #[.int .i64 (r : Int), .int .i64 (c : Int), .slice p.1 (r * c) p.2], .int .i64 0]) (ao := fun p => p.1) (xs := fun _ => bD c (aS (nt R)) (r * c)) (A := fun _ => R.length = min r c) (fun w' H => HF.out w' H.m1) fun p => ?_;refine aI ?_;refine aW fun g4 => ?_;refine sG ?_;refine dW ?_;refine eW ?_;refine u5 (A := R.length = min r c /\ ∀ b' o, p.1 = some ⟨b', o, none⟩ -> w.heap.size <= b') (by simp) fun hA => ?_;have hL := fun w' h => lL r c p.1 p.2 17592186044415 (bD c (aS (nt R)) (r * c)) w' hr hc h (Nat.le_refl _) (cF ..);rw [cF, qn (Nat.min_le_left ..) (Nat.min_le_right ..) (by rw [aG]; exact hA.1)] at hL;have hbt : ∀ x ∈ bD c (aS (nt R)) (r * c), aa x.natAbs <= 17592186044415 := fun x hx => by
  unfold bD at hx;obtain ⟨q, hq, rfl⟩ := List.mem_map.1 hx;unfold aS;split
  . rename_i h;have hm := gX h.2;unfold nt at hm |-;obtain ⟨y, hy, he⟩ := List.mem_map.1 hm;rw [<- he]; exact HR.out y hy
  . simp [bg]
 have HL := H5 (fun w' (h : dw w' p.1 (bD c (aS (nt R)) (r * c))) => hL w' (h.gW hbt));clear hA hL hbt;obtain ⟨k, hk⟩ : ∃ k, min r c = k := ⟨_, rfl⟩;rw [hk] at HL |-;clear hk;refine ak ?_;refine dW ?_;refine az ?_;refine gM ?_;refine ak ?_;refine dW ?_;refine jc (α := Nat) (mk := fun q => .slice (some ⟨q, 0, none⟩) k k) (ao := fun q => some ⟨q, 0, none⟩) (xs := fun _ => nt R) (A := fun _ => True) (fun w' H => (HL.out w' H.m1).mono fun e w'' ⟨⟨q, he, hq, hR⟩, hb⟩ => ⟨⟨q, he, hR.x4, trivial, fun b' o e => by cases e; exact hq⟩, hb⟩) fun q => ?_;refine dW ?_;refine az ?_;refine fh fun w' H => ?_;exact ⟨_, _, cH, cH, ⟨q, rfl, H.m0, trivial, (show True /\ ∀ b o, some (⟨q, 0, none⟩ : Addr) = some ⟨b, o, none⟩ -> w.heap.size <= b from H.m1).2⟩, H.below⟩
theorem uq (r c m : Nat) (ao : Option Addr) (cap : Nat) (R : List Nat) (xs : List Int) (w : World) (hr : r <= 64) (hc : c <= 64) (h : bc w 17592186044415 ao xs) (hm : ∀ x ∈ xs, x.natAbs < W ^ m) (hm1 : m <= 1048576) (hs : xs.length = r * c) (hd : nn r c R xs) (hRb : ∀ y ∈ R, aa y <= 17592186044415) :
 Calls Tryz.prog 11 #[.agg #[.int .i64 (r : Int), .int .i64 (c : Int), .slice ao (r * c) cap]] w fun e w' => (∃ q : Nat, e = .returned (.tuple #[.slice (some ⟨q, 0, none⟩) (min r c) (min r c), .int .i64 0]) /\ dw w' (some ⟨q, 0, none⟩) (nt R) /\ True /\ ∀ b o, some (⟨q, 0, none⟩ : Addr) = some ⟨b, o, none⟩ -> w.heap.size <= b) /\ Below w.heap.size w w' :=
 mA r c ao cap R xs w hr hc h (fun w' h => xR r c m ao cap R xs w' hr hc h hm hm1 hs hd) hRb
theorem nR {r c : Nat} (f : Nat -> Nat -> Int) (i j : Nat) : aY (bD c f (r * c)) r c i j = if i < r /\ j < c then f i j else 0 := by
 by_cases h : i < r /\ j < c
 . rw [fq h.1 h.2, if_pos h]; exact iM f h.1 h.2
 . rw [if_neg h, aY, if_neg h]
theorem Cy {r c i j : Nat} (f : Nat -> Nat -> Int) (hi : i < r) (hj : j < c) : gi (bD c f (r * c)) (i * c + j) = f i j := iM f hi hj
def mono (k : Nat) (l : Nat -> Nat) (a : Nat -> Int) (i j : Nat) : Int := if i < k /\ j = l i then a i else 0
theorem jS {k : Nat} {l : Nat -> Nat} {a : Nat -> Int} {i : Nat} (h : i < k) (j : Nat) : mono k l a i j = if j = l i then a i else 0 := by simp [mono, h]
theorem ym {r c k : Nat} {l : Nat -> Nat} {a : Nat -> Int} {xs : List Int} (hk : k <= r) (hl : ∀ i, i < k -> l i < c) (hinc : ∀ i t, i < t -> t < k -> l i < l t) (ha : ∀ i, i < k -> 0 < a i)
 (h1 : ∀ i, i < r -> (∀ j, aY xs r c i j = 0) \/ ∃ t s, t < k /\ ∀ j, aY xs r c i j = s * mono k l a t j) (h2 : ∀ t, t < k -> ∃ i s, i < r /\ ∀ j, mono k l a t j = s * aY xs r c i j) : bP r c xs (bD c (mono k l a) (r * c)) k l := by
 have e0 : ∀ i j, aY (bD c (mono k l a) (r * c)) r c i j = mono k l a i j := fun i j => by
  rw [nR];split
  . rfl
  . rename_i h;unfold mono;rw [if_neg];rintro ⟨h3, rfl⟩;exact h ⟨by omega, hl i h3⟩
 refine ⟨cF .., hk, ⟨⟨hinc, hl, fun i hi j hj => ?_, fun i hi => ?_⟩, fun i t hit ht => ?_⟩, fun i hi b => ?_, ⟨fun i hi => ?_, fun t ht => ?_⟩⟩
 . rw [e0, jS hi, if_neg (by omega)]
 . rw [e0, jS hi, if_pos rfl]; exact ha i hi
 . have := hinc i t hit ht;rw [e0, e0, jS (by omega), if_neg (by omega), jS ht, if_pos rfl];exact ⟨Int.le_refl _, ha t ht⟩
 . rw [e0, mono, if_neg (by omega)]
 . rcases h1 i hi with h | ⟨t, s, ht, h⟩
   . exact (Sp.zero _ _).congr h
   . exact ((Sp.row _ ht).smul s).congr fun j => by rw [e0]; exact h j
 . obtain ⟨i, s, hi, h⟩ := h2 t ht;exact ((Sp.row _ hi).smul s).congr fun j => by rw [e0]; exact h j
theorem subI {a b : Nat} (h : b <= a) (ha : a < 9223372036854775808) : Value.int .i64 (IntKind.i64.wrap ((a : Int) - b)) = .int .i64 ((a - b : Nat) : Int) := by
 rw [Int.ofNat_sub h, wrap_small] <;> first | rfl | omega
theorem Bw {a : Nat} (h : 1 <= a) (ha : a < 9223372036854775808) : Value.int .i64 (IntKind.i64.wrap ((a : Int) - 1)) = .int .i64 ((a - 1 : Nat) : Int) := subI h ha
section
variable {P : Program} {Q : Exit -> Act -> World -> Prop} {ds : List Deferred} {S0 : Nat -> Prop} {w0 : World} {n : Nat} {ls : List (Nat × Value)} {es : List En} {c : Code}
theorem tN {xs : List Int} {b : Nat} (i : Nat) (hm : En.jL (some ⟨b, 0, none⟩) xs ∈ es) (hi : i < xs.length) (k : ∀ p : P4, fJ ds P n S0 w0 c Q ls (.cell ⟨b, i * 2, none⟩ (.bool p.1) :: .cell ⟨b, i * 2 + 1, none⟩ (.slice p.2.1 p.2.2.1 p.2.2.2) :: .num (av p) (gi xs i) :: es)) : fJ ds P n S0 w0 c Q ls es :=
 rH i hm hi fun p => by rw [Nat.zero_add]; exact k p
end
section
variable {P : Program} {ops : Array Oper} {Q : Exit -> Act -> World -> Prop} {ds : List Deferred} {S0 : Nat -> Prop} {w0 : World} {E0 : List En} {hd : List (List Nat)} {n j s sg g : Nat} {l : List Nat} {G E : List En} {ls : List (Nat × Value)} {op : Op} {ty : TypeId} {pos : String} {af : Array Edge} {f : FuncId} {args : Array Value} {want : Bool}
end
theorem nD : ∀ (l : List Nat) (x : Nat), bO (l ++ [x]) = bO l * x
 | [], x => by simp [bO]
 | y :: l, x => by
  have := nD l x;simp only [bO, List.cons_append, List.foldr_cons] at this |-;rw [this, Nat.mul_assoc]
theorem kA {l : List Nat} {i : Nat} (h : i < l.length) : bO (l.take (i + 1)) = bO (l.take i) * l.getD i 0 := by
 rw [List.take_add_one, List.getElem?_eq_getElem h];simp only [Option.toList_some];rw [nD]; simp [h]
theorem sF (B : Nat) : ∀ l : List Nat, (∀ x ∈ l, x < W ^ B) -> bO l <= W ^ (B * l.length)
 | [], _ => by simp [bO]
 | x :: l, h => by
  have h1 := sF B l fun y hy => h y (List.mem_cons_of_mem _ hy);have h2 := h x (List.mem_cons_self ..);rw [List.length_cons, Nat.mul_succ, Nat.pow_add, Nat.mul_comm (W ^ (B * l.length))];exact Nat.mul_le_mul (by omega) h1
theorem nH {B n i : Nat} {l : List Nat} (h : ∀ x ∈ l, x < W ^ B) (hi : i <= n) : aa (bO (l.take i)) <= B * n + 1 := by
 have h1 := sF B (l.take i) fun x hx => h x (List.mem_of_mem_take hx);have h2 : B * (l.take i).length <= B * n := Nat.mul_le_mul_left _ (by rw [List.length_take]; omega);exact an (Nat.lt_of_le_of_lt h1 (Nat.pow_lt_pow_right (by decide : 1 < W) (by omega)))
theorem gZ.get : ∀ {l : List Nat} {i : Nat}, gZ l -> i + 1 < l.length -> l.getD i 0 ∣ l.getD (i + 1) 0
 | a :: b :: l, 0, h, _ => h.1
 | a :: b :: l, i + 1, h, hi => by
  have := gZ.get (l := b :: l) (i := i) h.2 (by simpa using hi);simpa using this
theorem zD {w : World} {ao : Option Addr} {xs : List Int} {B : Nat} (h : bc w B ao xs) : ∀ x ∈ xs, x.natAbs < W ^ B := fun x hx => by
 obtain ⟨i, hi, rfl⟩ := List.getElem_of_mem hx;obtain ⟨b, o, _, _, hc⟩ := h (by omega);obtain ⟨q, _, _, hI⟩ := hc i hi;exact Nat.lt_of_lt_of_le (bK _) (Nat.pow_le_pow_right (by decide) hI.aa)
theorem vA (x : Nat) (l : List Nat) : nt (x :: l) = (x : Int) :: nt l := rfl
theorem CE (l : List Nat) : rB (nt l) = nt (eY l) := by
 induction l with
 | nil => rfl
 | cons x l ih =>
  unfold rB eY at ih |-;rw [vA, List.filter_cons, List.filter_cons, ih];by_cases h : 1 < x
  . rw [if_pos (decide_eq_true (show (1 : Int) < (x : Int) by omega)), if_pos (decide_eq_true h), vA]
  . rw [if_neg (by simpa using (show ¬ (1 : Int) < (x : Int) by omega)), if_neg (by simpa using h)]
theorem Ay {w : World} {ao : Option Addr} {f : List Nat} {B : Nat} (h : bc w B ao (nt f)) : ∀ x ∈ f, x < W ^ B := fun x hx => zD h (x : Int) (by unfold nt; exact List.mem_map.2 ⟨x, hx, rfl⟩)
section
variable {r s : Int} {la lb : Option Addr} {ca cb L : Nat} {xs ys : List Int} {w : World}
end
section
variable {r s : Nat} {la lb : Option Addr} {ca cb L : Nat} {f g : List Nat} {w : World}
end
theorem vS {l : List Nat} {i : Nat} (h : i < l.length) : l.getD i 0 = l[i] := by simp [h]
theorem uV (n : Nat) (w : World) (h0 : n ≠ 0) (h : n < W) :
 Calls Tryz.prog 18 #[.int .u64 (n : Int)] w fun e w' => (∃ v', e = .returned v' /\ ae w' w.heap.size v' (n : Int)) /\ Below w.heap.size w w' := by
 refine bJ (S0 := fun _ => False) Tryz.func18 (Fr.nil _ w) ?_;refine ak ?_;refine aW fun g2 => ?_;refine eW ?_;refine ak ?_;refine dW ?_;refine bW (m := 1) fun g4 => ?_;refine dW ?_;refine sW ?_;refine fg ?_;refine cd fun w' H => ?_;have hown := a6.own (ws := [n]) (B := w.heap.size) (n := 1) (cap := 1) H.m0 (Ok.one h) ((H.own _ (List.mem_cons_self ..) rfl _ rfl).elim (fun h => h.elim) id) (by simp) rfl (by unfold maxLen; omega);have h1 := ae.mk (m := n) false (by rw [n9 (by omega) h, rq (by omega) h]; exact hown);rw [n9 (by omega) h] at h1;exact ⟨_, ka H.m1, ⟨_, rfl, h1⟩, H.below⟩
theorem yb (v u : Value) (d a : Int) (w : World) (hA : a8 w 17592186044415 v d) (hB : a8 w 17592186044415 u a) (hd : d ≠ 0) :
 Calls Tryz.prog 30 #[v, u] w fun e w' => e = .returned (.bool (decide (d ∣ a))) /\ Below w.heap.size w w' := by
 have hw : aa (a % d).natAbs <= 17592186044415 := Nat.le_trans (aF (show (a % d).natAbs <= d.natAbs by
  have h1 := Int.emod_nonneg a hd;have h2 := Int.emod_lt a hd;omega)) hA.aa
 obtain ⟨p, rfl⟩ := hA.parts;obtain ⟨q, rfl⟩ := hB.parts;refine bJ (S0 := fun _ => False) Tryz.func30 (((Fr.nil _ w).i hB).i hA) ?_;refine ak ?_;refine aW fun g2 => ?_;refine aW fun g3 => ?_;refine az ?_;refine c9 ?_;refine dW ?_;refine cN2 (x := a / d) (y := a % d) (fun w' H => qg _ _ a d w' H.m3 H.m2 hd) fun p q => ?_;refine aI ?_;refine dW ?_;refine aW fun g5 => ?_;refine aW fun g6 => ?_;refine sG ?_;refine sG ?_;refine az ?_;refine c9 ?_;refine dB true ?_;refine dW ?_;refine dG ?_;refine nV (v := .int .i64 (aP (a % d))) (fun w' H => cw _ _ w' (ae.int H.m3 hw)) ?_;by_cases h : d ∣ a
 . have hz : aP (a % d) = 0 := eh.2 (Int.emod_eq_zero_of_dvd h);rw [hz];refine gU true ?_;refine dW ?_;refine az ?_;refine cd fun w' H => ?_;exact ⟨_, cH, by rw [decide_eq_true h], H.below⟩
 . have hz : ¬ aP (a % d) = 0 := fun q => h (Int.dvd_of_emod_eq_zero (eh.1 q));refine gU false ?_;refine dW ?_;refine az ?_;refine cd fun w' H => ?_;exact ⟨_, cH, by rw [decide_eq_false h], H.below⟩
structure PrX where
 i : Nat
 pv : Nat
 pp : P4
structure PrJ (f : List Nat) (n : Nat) (z : PrX) : Prop where
 hi : z.i <= n
 hp : z.pv = bO (f.take z.i)
theorem wH (la : Option Addr) (ca L : Nat) (f : List Nat) (w : World) (hA : bc w L la (nt f)) (hL : L <= 67108928) (hf : f.length <= 12288) :
 Calls Tryz.prog 15 #[.slice la f.length ca] w fun e w' => (∃ v', e = .returned v' /\ ae w' w.heap.size v' ((bO f : Nat) : Int)) /\ Below w.heap.size w w' := by
 obtain ⟨n, hnn⟩ : ∃ n, f.length = n := ⟨_, rfl⟩;have hfb := Ay hA;have hpb : ∀ i, i <= n -> aa (bO (f.take i)) <= 824634507265 := fun i hi => Nat.le_trans (nH (B := L) (n := n) hfb hi) (Nat.le_trans (Nat.add_le_add_right (Nat.mul_le_mul hL (hnn ▸ hf)) 1) (by decide));have hst : ∀ i, i < n -> gi (nt f) i = ((f.getD i 0 : Nat) : Int) := fun i hi => by
  rw [cW (by rw [aG]; omega)]; simp [nt, show i < f.length by omega]
 have hsu : ∀ i, i < n -> bO (f.take (i + 1)) = bO (f.take i) * f.getD i 0 := fun i hi => kA (by omega);have HF := H5 (And.intro hpb (And.intro hst (And.intro hsu (And.intro (show (nt f).length = n by rw [aG]; exact hnn) (show f.take n = f from List.take_of_length_le (by omega))))));rw [hnn] at hf |-;clear hnn hfb hpb hst hsu;refine bJ (S0 := fun _ => False) Tryz.func15 ((Fr.nil _ w).l hA (by simp)) ?_;refine ak ?_;refine aW fun g2 => ?_;refine eW ?_;refine ak ?_;refine cN (x := ((1 : Nat) : Int)) (fun w' H => iA 1 w' (by omega) (by omega)) fun pp => ?_;refine aW fun g3 => ?_;refine sG ?_;refine eW ?_;refine ak ?_;refine az ?_;refine di (X := PrX) (PrJ f n) (fun z => n - z.i) (fun z => [(4, .int .i64 (z.i : Int)), (0, .slice la n ca), (3, .pointer (some ⟨g3, 0, none⟩)), (2, .pointer (some ⟨g2, 0, none⟩))]) (fun z => [.row g3 40 [.bool z.pp.1, .slice z.pp.2.1 z.pp.2.2.1 z.pp.2.2.2], .own w.heap.size (av z.pp) ((z.pv : Nat) : Int), .row g2 40 [.bool false, .slice none 0 0], .ls L la (nt f)]) ⟨0, 1, pp⟩ ⟨Nat.zero_le _, rfl⟩ fun z hz => ?_;obtain ⟨i, pv, pp⟩ := z;obtain ⟨hi, hp⟩ := hz
 replace hi : i <= n := hi
 replace hp : pv = bO (f.take i) := hp
 have hpw : aa pv <= 824634507265 := by rw [hp]; exact HF.out.1 i hi
 by_cases h : i < n
 . obtain ⟨bx, ox, rfl⟩ := hA.pos (i := i) (by rw [HF.out.2.2.2.1]; exact h);have h01 : (i : Int) < (n : Int) := by omega
   have HT : Hid (pv * f.getD i 0 = bO (f.take (i + 1))) := H5 (by rw [HF.out.2.2.1 i h, hp]);clear hp;refine ak ?_;refine aI ?_;refine dB true ?_;refine fg ?_;refine ou (L := L) (xs := nt f) (b := bx) (o := ox) i (by simp) (by rw [HF.out.2.2.2.1]; exact h) fun p => ?_;refine mR ?_;refine ak ?_;refine aI ?_;refine dr ?_;refine cN (x := ((pv * f.getD i 0 : Nat) : Int)) (fun w' H => by have := ie (av pp) (av p) pv (gi (nt f) i) 824634507265 L w' (ae.int H.m4 hpw) H.m2 (by omega); rw [HF.out.2.1 i h] at this; rw [Int.natCast_mul]; exact this) fun q => ?_;refine sW ?_;refine eW ?_;refine ak ?_;refine dW ?_;refine dE (eZ (a := i) (by omega)) ?_;refine az ?_;exact cI (⟨i + 1, pv * f.getD i 0, q⟩ : PrX) ⟨⟨h, HT.out⟩, by show n - (i + 1) < n - i; omega⟩
 . obtain rfl : i = n := by omega
   have HT : Hid (pv = bO f) := H5 (by rw [hp, HF.out.2.2.2.2]);clear hp;refine ak ?_;refine aI ?_;refine dB false ?_;refine eW ?_;refine kR ?_;refine gM ?_;refine ak ?_;refine dW ?_;refine sW ?_;refine fg ?_;refine cd fun w' H => ?_;exact ⟨_, ka H.m2, ⟨_, rfl, by rw [<- HT.out]; exact H.m1⟩, H.below⟩
theorem uv (la : Option Addr) (ca L : Nat) (f : List Nat) (w : World) (hA : bc w L la (nt f)) (hL : L <= 17592186044415) (hf : f.length <= 8796093022208) (hc : gZ f) (hg : ∀ x ∈ f, 1 < x) :
 Calls Tryz.prog 10 #[.slice la f.length ca] w fun e w' => e = .returned (.bool true) /\ Below w.heap.size w w' := by
 obtain ⟨n, hnn⟩ : ∃ n, f.length = n := ⟨_, rfl⟩;have hst : ∀ i, i < n -> gi (nt f) i = ((f.getD i 0 : Nat) : Int) := fun i hi => by
  rw [cW (by rw [aG]; omega)]; simp [nt, show i < f.length by omega]
 have h1 : ∀ i, i < n -> 1 < gi (nt f) i := fun i hi => by
  have := hg (f.getD i 0) (by rw [vS (by omega)]; exact List.getElem_mem _);rw [hst i hi]; omega
 have h2 : ∀ i, i + 1 < n -> gi (nt f) i ∣ gi (nt f) (i + 1) := fun i hi => by
  rw [hst i (by omega), hst (i + 1) hi]; exact Int.natCast_dvd_natCast.2 (hc.get (by omega))
 have HF := H5 (And.intro h1 (And.intro h2 (show (nt f).length = n by rw [aG]; exact hnn)));rw [hnn] at hf |-;clear hnn hst h1 h2 hc hg;refine bJ (S0 := fun _ => False) Tryz.func10 ((Fr.nil _ w).l hA (by simp)) ?_;refine ak ?_;refine az ?_;refine rW [] ?_;refine az ?_;refine di (X := Nat) (fun i => i <= n) (fun i => n - i) (fun i => [(3, .int .i64 (i : Int)), (0, .slice la n ca)]) (fun _ => [.ls L la (nt f)]) 0 (Nat.zero_le _) fun i hi => ?_;by_cases h : i < n
 . obtain ⟨bx, ox, rfl⟩ := hA.pos (i := i) (by rw [HF.out.2.2]; exact h);have h01 : (i : Int) < (n : Int) := by omega
   have hz1 := HF.out.1 i h;have ez : fO (gi (nt f) i) 1 = 1 := by unfold fO; rw [if_neg (by omega), if_neg (by omega)]
   refine ak ?_;refine aI ?_;refine dB true ?_;refine fg ?_;refine ou (L := L) (xs := nt f) (b := bx) (o := ox) i (by simp) (by rw [HF.out.2.2]; exact h) fun p => ?_;refine mR ?_;refine ak ?_;refine aI ?_;refine dW ?_;refine cN (x := 1) (fun w' H => iA 1 w' (by omega) (by omega)) fun p14 => ?_;refine cV (v := .int .i64 1) (fun w' H => by have := gy _ _ (gi (nt f) i) 1 w' (H.m3.mono hL) (ae.int H.m0 vM); rw [ez] at this; exact this) ?_;refine dB false ?_;by_cases h0 : 0 < i
   . obtain ⟨k, hk⟩ : ∃ k, i - 1 = k := ⟨_, rfl⟩;have HK := H5 hk;have hki : k + 1 = i := by omega
     have h0' : (0 : Int) < (i : Int) := by omega
     have hkn : (k : Int) < (n : Int) := by omega
     have hne : gi (nt f) k ≠ 0 := by have := HF.out.1 k (by omega); omega
     have hdv := HF.out.2.1 k (by omega);rw [hki] at hdv;have HD := H5 hdv;have HKI := H5 hki;clear hk hdv hki;refine fg ?_;refine ou (L := L) (xs := nt f) (b := bx) (o := ox) k (by simp) (by rw [HF.out.2.2]; omega) fun q => ?_;refine gM ?_;refine ak ?_;refine dW ?_;refine dB true ?_;refine dW ?_;refine dG ?_;refine dG ?_;refine dGE (Bw (a := i) (by omega) (by omega)) ?_;rw [HK.out];refine mB ?_;refine mB ?_;refine nV (v := .bool true) (fun w' H => by have := yb (av q) (av p) (gi (nt f) k) (gi (nt f) i) w' (H.m2.mono hL) ((H.all (.at L (av p) (gi (nt f) i)) (by simp) : a8 ..).mono hL) hne; rw [decide_eq_true HD.out] at this; exact this) ?_;refine dG ?_;refine az ?_;refine gM ?_;refine ak ?_;refine dW ?_;refine dE (eZ (a := i) (by omega)) ?_;refine az ?_;exact cI (i + 1) ⟨h, by show n - (i + 1) < n - i; omega⟩
   . have h0' : ¬ (0 : Int) < (i : Int) := by omega
     refine fg ?_;refine gM ?_;refine ak ?_;refine dW ?_;refine dB false ?_;refine dW ?_;refine Be ?_;(iterate 4 refine uG ?_);refine uC ?_;refine uG ?_;refine az ?_;refine gM ?_;refine ak ?_;refine dW ?_;refine dE (eZ (a := i) (by omega)) ?_;refine az ?_;exact cI (i + 1) ⟨h, by show n - (i + 1) < n - i; omega⟩
 . obtain rfl : i = n := by omega
   refine ak ?_;refine aI ?_;refine dB false ?_;refine eW ?_;refine kR ?_;refine gM ?_;refine ak ?_;refine az ?_;refine cd fun w' H => ?_;exact ⟨_, cH, rfl, H.below⟩
theorem tU (v u : Value) (x y : Int) (w : World) (h1 : aN w v x) (h2 : aN w u y) (hx : aa x.natAbs <= 17592186044415) (hy : aa y.natAbs <= 17592186044415) :
 Calls Tryz.prog 41 #[v, u] w fun e w' => e = .returned (.bool (decide (x = y))) /\ Below w.heap.size w w' := by
 obtain ⟨ao1, cap1, rfl, hW1, _⟩ := h1.least;obtain ⟨ao2, cap2, rfl, hW2, _⟩ := h2.least;have hAL := uN x y;obtain ⟨n1, hn1⟩ : ∃ n1, decide (x < 0) = n1 := ⟨_, rfl⟩;obtain ⟨n2, hn2⟩ : ∃ n2, decide (y < 0) = n2 := ⟨_, rfl⟩;obtain ⟨m, hm⟩ : ∃ m, decide (ew x.natAbs = ew y.natAbs) = m := ⟨_, rfl⟩;have hS := fun w' => zR ao1 ao2 (aa x.natAbs) cap1 (aa y.natAbs) cap2 (ew x.natAbs) (ew y.natAbs) w';simp only [hm] at hS;obtain ⟨r, hr⟩ : ∃ r, decide (x = y) = r := ⟨_, rfl⟩;rw [hn1, hn2, hm, hr] at hAL;rw [hn1, hn2, hr];refine bJ (S0 := fun _ => False) Tryz.func41 (Fr.nil _ w) ?_;refine ak ?_;refine aW fun g2 => ?_;refine aW fun g3 => ?_;refine az ?_;refine rW [] ?_;refine aI ?_;refine dW ?_;clear hn1 hn2 hm hr;by_cases e : n1 = n2
 . subst e;have hAL : m = r := by simpa using hAL
   subst hAL;refine dB true ?_;refine dW ?_;refine mB ?_;refine dG ?_;refine nV (fun w' H => hS w' (hW1.below H.below) (hW2.below H.below) rfl rfl hx hy) ?_;refine dW ?_;refine az ?_;refine cd fun w' H => ?_;exact ⟨_, cH, rfl, H.below⟩
 . have hr : r = false := by rw [<- hAL]; cases n1 <;> cases n2 <;> simp_all
   subst hr;refine dB false ?_;refine dW ?_;(iterate 4 refine uG ?_);refine uC ?_;refine dW ?_;refine az ?_;refine cd fun w' H => ?_;exact ⟨_, cH, rfl, H.below⟩
theorem oz (aoA aoB : Option Addr) (cA cB : Nat) (xs ys : List Int) (w : World) (hA : dw w aoA xs) (hB : dw w aoB ys) (hmA : xs.length <= 8796093022208) (hmB : ys.length <= 8796093022208)
 (hx : ∀ x ∈ xs, aa x.natAbs <= 17592186044415) (hy : ∀ x ∈ ys, aa x.natAbs <= 17592186044415) :
 Calls Tryz.prog 19 #[.slice aoA xs.length cA, .slice aoB ys.length cB] w fun e w' => e = .returned (.bool (decide (xs = ys))) /\ Below w.heap.size w w' := by
 refine bJ (S0 := fun _ => False) Tryz.func19 (((Fr.nil _ w).ln hA (by simp)).ln hB (by simp [En.wr, En.jL])) ?_;refine ak ?_;refine az ?_;refine rW [] ?_;refine aI ?_;refine dW ?_;by_cases hs : xs.length = ys.length
 . have HS := H5 hs;have hne : ((xs.length : Int) != (ys.length : Int)) = false := by rw [hs]; simp
   clear hs;refine dB false ?_;refine eW ?_;refine kR ?_;refine gM ?_;refine ak ?_;refine az ?_;refine di (X := Nat) (fun i => i <= xs.length /\ ∀ k, k < i -> gi xs k = gi ys k) (fun i => xs.length - i) (fun i => [(5, .int .i64 (i : Int)), (0, .slice aoA xs.length cA), (1, .slice aoB ys.length cB)]) (fun _ => [.jL aoB ys, .jL aoA xs]) 0 ⟨Nat.zero_le _, fun k h => absurd h (Nat.not_lt_zero k)⟩ fun i hz => ?_;obtain ⟨hi, hag⟩ := hz;by_cases h : i < xs.length
   . have h' : i < ys.length := by have := HS.out; omega
     obtain ⟨bx, ox, rfl⟩ := hA.pos h;obtain ⟨b_, oy, rfl⟩ := hB.pos h';have HX := H5 (hx _ (gX h));have HY := H5 (hy _ (gX h'));have HH := H5 h;refine ak ?_;refine aI ?_;refine dB true ?_;refine eW ?_;refine kR ?_;refine mR ?_;refine rH (xs := xs) (b := bx) (o := ox) i (by simp) h fun p => ?_;refine rH (xs := ys) (b := b_) (o := oy) i (by simp) h' fun q => ?_;refine ak ?_;refine aI ?_;refine aI ?_;refine dr ?_;refine cV (fun w' H => tU (av p) (av q) _ _ w' H.m5 H.m2 HX.out HY.out) ?_;by_cases e : gi xs i = gi ys i
     . have HE := H5 e;rw [decide_eq_true e];clear e;refine az ?_;refine gM ?_;refine ak ?_;refine dW ?_;refine dE (eZ (a := i) (by omega)) ?_;refine az ?_;exact cI (i + 1) ⟨⟨h, fun k hk => by
        by_cases e : k = i
        . subst e; exact HE.out
        . exact hag k (by omega)⟩, by omega⟩
     . have hd : decide (xs = ys) = false := by
        rw [decide_eq_false_iff_not]; intro h; exact e (by rw [h])
       rw [decide_eq_false e, hd];refine az ?_;refine mR ?_;refine ak ?_;refine az ?_;refine cd fun w' H => ?_;exact ⟨_, cH, rfl, H.below⟩
   . obtain rfl : i = xs.length := by omega
     have hd : decide (xs = ys) = true := by
      rw [decide_eq_true_iff];refine List.ext_getElem HS.out fun j h1 h2 => ?_;have := hag j h1
      rwa [cW h1, cW h2] at this
     rw [hd];refine ak ?_;refine aI ?_;refine dB false ?_;refine eW ?_;refine kR ?_;refine gM ?_;refine ak ?_;refine az ?_;refine cd fun w' H => ?_;exact ⟨_, cH, rfl, H.below⟩
 . have hne : ((xs.length : Int) != (ys.length : Int)) = true := by rw [bne_iff_ne]; omega
   have hd : decide (xs = ys) = false := by
    rw [decide_eq_false_iff_not]; intro h; exact hs (by rw [h])
   rw [hd];clear hs;refine dB true ?_;refine eW ?_;refine kR ?_;refine mR ?_;refine ak ?_;refine az ?_;refine cd fun w' H => ?_;exact ⟨_, cH, rfl, H.below⟩
section
variable {P : Program} {ops : Array Oper} {Q : Exit -> Act -> World -> Prop} {ds : List Deferred} {S0 : Nat -> Prop} {w0 : World} {E0 : List En} {n j s sg g : Nat} {l : List Nat} {G E : List En} {ls : List (Nat × Value)} {op : Op} {ty : TypeId} {pos : String} {af : Array Edge} {v v' : Value} {want : Bool}
end
def kS (R : List Nat) : Nat := R.countP fun x => decide (x ≠ 0)
theorem mI {p : Nat -> Bool} {f : List Nat} {i : Nat} (h : i < f.length) : (f.take (i + 1)).countP p = (f.take i).countP p + if p (f.getD i 0) then 1 else 0 := by
 rw [List.take_succ_eq_append_getElem h, List.countP_append, vS h];simp [List.countP_cons]
structure A2 where
 i : Nat
 rk : Nat
structure GofI (c k : Nat) (R : List Nat) (z : A2) : Prop where
 hi : z.i <= k
 hr : z.rk + kS (R.take z.i) = c
theorem yW (r c n cap : Nat) (ao : Option Addr) (R : List Nat) (w : World) (hc : c <= 64) (hk : R.length <= c) (hRb : ∀ y ∈ R, aa y <= 17592186044415)
 (HF0 : ∀ w', Below w.heap.size w w' -> Calls Tryz.prog 11 #[.agg #[.int .i64 (r : Int), .int .i64 (c : Int), .slice ao n cap]] w' fun e w'' => (∃ q : Nat, e = .returned (.tuple #[.slice (some ⟨q, 0, none⟩) R.length R.length, .int .i64 0]) /\ dw w'' (some ⟨q, 0, none⟩) (nt R) /\ True /\ ∀ b o, some (⟨q, 0, none⟩ : Addr) = some ⟨b, o, none⟩ -> w'.heap.size <= b) /\ Below w'.heap.size w' w'') :
 Calls Tryz.prog 8 #[.agg #[.int .i64 (r : Int), .int .i64 (c : Int), .slice ao n cap]] w fun e w' => (∃ p : Option Addr × Nat, e = .returned (.tuple #[.int .i64 ((c - kS R : Nat) : Int), .slice p.1 (eY R).length p.2, .int .i64 0]) /\ dw w' p.1 (nt (eY R)) /\ True /\ ∀ b o, p.1 = some ⟨b, o, none⟩ -> w.heap.size <= b) /\ Below w.heap.size w w' := by
 obtain ⟨k, hkk⟩ : ∃ k, R.length = k := ⟨_, rfl⟩;obtain ⟨d, hd⟩ : ∃ d, (eY R).length = d := ⟨_, rfl⟩;have hnb : ∀ x ∈ nt R, aa x.natAbs <= 17592186044415 := fun x hx => by
  unfold nt at hx;obtain ⟨y, hy, rfl⟩ := List.mem_map.1 hx;exact hRb y hy
 have c2 : ∀ w' q, dw w' (some ⟨q, 0, none⟩) (nt R) -> Calls Tryz.prog 28 #[.slice (some ⟨q, 0, none⟩) R.length R.length] w' fun e w'' => (∃ p : Option Addr × Nat, e = .returned (.slice p.1 (eY R).length p.2) /\ dw w'' p.1 (nt (eY R)) /\ True /\ ∀ b o, p.1 = some ⟨b, o, none⟩ -> w'.heap.size <= b) /\ Below w'.heap.size w' w'' := fun w' q h => by
  have := yU (some ⟨q, 0, none⟩) R.length 17592186044415 (nt R) w' (h.gW hnb) (by omega) (by rw [aG]; omega);rw [CE, aG, aG] at this;exact this.mono fun e w'' ⟨⟨p, cp, he, h1, _, h2⟩, hbl⟩ => ⟨⟨(p, cp), he, h1, trivial, h2⟩, hbl⟩
 have hst : ∀ i, i < k -> gi (nt R) i = ((R.getD i 0 : Nat) : Int) := fun i hi => by
  rw [cW (by rw [aG]; omega)]; simp [nt, show i < R.length by omega]
 have hct : ∀ i, i < k -> kS (R.take (i + 1)) = kS (R.take i) + if decide (R.getD i 0 ≠ 0) then 1 else 0 := fun i hi => mI (by omega);have hcl : ∀ i, i <= k -> kS (R.take i) <= i := fun i hi => Nat.le_trans List.countP_le_length (by rw [List.length_take]; omega);have hbi : ∀ i, i < k -> aa (gi (nt R) i).natAbs <= 17592186044415 := fun i hi => hnb _ (gX (by rw [aG]; omega));have HF := H5 HF0;have HC := H5 (And.intro c2 (And.intro hst (And.intro hct (And.intro hcl (And.intro hbi (show (nt R).length = k by rw [aG]; exact hkk))))));have HT : Hid (R.take k = R) := H5 (List.take_of_length_le (by omega));rw [hkk, hd] at HC;rw [hkk] at HF hk;rw [hd];clear HF0 hnb c2 hst hct hcl hbi hkk hRb hd;refine bJ (S0 := fun _ => False) Tryz.func8 (Fr.nil _ w) ?_;refine ak ?_;refine aW fun g1 => ?_;refine aI ?_;refine eW ?_;refine ak ?_;refine dW ?_;refine jc (α := Nat) (mk := fun q => .tuple #[.slice (some ⟨q, 0, none⟩) k k, .int .i64 0]) (ao := fun q => some ⟨q, 0, none⟩) (xs := fun _ => nt R) (A := fun _ => True) (fun w' H => HF.out w' H.below) fun q => ?_;refine aI ?_;refine dW ?_;refine az ?_;refine c9 ?_;refine dB false ?_;refine eW ?_;refine kR ?_;refine gM ?_;refine ak ?_;refine aI ?_;refine eW ?_;refine ak ?_;refine aI ?_;refine fg ?_;refine di (X := A2) (GofI c k R) (fun z => k - z.i) (fun z => [(20, .int .i64 (z.i : Int)), (19, .int .i64 (k : Int)), (18, .slice (some ⟨q, 0, none⟩) k k), (5, .slice (some ⟨q, 0, none⟩) k k), (2, .int .i64 (z.rk : Int))]) (fun _ => [.jL (some ⟨q, 0, none⟩) (nt R)]) ⟨0, c⟩ ⟨Nat.zero_le _, rfl⟩ fun z hz => ?_;obtain ⟨i, rk⟩ := z;obtain ⟨hi, hr⟩ := hz
 replace hi : i <= k := hi
 replace hr : rk + kS (R.take i) = c := hr
 have hcl := HC.out.2.2.2.1 i hi;by_cases h : i < k
 . have h01 : (i : Int) < (k : Int) := by omega
   have hrk : rk <= 64 := by omega
   have HR := H5 (And.intro hr hcl);clear hr hcl;refine ak ?_;refine dB true ?_;refine fg ?_;refine tN (xs := nt R) (b := q) i (by simp) (by rw [HC.out.2.2.2.2.2]; exact h) fun p => ?_;refine mR ?_;refine ak ?_;refine dr ?_;refine aW fun g7 => ?_;refine sG ?_;refine eW ?_;refine ak ?_;refine dW ?_;refine cV (v := .int .i64 (aP (gi (nt R) i))) (fun w' H => cw _ _ w' (aN.int H.m3 (HC.out.2.2.2.2.1 i h))) ?_;by_cases h0 : gi (nt R) i = 0
   . have hz : aP (gi (nt R) i) = 0 := eh.2 h0;rw [hz];have hg : R.getD i 0 = 0 := by have := HC.out.2.1 i h; rw [h0] at this; omega
     have HG : Hid (rk + kS (R.take (i + 1)) = c) := H5 (by rw [HC.out.2.2.1 i h, hg]; exact HR.out.1);clear h0 hz hg;refine dB false ?_;refine eW ?_;refine kR ?_;refine gM ?_;refine ak ?_;refine dE (eZ (a := i) (by omega)) ?_;refine az ?_;exact cI (⟨i + 1, rk⟩ : A2) ⟨⟨h, HG.out⟩, by show k - (i + 1) < k - i; omega⟩
   . have hz : ¬ aP (gi (nt R) i) = 0 := fun e => h0 (eh.1 e);have hg : R.getD i 0 ≠ 0 := fun e => h0 (by rw [HC.out.2.1 i h, e]; rfl);have hn : kS (R.take (i + 1)) = kS (R.take i) + 1 := by rw [HC.out.2.2.1 i h, if_pos (decide_eq_true hg)]
     have hn2 := HC.out.2.2.2.1 (i + 1) h;have hrk1 : 1 <= rk := by have := HR.out.1; have := HR.out.2; omega
     have HG : Hid (rk - 1 + kS (R.take (i + 1)) = c) := H5 (by have := HR.out.1; omega);clear h0 hg hn hn2;refine dB true ?_;refine eW ?_;refine kR ?_;refine mR ?_;refine ak ?_;refine dW ?_;refine dE (Bw (a := rk) hrk1 (by omega)) ?_;refine az ?_;refine rW [] ?_;refine dE (eZ (a := i) (by omega)) ?_;refine az ?_;exact cI (⟨i + 1, rk - 1⟩ : A2) ⟨⟨h, HG.out⟩, by show k - (i + 1) < k - i; omega⟩
 . obtain rfl : i = k := by omega
   rw [HT.out] at hr hcl;obtain rfl : rk = c - kS R := by omega
   clear hr hcl;refine ak ?_;refine dB false ?_;refine eW ?_;refine kR ?_;refine gM ?_;refine ak ?_;refine dr ?_;refine jc (α := Option Addr × Nat) (mk := fun p => .slice p.1 d p.2) (ao := fun p => p.1) (xs := fun _ => nt (eY R)) (A := fun _ => True) (fun w' H => HC.out.1 w' q H.m0) fun p => ?_;refine aI ?_;refine fg ?_;refine oK fun w' H => ?_;exact ⟨_, _, _, cH, cH, cH, ⟨p, rfl, H.m0, trivial, (show True /\ _ from H.m1).2⟩, H.below⟩
theorem CQ : bP 1 2 [4, 0] [4, 0] 1 (fun i => i) := by
 have e0 : ∀ i j, aY [4, 0] 1 2 i j = if i = 0 /\ j = 0 then 4 else 0 := fun i j => by
  unfold aY;by_cases h : i < 1 /\ j < 2
  . obtain ⟨h1, h2⟩ := h;rw [if_pos ⟨h1, h2⟩];have hi : i = 0 := by omega
    have hj : j = 0 \/ j = 1 := by omega
    subst hi;rcases hj with rfl | rfl <;> rfl
  . rw [if_neg h, if_neg (by omega)]
 refine ⟨rfl, Nat.le_refl _, ⟨⟨fun i k h _ => h, fun i h => by omega, fun i hi j hj => ?_, fun i hi => ?_⟩, fun i k h1 h2 => by omega⟩, fun i hi b => ?_, ⟨fun k hk => Sp.row _ hk, fun k hk => Sp.row _ hk⟩⟩
 . rw [e0, if_neg (by omega)]
 . rw [e0]; have : i = 0 := by omega
   subst this; simp
 . rw [e0, if_neg (by omega)]
theorem dg_40 : fy 1 2 [4, 0] := fun i j hi hj h => by
 have hi' : i = 0 := by omega
 have hj' : j = 1 := by omega
 subst hi' hj'; rfl
theorem BV : nn 1 2 [4] [4, 0] := fun hs k l h => by
 obtain ⟨rfl, -, -⟩ := h.unique CQ;refine ⟨fun _ => ?_, fun q => absurd dg_40 q⟩;show aC [4] = [4];rw [aC]; simp only [bT]; rw [aC]
theorem nF (w : World) :
 Calls Tryz.prog 4 #[] w fun e w' => e = .returned (.bool true) /\ Below w.heap.size w w' := by
 have hw1 : ∀ x ∈ ([4, 0] : List Int), x.natAbs < W ^ 1 := fun x hx => by
  simp at hx; rcases hx with rfl | rfl <;> decide
 have hw2 : ∀ x ∈ ([4, 0] : List Int), aa x.natAbs <= 17592186044415 := fun x hx => Nat.le_trans (an (hw1 x hx)) (by omega);have hw3 : ∀ y ∈ [4], aa y <= 17592186044415 := fun y hy => by
  rw [List.mem_singleton.1 hy]; exact Nat.le_trans (an (show 4 < W ^ 1 by decide)) (by omega)
 have c1 : ∀ w' g, dw w' (some ⟨g, 0, none⟩) [4, 0] -> Calls Tryz.prog 8 #[.agg #[.int .i64 1, .int .i64 2, .slice (some ⟨g, 0, none⟩) 2 2]] w' fun e w'' => (∃ p : Option Addr × Nat, e = .returned (.tuple #[.int .i64 1, .slice p.1 1 p.2, .int .i64 0]) /\ dw w'' p.1 [4] /\ True /\ ∀ b o, p.1 = some ⟨b, o, none⟩ -> w'.heap.size <= b) /\ Below w'.heap.size w' w'' := fun w' g h => by
  have := yW 1 2 2 2 (some ⟨g, 0, none⟩) [4] w' (by omega) (by simp) hw3 fun w'' hb => by
   have := uq 1 2 1 (some ⟨g, 0, none⟩) 2 [4] [4, 0] w'' (by omega) (by omega) ((h.gW hw2).below hb) hw1 (by omega) rfl BV hw3;exact this
  exact this
 have HC := H5 c1;clear c1 hw1 hw2;refine bJ (S0 := fun _ => False) Tryz.func4 (Fr.nil _ w) ?_;refine ak ?_;refine az ?_;refine rW [] ?_;refine cN (x := ((4 : Nat) : Int)) (fun w' H => uV 4 w' (by omega) (by unfold W; omega)) fun p5 => ?_;refine dW ?_;refine bW (m := 2) fun g7 => ?_;refine dW ?_;refine jc (α := Option Addr × Nat) (mk := fun p => .tuple #[.int .i64 1, .slice p.1 1 p.2, .int .i64 0]) (ao := fun p => p.1) (xs := fun _ => [4]) (A := fun _ => True) (fun w' H => HC.out w' g7 ((aJ.mk' (ps := [p5, p0]) (tl := []) H.m0 aK.nil ⟨rfl, fun i hi => by
  match i, hi with
  | 0, _ => exact (H.m1 : ae ..).num
  | 1, _ => exact aN.zero w'⟩ : aJ w' g7 [4, 0]).x4)) fun q => ?_
 refine aI ?_;refine aI ?_;refine az ?_;refine c9 ?_;refine dB true ?_;refine dW ?_;refine dG ?_;refine gU true ?_;refine dr ?_;refine dG ?_;refine cGg (mk := av) (ens := fun p => [.own w.heap.size (av p) ((4 : Nat) : Int)]) (fun w' H => Cc (uV 4 w' (by omega) (by unfold W; omega)) H.size) fun p21 => ?_;simp only [av];refine bWg (m := 1) fun g22 => ?_;refine nV (v := .bool true) (fun w' H => by
  have h2 : dw w' (some ⟨g22, 0, none⟩) [4] := (aJ.mk' (ps := [p21]) (tl := []) H.m0 aK.nil ⟨rfl, fun i hi => by
   match i, hi with
   | 0, _ => exact (H.m1 : ae ..).num⟩ : aJ w' g22 [4]).x4
  have hb4 : ∀ x ∈ ([4] : List Int), aa x.natAbs <= 17592186044415 := fun x hx => by rw [List.mem_singleton.1 hx]; exact hw3 4 (by simp)
  have := oz q.1 (some ⟨g22, 0, none⟩) q.2 1 [4] [4] w' H.m2 h2 (by simp) (by simp) hb4 hb4;rw [decide_eq_true rfl] at this;exact this) ?_
 refine dW ?_;refine az ?_;refine cd fun w' H => ?_;exact ⟨_, cH, rfl, H.below⟩
theorem Bq {P : Program} {Q : Exit -> Act -> World -> Prop} {ds : List Deferred} {S0 : Nat -> Prop} {w0 : World} {n : Nat} {ls : List (Nat × Value)} {es : List En} {c : Code} {ao : Option Addr} {xs : List Int} (hm : En.jL ao xs ∈ es) (hl : 0 < xs.length) (k : ∀ b o, ao = some ⟨b, o, none⟩ -> fJ ds P n S0 w0 c Q ls es) : fJ ds P n S0 w0 c Q ls es := fun a w ha hw => by
 obtain ⟨b, o, e⟩ := dw.pos (hw.all _ hm : dw w ao xs) hl;exact k b o e a w ha hw
end Go.Proofs.YtbgecfleamckcaaGreat
namespace Go.Proofs.YtbgecfleamckcaaGreat
theorem Bo (n k l : Nat) (f : Nat -> Int) (hk : k < n) (hl : l < n) (hkl : k ≠ l) (h : ∀ i < n, i ≠ k -> i ≠ l -> f i = 0) : sm n f = f k + f l := by
 have e : sm n f = sm n (fun i => (if i = k then f i else 0) + (if i = k then 0 else f i)) := aE (fun i _ => by split <;> omega);rw [e, qS, j9 k hk (fun i _ hik => if_neg hik), j9 l hl (fun i hi hil => by
  by_cases hik : i = k
  . exact if_pos hik
  . rw [if_neg hik]; exact h i hi hik hil), if_pos rfl, if_neg (fun e => hkl e.symm)]
abbrev Mx := Nat -> Nat -> Int
def bX (i a : Nat) : Nat := if a < i then a else a + 1
def minor (M : Mx) (i : Nat) : Mx := fun a b => M (bX i a) (b + 1)
def eF (i : Nat) : Int := if i % 2 = 0 then 1 else -1
theorem lH (i : Nat) : eF (i + 1) = - eF i := by
 unfold eF
 (repeat' split) <;> first | rfl | omega
def aV : Nat -> Mx -> Int
 | 0, _ => 1
 | n + 1, M => sm (n + 1) fun i => eF i * M i 0 * aV n (minor M i)
theorem bw : ∀ (n : Nat) {M N : Mx}, (∀ i < n, ∀ j < n, M i j = N i j) -> aV n M = aV n N
 | 0, _, _, _ => rfl
 | n + 1, M, N, h => by
  unfold aV;refine aE fun i hi => ?_;rw [h i hi 0 (by omega), bw n (M := minor M i) (N := minor N i) fun a ha b hb => h _ (by unfold bX; split <;> omega) _ (by omega)]
def dm (M : Mx) (k : Nat) (R : Nat -> Int) : Mx := fun a b => if a = k then R b else M a b
theorem gv (M : Mx) (k : Nat) (R : Nat -> Int) : minor (dm M k R) k = minor M k := by
 funext a b;unfold minor dm bX;split <;> rw [if_neg (by omega)]
theorem fR (M : Mx) (k i : Nat) (R : Nat -> Int) (h : i ≠ k) : minor (dm M k R) i = dm (minor M i) (if k < i then k else k - 1) (fun b => R (b + 1)) := by
 funext a b;unfold minor dm bX;by_cases ha : a < i <;> by_cases hk : k < i <;> simp only [ha, hk, if_true, if_false] <;> split <;> split <;> first | rfl | (exfalso; omega)
theorem jR : ∀ (n : Nat) (M : Mx) (k : Nat) (c : Int) (U V : Nat -> Int), k < n -> aV n (dm M k fun j => c * U j + V j) = c * aV n (dm M k U) + aV n (dm M k V)
 | n + 1, M, k, c, U, V, hk => by
  unfold aV;rw [<- eX, <- qS];refine aE fun i hi => ?_;by_cases h : i = k
  . subst h;rw [gv, gv, gv];simp only [dm, if_pos];generalize aV n (minor M i) = d;rw [Int.mul_add, Int.add_mul, <- Int.mul_assoc, <- Int.mul_assoc, Int.mul_comm (eF i) c];simp only [Int.mul_assoc]
  . rw [fR M k i _ h, fR M k i _ h, fR M k i _ h, jR n (minor M i) _ c (fun b => U (b + 1)) (fun b => V (b + 1)) (by split <;> omega)];simp only [dm, if_neg h];rw [Int.mul_add, <- Int.mul_assoc, <- Int.mul_assoc, Int.mul_comm _ c, Int.mul_assoc c]
theorem nr : ∀ (n : Nat) (M : Mx) (k : Nat), k + 1 < n -> (∀ j < n, M k j = M (k + 1) j) -> aV n M = 0
 | n + 1, M, k, hk, h => by
  unfold aV;rw [Bo (n + 1) k (k + 1) _ (by omega) (by omega) (by omega) fun i hi h1 h2 => ?_]
  . have e : minor M k = minor M (k + 1) \/ True := .inr trivial;have e2 : aV n (minor M k) = aV n (minor M (k + 1)) := bw n fun a ha b hb => by
     unfold minor bX;by_cases h1 : a < k
     . rw [if_pos h1, if_pos (by omega)]
     . rw [if_neg h1];by_cases h3 : a = k
       . subst h3; rw [if_pos (by omega)]; exact (h (b + 1) (by omega)).symm
       . rw [if_neg (by omega)]
    rw [e2, h 0 (by omega), lH, Int.neg_mul, Int.neg_mul];omega
  . have : aV n (minor M i) = 0 := by
     by_cases hik : i < k
     . refine nr n _ (k - 1) (by omega) fun j hj => ?_;unfold minor bX;rw [if_neg (by omega), if_neg (by omega), show k - 1 + 1 = k by omega];exact h (j + 1) (by omega)
     . refine nr n _ k (by omega) fun j hj => ?_;unfold minor bX;rw [if_pos (by omega), if_pos (by omega)];exact h (j + 1) (by omega)
    rw [this, Int.mul_zero]
theorem iO (M : Mx) (k : Nat) : dm M k (M k) = M := by
 funext a b; unfold dm; split
 . rename_i h; rw [h]
 . rfl
theorem dR (M : Mx) {k l : Nat} (h : k ≠ l) (R R' : Nat -> Int) : dm (dm M k R) l R' = dm (dm M l R') k R := by
 funext a b; unfold dm; (repeat' split) <;> first | rfl | omega
theorem fI (M : Mx) (k : Nat) (R : Nat -> Int) : dm M k R k = R := by funext b; simp [dm]
theorem dD (M : Mx) {k l : Nat} (h : l ≠ k) (R : Nat -> Int) : dm M k R l = M l := by funext b; simp [dm, h]
theorem jK (n : Nat) (M : Mx) (k : Nat) (U V : Nat -> Int) (hk : k < n) : aV n (dm M k fun j => U j + V j) = aV n (dm M k U) + aV n (dm M k V) := by
 have := jR n M k 1 U V hk;simpa using this
theorem iH (n : Nat) (M : Mx) (k : Nat) (c : Int) (U : Nat -> Int) (hk : k < n) : aV n (dm M k fun j => c * U j) = c * aV n (dm M k U) := by
 have h := jR n M k c U (fun _ => 0) hk;have h0 := jR n M k (-1) (fun _ => 0) (fun _ => 0) hk;simp at h h0;rw [h]; omega
theorem x9 (n : Nat) (M : Mx) (k : Nat) (hk : k + 1 < n) (A B : Nat -> Int) : aV n (dm (dm M k A) (k + 1) B) = - aV n (dm (dm M k B) (k + 1) A) := by
 have z : ∀ C : Nat -> Int, aV n (dm (dm M k C) (k + 1) C) = 0 := fun C => nr n _ k hk fun j _ => by
  rw [dD _ (by omega), fI, fI]
 have s := z fun j => A j + B j;rw [jK n _ _ _ _ hk, dR M (by omega : k ≠ k + 1), dR M (by omega : k ≠ k + 1), jK n _ _ _ _ (by omega), jK n _ _ _ _ (by omega),
  <- dR M (by omega : k ≠ k + 1), <- dR M (by omega : k ≠ k + 1), <- dR M (by omega : k ≠ k + 1), <- dR M (by omega : k ≠ k + 1), z A, z B] at s
 omega
theorem re : ∀ (d n : Nat) (M : Mx) (k : Nat), k + d + 1 < n -> (∀ j, M k j = M (k + d + 1) j) -> aV n M = 0
 | 0, n, M, k, hk, h => nr n M k hk fun j _ => h j
 | d + 1, n, M, k, hk, h => by
  have e := x9 n M (k + d + 1) (by omega) (M (k + d + 1)) (M (k + d + 2));rw [iO M (k + d + 1), iO M (k + d + 2)] at e;rw [e, re d n _ k (by omega) fun j => ?_]
  . rfl
  . rw [dD _ (by omega), dD _ (by omega), dD _ (by omega), fI];exact h j
theorem iG (n : Nat) (M : Mx) {k l : Nat} (hk : k < n) (hl : l < n) (hkl : k ≠ l) (h : ∀ j, M k j = M l j) : aV n M = 0 := by
 rcases Nat.lt_or_gt_of_ne hkl with h1 | h1
 . exact re (l - k - 1) n M k (by omega) fun j => by rw [show k + (l - k - 1) + 1 = l by omega]; exact h j
 . exact re (k - l - 1) n M l (by omega) fun j => by rw [show l + (k - l - 1) + 1 = k by omega]; exact (h j).symm
theorem kH (n : Nat) (M : Mx) (k : Nat) (hk : k < n) (c : Nat -> Int) (hc : c k = 0) : ∀ (m : Nat), m <= n -> ∀ U : Nat -> Int, aV n (dm M k fun j => U j + sm m fun l => c l * M l j) = aV n (dm M k U)
 | 0, _, U => by simp [sm]
 | m + 1, hm, U => by
  have e : (fun j => U j + sm (m + 1) fun l => c l * M l j) = fun j => c m * M m j + (U j + sm m fun l => c l * M l j) := by
   funext j;show U j + (sm m (fun l => c l * M l j) + c m * M m j) = c m * M m j + (U j + sm m (fun l => c l * M l j));generalize c m * M m j = z;omega
  rw [e, jR n M k _ _ _ hk, kH n M k hk c hc m (by omega) U];by_cases hmk : m = k
  . rw [hmk, hc, Int.zero_mul, Int.zero_add]
  . rw [iG n (dm M k (M m)) hk (by omega) (fun e => hmk e.symm) fun j => by rw [fI, dD _ hmk]];rw [Int.mul_zero, Int.zero_add]
theorem sj (n : Nat) (M : Mx) {k l : Nat} (hk : k < n) (hl : l < n) (hkl : k ≠ l) (A B : Nat -> Int) : aV n (dm (dm M k A) l B) = - aV n (dm (dm M k B) l A) := by
 have z : ∀ C : Nat -> Int, aV n (dm (dm M k C) l C) = 0 := fun C => iG n _ hk hl hkl fun j => by
  rw [dD _ hkl, fI, fI]
 have s := z fun j => A j + B j;rw [jK n _ _ _ _ hl, dR M hkl, dR M hkl, jK n _ _ _ _ hk, jK n _ _ _ _ hk, <- dR M hkl, <- dR M hkl, <- dR M hkl, <- dR M hkl, z A, z B] at s;omega
theorem qG (n : Nat) (M : Mx) (k : Nat) (hk : k < n) (c : Nat -> Int) (R : Nat -> Nat -> Int) : ∀ m, aV n (dm M k fun j => sm m fun l => c l * R l j) = sm m fun l => c l * aV n (dm M k (R l))
 | 0 => by
  have := iH n M k 0 (fun _ => 0) hk;simpa [sm] using this
 | m + 1 => by
  have e : (fun j => sm (m + 1) fun l => c l * R l j) = fun j => c m * R m j + sm m fun l => c l * R l j := by
   funext j; simp only [sm]; omega
  rw [e, jR n M k _ _ _ hk, qG n M k hk c R m];simp only [sm]; omega
theorem zM (n : Nat) (f : Nat -> Nat) (hf : ∀ i < n, f i < n) (hi : ∀ i < n, ∀ j < n, f i = f j -> i = j) (k : Nat) (hk : k < n) : ∃ i < n, f i = k := by
 refine Classical.byContradiction fun hc => ?_;have hne : ∀ i < n, f i ≠ k := fun i h e => hc ⟨i, h, e⟩;obtain ⟨m, rfl⟩ : ∃ m, n = m + 1 := ⟨n - 1, by omega⟩;obtain ⟨i, j, h1, h2, h3⟩ := qI m (fun i => if f i < k then f i else f i - 1) (fun i h => by
  have := hf i (by omega); have := hne i (by omega);show (if f i < k then f i else f i - 1) < m;split <;> omega)
 have h4 : f i = f j := by
  have a := hne i (by omega); have b := hne j (by omega);have h3 : (if f i < k then f i else f i - 1) = (if f j < k then f j else f j - 1) := h3;split at h3 <;> split at h3 <;> omega
 have := hi i (by omega) j (by omega) h4;omega
theorem og (n : Nat) (A : Mx) : ∀ (d : Nat) (σ : Nat -> Nat), (∀ i < n, σ i < n) -> (∀ i, i + d < n -> σ i = i) -> d <= n -> aV n (fun i => A (σ i)) = 0 \/ (aV n (fun i => A (σ i))).natAbs = (aV n A).natAbs
 | 0, σ, _, h, _ => .inr (by rw [bw n (M := fun i => A (σ i)) (N := A) fun i hi j _ => by rw [h i (by omega)]])
 | d + 1, σ, h1, h2, hd => by
  by_cases hinj : ∀ i < n, ∀ j < n, σ i = σ j -> i = j
  . obtain ⟨i, hi, he⟩ := zM n σ h1 hinj (n - (d + 1)) (by omega);have hge : n - (d + 1) <= i := by
     refine Nat.le_of_not_lt fun hlt => ?_;have := h2 i (by omega); omega
    by_cases hik : i = n - (d + 1)
    . refine og n A d σ h1 (fun a ha => ?_) (by omega);by_cases e : a = n - (d + 1)
      . have h5 : a = i := e.trans hik.symm;rw [h5, he]; exact hik.symm
      . exact h2 a (by omega)
    . have e : (fun a => A (σ a)) = dm (dm (fun a => A (if a = n - (d + 1) then n - (d + 1) else if a = i then σ (n - (d + 1)) else σ a)) (n - (d + 1)) (A (σ (n - (d + 1))))) i (A (σ i)) := by
       funext a b;unfold dm;by_cases h3 : a = i
       . rw [if_pos h3, h3]
       . rw [if_neg h3];by_cases h4 : a = n - (d + 1)
         . rw [if_pos h4, h4]
         . rw [if_neg h4];show A (σ a) b = A (if a = n - (d + 1) then n - (d + 1) else if a = i then σ (n - (d + 1)) else σ a) b;rw [if_neg h4, if_neg h3]
      have e2 : dm (dm (fun a => A (if a = n - (d + 1) then n - (d + 1) else if a = i then σ (n - (d + 1)) else σ a)) (n - (d + 1)) (A (σ i))) i (A (σ (n - (d + 1)))) = fun a => A (if a = n - (d + 1) then n - (d + 1) else if a = i then σ (n - (d + 1)) else σ a) := by
       funext a b;unfold dm;by_cases h3 : a = i
       . rw [if_pos h3, if_neg (by omega), if_pos h3]
       . rw [if_neg h3];by_cases h4 : a = n - (d + 1)
         . rw [if_pos h4, if_pos h4, he]
         . rw [if_neg h4]
      rw [e, sj n _ (by omega) hi (fun h => hik h.symm), e2];have := og n A d (fun a => if a = n - (d + 1) then n - (d + 1) else if a = i then σ (n - (d + 1)) else σ a) (fun a ha => by
       split
       . omega
       . split
         . exact h1 _ (by omega)
         . exact h1 a ha) (fun a ha => by
       split
       . omega
       . rw [if_neg (by omega)]; exact h2 a (by omega)) (by omega)
      rcases this with h | h
      . exact .inl (by rw [h]; rfl)
      . exact .inr (by rw [Int.natAbs_neg]; exact h)
  . refine .inl ?_;simp only [Classical.not_forall] at hinj;obtain ⟨i, hi, j, hj, he, hne⟩ := hinj;exact iG n _ hi hj hne fun b => by rw [he]
theorem j0 (n : Nat) (A : Mx) : ∀ (k : Nat), k <= n -> ∀ B : Mx, (∀ i < k, Sp n A (B i)) -> (∀ i, k <= i -> i < n -> ∃ l < n, B i = A l) -> aV n A ∣ aV n B
 | 0, _, B, _, h => by
  have hs : ∀ i, ∃ l, i < n -> l < n /\ B i = A l := fun i => by
   by_cases hi : i < n
   . obtain ⟨l, hl, e⟩ := h i (Nat.zero_le _) hi; exact ⟨l, fun _ => ⟨hl, e⟩⟩
   . exact ⟨0, fun h => absurd h hi⟩
  obtain ⟨σ, hσ⟩ := Classical.axiomOfChoice hs;have e : aV n B = aV n (fun i => A (σ i)) := bw n fun i hi j _ => by rw [(hσ i hi).2]
  rw [e];rcases og n A n σ (fun i hi => (hσ i hi).1) (fun i hi => by omega) (Nat.le_refl _) with h | h
  . rw [h]; exact Int.dvd_zero _
  . exact Int.natAbs_dvd_natAbs.1 (by rw [h]; exact Nat.dvd_refl _)
 | k + 1, hk, B, h1, h2 => by
  obtain ⟨c, hc⟩ := h1 k (by omega);have e : B = dm B k (fun j => sm n fun l => c l * A l j) := by
   funext a b;unfold dm;split
   . rename_i h; rw [h]; exact hc b
   . rfl
  rw [e, qG n B k (by omega)];have hd : ∀ l < n, aV n A ∣ aV n (dm B k (A l)) := fun l hl => j0 n A k (by omega) _ (fun i hi => by rw [dD _ (by omega)]; exact h1 i (by omega)) (fun i hi hin => by
   by_cases hik : i = k
   . rw [hik, fI]; exact ⟨l, hl, rfl⟩
   . rw [dD _ hik]; exact h2 i (by omega) hin)
  have key : ∀ m, m <= n -> aV n A ∣ sm m fun l => c l * aV n (dm B k (A l)) := by
   intro m;induction m with
   | zero => intro _; exact Int.dvd_zero _
   | succ m ih => intro hm; exact Int.dvd_add (ih (by omega)) (Int.dvd_mul_of_dvd_right (hd m (by omega)))
  exact key n (Nat.le_refl _)
theorem mQ (n : Nat) {A B : Mx} (h : bj n A n B) : (aV n A).natAbs = (aV n B).natAbs :=
 Nat.dvd_antisymm (Int.natAbs_dvd_natAbs.2 (j0 n A n (Nat.le_refl _) B h.2 (fun i h1 h2 => by omega))) (Int.natAbs_dvd_natAbs.2 (j0 n B n (Nat.le_refl _) A h.1 (fun i h1 h2 => by omega)))
def bA : Nat -> (Nat -> Nat) -> Nat
 | 0, _ => 1
 | n + 1, f => bA n f * f n
theorem dM : ∀ (n : Nat) {f g : Nat -> Nat}, (∀ i < n, f i = g i) -> bA n f = bA n g
 | 0, _, _, _ => rfl
 | n + 1, f, g, h => by unfold bA; rw [dM n (fun i hi => h i (by omega)), h n (by omega)]
theorem iY : ∀ (n : Nat) (f : Nat -> Nat) (m : Nat), m <= n -> bA (n + 1) f = f m * bA n fun a => f (bX m a)
 | 0, f, m, hm => by
  obtain rfl : m = 0 := by omega
  simp [bA]
 | n + 1, f, m, hm => by
  by_cases e : m = n + 1
  . subst e;have : bA (n + 1) (fun a => f (bX (n + 1) a)) = bA (n + 1) f := dM _ fun i hi => by unfold bX; rw [if_pos hi]
    rw [this, Nat.mul_comm]; rfl
  . have ih := iY n f m (by omega);show bA (n + 1) f * f (n + 1) = f m * (bA n (fun a => f (bX m a)) * f (bX m n));rw [ih, show bX m n = n + 1 by unfold bX; rw [if_neg (by omega)], Nat.mul_assoc]
theorem gu : ∀ (n : Nat) (M : Mx) (p : Nat -> Nat), (∀ i < n, p i < n) -> (∀ i < n, ∀ j < n, p i = p j -> i = j) -> (∀ i < n, ∀ j, j < p i -> M i j = 0) -> (aV n M).natAbs = bA n fun i => (M i (p i)).natAbs
 | 0, _, _, _, _, _ => rfl
 | n + 1, M, p, h1, h2, h3 => by
  obtain ⟨m, hm, he⟩ := zM (n + 1) p h1 h2 0 (by omega);have hpos : ∀ i < n + 1, i ≠ m -> 0 < p i := fun i hi hne => Nat.pos_of_ne_zero fun e => hne (h2 i hi m hm (e.trans he.symm));have hsk : ∀ a < n, bX m a < n + 1 /\ bX m a ≠ m := fun a ha => by unfold bX; split <;> constructor <;> omega
  unfold aV;rw [j9 m hm fun i hi hne => by rw [h3 i hi 0 (hpos i hi hne)]; simp];have ih := gu n (minor M m) (fun a => p (bX m a) - 1) (fun a ha => by have := h1 _ (hsk a ha).1; have := hpos _ (hsk a ha).1 (hsk a ha).2; omega) (fun a ha b hb e => by
   have h4 := hpos _ (hsk a ha).1 (hsk a ha).2; have h5 := hpos _ (hsk b hb).1 (hsk b hb).2;have h6 := h2 _ (hsk a ha).1 _ (hsk b hb).1 (by omega);unfold bX at h6; split at h6 <;> split at h6 <;> omega) (fun a ha j hj => h3 _ (hsk a ha).1 (j + 1) (by omega))
  rw [Int.natAbs_mul, Int.natAbs_mul, ih, iY n _ m (by omega), he];have hs : (eF m).natAbs = 1 := by unfold eF; split <;> rfl
  rw [hs, Nat.one_mul];congr 1;exact dM n fun a ha => by
   have h4 := hpos _ (hsk a ha).1 (hsk a ha).2;unfold minor;rw [show p (bX m a) - 1 + 1 = p (bX m a) by omega]
def im : Nat -> (Nat -> Int) -> Int
 | 0, _ => 1
 | n + 1, f => im n f * f n
theorem pO : ∀ (n : Nat) (f : Nat -> Int), (im n f).natAbs = bA n fun i => (f i).natAbs
 | 0, _ => rfl
 | n + 1, f => by rw [im, Int.natAbs_mul, pO n f]; rfl
theorem tB : ∀ (n : Nat) {f : Nat -> Int}, (∀ i < n, f i ≠ 0) -> im n f ≠ 0
 | 0, _, _ => Int.one_ne_zero
 | n + 1, f, h => Int.mul_ne_zero (tB n fun i hi => h i (by omega)) (h n (by omega))
theorem sP (n : Nat) (A R : Mx) (up dn : Nat -> Int) (c : Nat -> Nat -> Int) (h : ∀ i < n, ∀ j, dn i * R i j = up i * A i j + sm i fun t => c i t * R t j) : im n dn * aV n R = im n up * aV n A := by
 obtain ⟨X, hX⟩ : ∃ X : Nat -> Mx, ∀ k i, X k i = if i < k then R i else A i := ⟨fun k i => if i < k then R i else A i, fun _ _ => rfl⟩;have key : ∀ k, k <= n -> im k dn * aV n (X k) = im k up * aV n A := by
  intro k;induction k with
  | zero =>
   intro _;have : X 0 = A := by funext i; rw [hX, if_neg (Nat.not_lt_zero i)]
   rw [this]; rfl
  | succ k ih =>
   intro hk;have h1 : X (k + 1) = dm (X k) k (R k) := by
    funext i j;unfold dm;rw [hX, hX];by_cases e : i = k
    . subst e; rw [if_pos (by omega), if_pos rfl]
    . rw [if_neg e];by_cases e2 : i < k
      . rw [if_pos (by omega), if_pos e2]
      . rw [if_neg (by omega), if_neg e2]
   have h2 : dn k * aV n (X (k + 1)) = up k * aV n (X k) := by
    rw [h1, <- iH n (X k) k (dn k) (R k) hk];have e : (fun j => dn k * R k j) = fun j => (up k * A k j) + sm k fun t => (if t < k then c k t else 0) * X k t j := by
     funext j;rw [h k hk];congr 1;exact aE fun t ht => by rw [if_pos ht, hX, if_pos ht]
    rw [e, kH n (X k) k hk (fun t => if t < k then c k t else 0) (by rw [if_neg (Nat.lt_irrefl k)]) k (by omega) (fun j => up k * A k j), iH n (X k) k (up k) (A k) hk];congr 1;have : dm (X k) k (A k) = X k := by
     have := iO (X k) k;rw [hX k k, if_neg (Nat.lt_irrefl k)] at this; exact this
    rw [this]
   rw [im, im, Int.mul_assoc, h2, Int.mul_left_comm, ih (by omega), <- Int.mul_assoc, Int.mul_comm (up k)]
 have := key n (Nat.le_refl n);have e : aV n (X n) = aV n R := bw n fun i hi j _ => by rw [hX, if_pos hi]
 rw [e] at this; exact this
theorem Sp.more {n m : Nat} {E : Mx} {v : Nat -> Int} (h : Sp n E v) (hm : n <= m) : Sp m E v := by
 obtain ⟨x, hx⟩ := h;obtain ⟨d, rfl⟩ : ∃ d, m = n + d := ⟨m - n, by omega⟩;refine ⟨fun k => if k < n then x k else 0, fun j => ?_⟩;rw [hx, fL n d, Go.Proofs.YtbgecfleamckcaaGreat.cQ (n := d) (f := fun k => (if n + k < n then x (n + k) else 0) * E (n + k) j) (fun k _ => by rw [if_neg (by omega), Int.zero_mul]), Int.add_zero];exact aE fun k hk => by show x k * E k j = (if k < n then x k else 0) * E k j; rw [if_pos hk]
def tp (A : Mx) : Mx := fun i j => A j i
def jg (M : Mx) (m : Nat) (f : Nat -> Int) : Mx := fun a b => if b = m then f a else M a b
theorem oh : ∀ (n : Nat) (M : Mx) (m : Nat), m < n -> ∀ (c : Nat) (y : Nat -> Int) (F : Nat -> Nat -> Int), aV n (jg M m fun a => sm c fun l => y l * F l a) = sm c fun l => y l * aV n (jg M m (F l))
 | n + 1, M, 0, _, c, y, F => by
  have hm : ∀ f i, minor (jg M 0 f) i = minor M i := fun f i => by funext a b; unfold minor jg; rw [if_neg (by omega)]
  unfold aV;have e : (fun i => eF i * jg M 0 (fun a => sm c fun l => y l * F l a) i 0 * aV n (minor (jg M 0 fun a => sm c fun l => y l * F l a) i)) = fun i => sm c fun l => y l * (eF i * F l i * aV n (minor M i)) := by
   funext i;rw [hm];show eF i * (if (0 : Nat) = 0 then sm c (fun l => y l * F l i) else M i 0) * aV n (minor M i) = _;rw [if_pos rfl, <- eX, <- lk];exact aE fun l _ => by rw [Int.mul_left_comm (eF i), Int.mul_assoc]
  rw [e, lr];refine aE fun l _ => ?_;rw [eX];congr 1
 | n + 1, M, m + 1, h, c, y, F => by
  have hm : ∀ f i, minor (jg M (m + 1) f) i = jg (minor M i) m fun a => f (bX i a) := fun f i => by
   funext a b; unfold minor jg;by_cases e : b = m
   . rw [if_pos (by omega), if_pos e]
   . rw [if_neg (by omega), if_neg e]
  have h0 : ∀ f i, jg M (m + 1) f i 0 = M i 0 := fun f i => if_neg (by omega);unfold aV;have e : (fun i => eF i * jg M (m + 1) (fun a => sm c fun l => y l * F l a) i 0 * aV n (minor (jg M (m + 1) fun a => sm c fun l => y l * F l a) i)) = fun i => sm c fun l => y l * (eF i * M i 0 * aV n (jg (minor M i) m fun a => F l (bX i a))) := by
   funext i;rw [hm, h0, oh n (minor M i) m (by omega) c y fun l a => F l (bX i a), <- eX];exact aE fun l _ => by rw [Int.mul_left_comm]
  rw [e, lr];refine aE fun l _ => ?_;rw [eX];congr 1;exact aE fun i _ => by rw [hm, h0]
def Mn (k : Nat) (x : Int) (r c : Nat) (A : Mx) : Prop := ∀ σ τ : Nat -> Nat, (∀ a < k, σ a < r) -> (∀ b < k, τ b < c) -> x ∣ aV k fun a b => A (σ a) (τ b)
theorem tP {x : Int} {f : Nat -> Int} : ∀ m, (∀ l < m, x ∣ f l) -> x ∣ sm m f
 | 0, _ => Int.dvd_zero _
 | m + 1, h => Int.dvd_add (tP m fun l hl => h l (by omega)) (h m (by omega))
theorem nQ {k r : Nat} {x : Int} {A B : Mx} (h : ∀ σ : Nat -> Nat, (∀ a < k, σ a < r) -> x ∣ aV k fun a b => A (σ a) b) (hB : ∀ i < k, Sp r A (B i)) : x ∣ aV k B := by
 have key : ∀ m, m <= k -> ∀ N : Mx, (∀ a < m, ∃ i < k, N a = B i) -> (∀ a, m <= a -> a < k -> ∃ i < r, N a = A i) -> x ∣ aV k N := by
  intro m;induction m with
  | zero =>
   intro _ N _ h2;have hs : ∀ a, ∃ i, a < k -> i < r /\ N a = A i := fun a => by
    by_cases ha : a < k
    . obtain ⟨i, hi, e⟩ := h2 a (Nat.zero_le _) ha; exact ⟨i, fun _ => ⟨hi, e⟩⟩
    . exact ⟨0, fun q => absurd q ha⟩
   obtain ⟨ρ, hρ⟩ := Classical.axiomOfChoice hs;rw [bw k (N := fun a b => A (ρ a) b) fun a ha b _ => by rw [(hρ a ha).2]];exact h ρ fun a ha => (hρ a ha).1
  | succ m ih =>
   intro hm N h1 h2;obtain ⟨i, hi, e⟩ := h1 m (by omega);obtain ⟨y, hy⟩ := hB i hi;have eN : N = dm N m fun b => sm r fun l => y l * A l b := by
    funext a b;unfold dm;split
    . rename_i q; rw [q, e, hy]
    . rfl
   rw [eN, qG k N m (by omega) y A];refine tP r fun l hl => Int.dvd_mul_of_dvd_right (ih (by omega) _ (fun a ha => ?_) fun a ha hk => ?_)
   . obtain ⟨i', hi', e'⟩ := h1 a (by omega);exact ⟨i', hi', by rw [dD N (by omega)]; exact e'⟩
   . by_cases q : a = m
     . exact ⟨l, hl, by rw [q, fI]⟩
     . obtain ⟨i', hi', e'⟩ := h2 a (by omega) hk;exact ⟨i', hi', by rw [dD N q]; exact e'⟩
 exact key k (Nat.le_refl _) _ (fun a ha => ⟨a, ha, rfl⟩) fun a h1 h2 => by omega
theorem Mn.rows {k r s c : Nat} {x : Int} {A B : Mx} (h : Mn k x r c A) (hB : ∀ i < s, Sp r A (B i)) : Mn k x s c B := fun σ τ hσ hτ =>
 nQ (A := fun i b => A i (τ b)) (fun ρ hρ => h ρ τ hρ hτ) fun i hi => by
  obtain ⟨y, hy⟩ := hB (σ i) (hσ i hi);exact ⟨y, fun b => hy (τ b)⟩
theorem Mn.qZ {k r s c : Nat} {x : Int} {A B : Mx} (h : Mn k x r c A) (hB : ∀ j < s, Sp c (tp A) (tp B j)) : Mn k x r s B := fun σ τ hσ hτ => by
 have key : ∀ m, m <= k -> ∀ N : Mx, (∀ b < m, ∃ j < s, ∀ a, N a b = B (σ a) j) -> (∀ b, m <= b -> b < k -> ∃ j < c, ∀ a, N a b = A (σ a) j) -> x ∣ aV k N := by
  intro m;induction m with
  | zero =>
   intro _ N _ h2;have hs : ∀ b, ∃ j, b < k -> j < c /\ ∀ a, N a b = A (σ a) j := fun b => by
    by_cases hb : b < k
    . obtain ⟨j, hj, e⟩ := h2 b (Nat.zero_le _) hb; exact ⟨j, fun _ => ⟨hj, e⟩⟩
    . exact ⟨0, fun q => absurd q hb⟩
   obtain ⟨ρ, hρ⟩ := Classical.axiomOfChoice hs;rw [bw k (N := fun a b => A (σ a) (ρ b)) fun a _ b hb => (hρ b hb).2 a];exact h σ ρ hσ fun b hb => (hρ b hb).1
  | succ m ih =>
   intro hm N h1 h2;obtain ⟨j, hj, e⟩ := h1 m (by omega);obtain ⟨y, hy⟩ := hB j hj;have eN : N = jg N m fun a => sm c fun l => y l * A (σ a) l := by
    funext a b;unfold jg;split
    . rename_i q; rw [q, e]; exact hy (σ a)
    . rfl
   rw [eN, oh k N m (by omega) c y fun l a => A (σ a) l];refine tP c fun l hl => Int.dvd_mul_of_dvd_right (ih (by omega) _ (fun b hb => ?_) fun b hb hk => ?_)
   . obtain ⟨j', hj', e'⟩ := h1 b (by omega);exact ⟨j', hj', fun a => by unfold jg; rw [if_neg (by omega)]; exact e' a⟩
   . by_cases q : b = m
     . exact ⟨l, hl, fun a => by unfold jg; rw [if_pos q]⟩
     . obtain ⟨j', hj', e'⟩ := h2 b (by omega) hk;exact ⟨j', hj', fun a => by unfold jg; rw [if_neg q]; exact e' a⟩
 exact key k (Nat.le_refl _) _ (fun b hb => ⟨τ b, hτ b hb, fun a => rfl⟩) fun b h1 h2 => by omega
def Sm (r c : Nat) (A B : Mx) : Prop := ∀ k x, Mn k x r c A ↔ Mn k x r c B
theorem Sm.refl (r c : Nat) (A : Mx) : Sm r c A A := fun _ _ => Iff.rfl
theorem Sm.symm {r c : Nat} {A B : Mx} (h : Sm r c A B) : Sm r c B A := fun k x => (h k x).symm
theorem Sm.trans {r c : Nat} {A B C : Mx} (h : Sm r c A B) (h' : Sm r c B C) : Sm r c A C := fun k x => (h k x).trans (h' k x)
theorem Sm.rows {r c : Nat} {A B : Mx} (h : bj r A r B) : Sm r c A B := fun _ _ => ⟨fun q => q.rows h.2, fun q => q.rows h.1⟩
theorem Sm.qZ {r c : Nat} {A B : Mx} (h : bj c (tp A) c (tp B)) : Sm r c A B := fun _ _ => ⟨fun q => q.qZ h.2, fun q => q.qZ h.1⟩
def il (d : Nat -> Nat) : Mx := fun i j => if i = j then (d i : Int) else 0
theorem qk {d : Nat -> Nat} (hd : ∀ a b, a <= b -> d a ∣ d b) : ∀ (k : Nat) (σ : Nat -> Nat), (∀ a < k, ∀ b < k, σ a = σ b -> a = b) -> bA k d ∣ bA k fun a => d (σ a)
 | 0, _, _ => Nat.dvd_refl _
 | k + 1, σ, h => by
  obtain ⟨m, hm, hge⟩ : ∃ m, m < k + 1 /\ k <= σ m := by
   refine Classical.byContradiction fun hc => ?_;have hlt : ∀ a < k + 1, σ a < k := fun a ha => Nat.lt_of_not_le fun q => hc ⟨a, ha, q⟩;obtain ⟨i, j, h1, h2, h3⟩ := qI k σ fun a ha => hlt a (by omega);have := h i (by omega) j (by omega) h3;omega
  have ih := qk hd k (fun a => σ (bX m a)) fun a ha b hb e => by
   have := h (bX m a) (by unfold bX; split <;> omega) (bX m b) (by unfold bX; split <;> omega) e;unfold bX at this; split at this <;> split at this <;> omega
  rw [iY k (fun a => d (σ a)) m (by omega), Nat.mul_comm];exact Nat.mul_dvd_mul ih (hd _ _ hge)
theorem nj {d : Nat -> Nat} (hd : ∀ a b, a <= b -> d a ∣ d b) (k r c : Nat) : Mn k (bA k d : Nat) r c (il d) := fun σ τ _ _ => by
 by_cases hinj : ∀ a < k, ∀ b < k, σ a = σ b -> a = b
 . have h1 := sP k (fun a b => if σ a = τ b then 1 else 0) (fun a b => il d (σ a) (τ b)) (fun a => (d (σ a) : Int)) (fun _ => 1) (fun _ _ => 0) fun i _ j => by
    rw [cQ fun t _ => Int.zero_mul _];show 1 * (if σ i = τ j then (d (σ i) : Int) else 0) = d (σ i) * (if σ i = τ j then 1 else 0) + 0;split <;> simp
   have h2 : im k (fun _ => 1) = 1 := by
    have : ∀ m, im m (fun _ => (1 : Int)) = 1 := by
     intro m;induction m with
     | zero => rfl
     | succ m ih => rw [im, ih]; rfl
    exact this k
   rw [h2, Int.one_mul] at h1;rw [h1];refine Int.dvd_mul_of_dvd_left (Int.natAbs_dvd_natAbs.1 ?_);rw [pO, Int.natAbs_natCast];have := qk hd k σ hinj
   rwa [dM k (f := fun i => ((d (σ i) : Int)).natAbs) (g := fun a => d (σ a)) fun i _ => Int.natAbs_natCast _]
 . simp only [Classical.not_forall] at hinj;obtain ⟨i, hi, j, hj, he, hne⟩ := hinj;rw [iG k _ hi hj hne fun b => by rw [he]];exact Int.dvd_zero _
theorem n7 (d : Nat -> Nat) (k : Nat) : (aV k (il d)).natAbs = bA k d := by
 rw [gu k (il d) (fun i => i) (fun i hi => hi) (fun i _ j _ e => e) fun i _ j hj => if_neg (by omega)];exact dM k fun i _ => by unfold il; rw [if_pos rfl]; exact Int.natAbs_natCast _
theorem yi {n : Nat} {d e : Nat -> Nat} (hd : ∀ a b, a <= b -> d a ∣ d b) (he : ∀ a b, a <= b -> e a ∣ e b) (h : ∀ k ≤ n, bA k d = bA k e) : ∀ i < n, d i = e i := fun i hi => by
 have h1 := h i (by omega);have h2 := h (i + 1) (by omega);simp only [bA] at h2;rw [h1] at h2;rcases Nat.eq_zero_or_pos (bA i e) with h0 | h0
 . have hz : ∀ (f : Nat -> Nat) m, (∀ a b, a <= b -> f a ∣ f b) -> bA m f = 0 -> m <= i -> f i = 0 := fun f m hf => by
    induction m with
    | zero => intro q; simp [bA] at q
    | succ m ih =>
     intro q hm;simp only [bA] at q;rcases Nat.mul_eq_zero.1 q with q | q
     . exact ih q (by omega)
     . have := hf m i (by omega);rw [q] at this;exact Nat.eq_zero_of_zero_dvd this
   rw [hz d i hd (h1.trans h0) (Nat.le_refl _), hz e i he h0 (Nat.le_refl _)]
 . exact Nat.eq_of_mul_eq_mul_left h0 h2
theorem r6 {r c n : Nat} {d e : Nat -> Nat} (hr : n <= r) (hc : n <= c) (hd : ∀ a b, a <= b -> d a ∣ d b) (he : ∀ a b, a <= b -> e a ∣ e b) (h : Sm r c (il d) (il e)) : ∀ i < n, d i = e i := by
 refine yi hd he fun k hk => Nat.dvd_antisymm ?_ ?_
 . have := ((h k _).1 (nj hd k r c)) (fun a => a) (fun a => a) (fun a ha => by omega) fun a ha => by omega
   have := Int.natAbs_dvd_natAbs.2 this
   rwa [Int.natAbs_natCast, show (fun a b => il e a b) = il e from rfl, n7] at this
 . have := ((h k _).2 (nj he k r c)) (fun a => a) (fun a => a) (fun a ha => by omega) fun a ha => by omega
   have := Int.natAbs_dvd_natAbs.2 this
   rwa [Int.natAbs_natCast, show (fun a b => il d a b) = il d from rfl, n7] at this
theorem nZ (n : Nat) (M : Mx) {a : Nat} (ha : a < n) (h : ∀ j < n, M a j = 0) : aV n M = 0 := by
 have e : aV n M = aV n (dm M a fun j => 0 * M a j) := bw n fun i _ j hj => by
  unfold dm;by_cases q : i = a
  . rw [if_pos q, q, h j hj]; show (0 : Int) = 0 * M a j; rw [Int.zero_mul]
  . rw [if_neg q]
 rw [e, iH n M a 0 (M a) ha, Int.zero_mul]
theorem nh : ∀ (n : Nat) (M : Mx), (∀ i < n, ∀ j < n, i < j -> M i j = 0) -> (aV n M).natAbs = bA n fun i => (M i i).natAbs
 | 0, _, _ => rfl
 | n + 1, M, h => by
  unfold aV;rw [j9 0 (by omega) fun i hi hne => by
   rw [nZ n (minor M i) (a := 0) (by omega) fun j hj => by
    show M (bX i 0) (j + 1) = 0;rw [show bX i 0 = 0 by unfold bX; rw [if_pos (by omega)]];exact h 0 (by omega) (j + 1) (by omega) (by omega), Int.mul_zero]]
  rw [Int.natAbs_mul, Int.natAbs_mul, nh n (minor M 0) fun i hi j hj hij => h _ (by unfold bX; split <;> omega) _ (by omega) (by unfold bX; split <;> omega), iY n _ 0 (by omega)];have : (eF 0).natAbs = 1 := rfl;rw [this, Nat.one_mul];congr 1
structure mU (k : Nat) (T : Mx) : Prop where
 out : ∀ i j, k <= i \/ k <= j -> T i j = 0
 low : ∀ i < k, ∀ j < i, T i j = 0
 pos : ∀ i < k, 0 < T i i
def Pp (T : Mx) (i : Nat) : Nat := bA i fun a => (T a a).natAbs
theorem mU.pp {k : Nat} {T : Mx} (h : mU k T) : ∀ i, i <= k -> 0 < Pp T i
 | 0, _ => Nat.one_pos
 | i + 1, hi => Nat.mul_pos (h.pp i (by omega)) (by show 0 < (T i i).natAbs; have := h.pos i (by omega); omega)
def trn0 (i : Nat) (v : Nat -> Int) : Nat -> Int := fun j => if j < i then v j else 0
section
variable {k k' s w : Nat} {T H : Mx} {l : Nat -> Nat}
theorem mU.next (h : mU k T) (hs : k <= s) (hH : eU k' w H l) (hz : ∀ i, k' <= i -> ∀ j, H i j = 0) (hsp : bj s (tp T) k' H) : k' = k /\ (∀ i < k, l i = i) /\ mU k H := by
 have hout : ∀ i, ∀ j, k <= j -> H i j = 0 := fun i j hj => by
  rcases Nat.lt_or_ge i k' with hi | hi
  . obtain ⟨x, hx⟩ := hsp.2 i hi;rw [hx];exact cQ fun t _ => by show x t * T j t = 0; rw [h.out j t (.inl hj), Int.mul_zero]
  . exact hz i hi j
 have hlk : ∀ i < k', l i < k := fun i hi => Nat.lt_of_not_le fun q => by
  have := hH.pos i hi;rw [hout i _ q] at this; omega
 have hge : ∀ i, i < k' -> i <= l i := by
  intro i;induction i with
  | zero => intro _; exact Nat.zero_le _
  | succ i ih => intro hi; have := ih (by omega); have := hH.inc i (i + 1) (by omega) hi; omega
 have h1 : k' <= k := Nat.le_of_not_lt fun q => by have := hge k q; have := hlk k q; omega
 have hdet : (aV k (tp T)).natAbs = Pp T k := nh k (tp T) fun i hi j hj hij => h.low j hj i hij;have h2 : k' = k := by
  refine Classical.byContradiction fun hne => ?_;have hdv := j0 k H k (Nat.le_refl _) (tp T) (fun i hi => (hsp.1 i (by omega)).more h1) (fun i h1 h2 => by omega);rw [nZ k H (a := k') (by omega) fun j _ => hz k' (Nat.le_refl _) j] at hdv;have := h.pp k (Nat.le_refl _);rw [<- hdet, Int.zero_dvd.1 hdv] at this;exact absurd this (by decide)
 subst h2;have hle : ∀ d i, i + d + 1 = k' -> l i <= i := by
  intro d;induction d with
  | zero => intro i hi; have := hlk i (by omega); omega
  | succ d ih => intro i hi; have := ih (i + 1) (by omega); have := hH.inc i (i + 1) (by omega) (by omega); omega
 have hl : ∀ i < k', l i = i := fun i hi => Nat.le_antisymm (hle (k' - i - 1) i (by omega)) (hge i hi);exact ⟨rfl, hl, ⟨fun i j hij => hij.elim (fun q => hz i q j) (hout i j), fun i hi j hj => hH.zero i hi j (by rw [hl i hi]; exact hj), fun i hi => by have := hH.pos i hi; rwa [hl i hi] at this⟩⟩
theorem mU.dvd (h : mU k T) (g : mU k H) (hs : k <= s) (hsp : bj s (tp T) k H) {i : Nat} (hi : i <= k) : Pp H i ∣ Pp T i := by
 obtain ⟨N, hN⟩ : ∃ N : Mx, ∀ a, N a = trn0 i (tp T a) := ⟨_, fun _ => rfl⟩;obtain ⟨K, hK⟩ : ∃ K : Mx, ∀ a, K a = trn0 i (H a) := ⟨_, fun _ => rfl⟩;have hN' : ∀ a j, N a j = if j < i then T j a else 0 := fun a j => by rw [hN]; rfl
 have hK' : ∀ a j, K a j = if j < i then H a j else 0 := fun a j => by rw [hK]; rfl
 have hdv := j0 i K i (Nat.le_refl _) N (fun a ha => by
  obtain ⟨x, hx⟩ := hsp.1 a (by omega);refine ⟨x, fun j => ?_⟩;rw [hN'];split
  . rename_i hj;have h1 : T j a = sm k fun t => x t * H t j := hx j;obtain ⟨d, rfl⟩ : ∃ d, k = i + d := ⟨k - i, by omega⟩;rw [h1, fL i d, cQ (n := d) fun t ht => by rw [g.low (i + t) (by omega) j (by omega), Int.mul_zero], Int.add_zero];exact aE fun t ht => by rw [hK', if_pos hj]
  . rename_i hj;exact (cQ fun t _ => by rw [hK', if_neg hj, Int.mul_zero]).symm) (fun a h1 h2 => by omega)
 have hdv := Int.natAbs_dvd_natAbs.2 hdv;rw [nh i N fun a ha b hb hab => by rw [hN', if_pos hb]; exact h.low b (by omega) a hab,
  gu i K (fun a => a) (fun a ha => ha) (fun a _ b _ e => e) fun a ha j hj => by rw [hK', if_pos (by omega)]; exact g.low a (by omega) j hj] at hdv
 rw [dM i (f := fun a => (K a a).natAbs) (g := fun a => (H a a).natAbs) fun a ha => by rw [hK', if_pos ha], dM i (f := fun a => (N a a).natAbs) (g := fun a => (T a a).natAbs) fun a ha => by rw [hN', if_pos ha]] at hdv;exact hdv
theorem mU.diag (h : mU k T) (g : mU k H) (hs : k <= s) (hH : eU k w H l) (hl : ∀ i < k, l i = i) (hsp : bj s (tp T) k H) (he : ∀ a < k, H a a = T a a) : ∀ a j, a ≠ j -> H a j = 0 := by
 have hred : ∀ a j, a < j -> j < k -> 0 <= H a j /\ H a j < H j j := fun a j h1 h2 => by
  have := hH.red a j h1 h2
  rwa [hl j h2] at this
 have key : ∀ a, a < k -> ∀ j, a < j -> j < k -> H a j = 0 := by
  intro a;induction a using Nat.strongRecOn with
  | _ a ih =>
   intro ha;obtain ⟨x, hx⟩ := hsp.1 a (by omega);have hx : ∀ j, T j a = sm k fun t => x t * H t j := hx;have hxa : x a = 1 := by
    have h1 := hx a;rw [j9 a ha fun b hb hne => by
     rcases Nat.lt_or_gt_of_ne hne with q | q
     . rw [ih b q hb a q ha, Int.mul_zero]
     . rw [g.low b hb a q, Int.mul_zero], he a ha] at h1
    have h2 := h.pos a ha;have h3 : x a * T a a = 1 * T a a := by omega
    exact Int.eq_of_mul_eq_mul_right (by omega) h3
   have hj : ∀ n j, j <= n -> a < j -> j < k -> H a j = 0 /\ x j = 0 := by
    intro n;induction n with
    | zero => intro j h1 h2; omega
    | succ n ihn =>
     intro j h1 h2 h3;have h4 := hx j;rw [h.low j h3 a h2, Bo k a j _ ha h3 (by omega) fun b hb h5 h6 => by
      rcases Nat.lt_or_ge b j with q | q
      . rcases Nat.lt_or_ge b a with q2 | q2
        . rw [ih b q2 hb j (by omega) h3, Int.mul_zero]
        . rw [(ihn b (by omega) (by omega) hb).2, Int.zero_mul]
      . rw [g.low b hb j (by omega), Int.mul_zero], hxa, Int.one_mul] at h4
     have h5 := hred a j h2 h3;have h6 := g.pos j h3;have hx0 : x j = 0 := by
      rcases Int.lt_trichotomy (x j) 0 with q | q | q
      . have : x j * H j j <= (-1) * H j j := Int.mul_le_mul_of_nonneg_right (by omega) (by omega);omega
      . exact q
      . have : 1 * H j j <= x j * H j j := Int.mul_le_mul_of_nonneg_right (by omega) (by omega);omega
     rw [hx0] at h4;exact ⟨by omega, hx0⟩
   exact fun j h1 h2 => (hj j j (Nat.le_refl _) h1 h2).1
 intro a j hne;rcases Nat.lt_or_ge a k with h1 | h1
 . rcases Nat.lt_or_ge j k with h2 | h2
   . rcases Nat.lt_or_gt_of_ne hne with q | q
     . exact key a h1 j q h2
     . exact g.low a h1 j q
   . exact g.out a j (.inr h2)
 . exact g.out a j (.inl h1)
end
def mu (k : Nat) (T : Mx) : Nat := ((List.range (k + 1)).map (Pp T)).sum
theorem um {f g : Nat -> Nat} : ∀ n, (∀ i < n, f i <= g i) -> ((List.range n).map f).sum <= ((List.range n).map g).sum
 | 0, _ => Nat.le_refl _
 | n + 1, h => by
  rw [List.range_succ, List.map_append, List.map_append, List.sum_append, List.sum_append];have h1 := um n fun i hi => h i (by omega);have h2 := h n (by omega);simp only [List.map_cons, List.map_nil, List.sum_cons, List.sum_nil]; omega
theorem yQ {f g : Nat -> Nat} {m : Nat} (hm : f m < g m) : ∀ n, m < n -> (∀ i < n, f i <= g i) -> ((List.range n).map f).sum < ((List.range n).map g).sum
 | 0, h, _ => by omega
 | n + 1, h, hle => by
  rw [List.range_succ, List.map_append, List.map_append, List.sum_append, List.sum_append];have h2 := hle n (by omega);simp only [List.map_cons, List.map_nil, List.sum_cons, List.sum_nil];by_cases e : m = n
  . subst e;have h1 := um m fun i hi => hle i (by omega);omega
  . have h1 := yQ hm n (by omega) fun i hi => hle i (by omega);omega
theorem mU.less {k s w : Nat} {T H : Mx} {l : Nat -> Nat} (h : mU k T) (g : mU k H) (hs : k <= s) (hH : eU k w H l) (hl : ∀ i < k, l i = i) (hsp : bj s (tp T) k H) : mu k H < mu k T \/ mu k H <= mu k T /\ ∀ a j, a ≠ j -> H a j = 0 := by
 have hle : ∀ i < k + 1, Pp H i <= Pp T i := fun i hi => Nat.le_of_dvd (h.pp i (by omega)) (h.dvd g hs hsp (by omega));by_cases hall : ∀ i < k + 1, Pp H i = Pp T i
 . refine .inr ⟨um _ hle, h.diag g hs hH hl hsp fun a ha => ?_⟩;have h1 := hall a (by omega);have h2 := hall (a + 1) (by omega);have h2 : Pp H a * (H a a).natAbs = Pp T a * (T a a).natAbs := h2;rw [h1] at h2;have h3 := Nat.eq_of_mul_eq_mul_left (h.pp a (by omega)) h2;have h4 := h.pos a ha;have h5 := g.pos a ha;omega
 . simp only [Classical.not_forall] at hall;obtain ⟨i, hi, hne⟩ := hall;have := hle i hi;exact .inl (yQ (m := i) (by omega) _ hi hle)
theorem pU {f : Nat -> Nat} : ∀ (n : Nat), (∀ i < n, 0 < f i) -> ∀ i < n, f i <= bA n f
 | 0, _, i, hi => by omega
 | n + 1, h, i, hi => by
  have hp : 0 < bA n f := by
   have : ∀ m, m <= n -> 0 < bA m f := by
    intro m;induction m with
    | zero => intro _; exact Nat.one_pos
    | succ m ih => intro hm; exact Nat.mul_pos (ih (by omega)) (h m (by omega))
   exact this n (Nat.le_refl _)
  show f i <= bA n f * f n;by_cases e : i = n
  . subst e; exact Nat.le_mul_of_pos_left _ hp
  . exact Nat.le_trans (pU n (fun i hi => h i (by omega)) i (by omega)) (Nat.le_mul_of_pos_right _ (h n (by omega)))
theorem mU.bound {k w : Nat} {H : Mx} {l : Nat -> Nat} (g : mU k H) (hH : eU k w H l) (hl : ∀ i < k, l i = i) (i j : Nat) : 0 <= H i j /\ (H i j).natAbs <= Pp H k := by
 have hp : ∀ a < k, (H a a).natAbs <= Pp H k := pU k fun a ha => by have := g.pos a ha; omega
 by_cases hi : i < k
 . by_cases hj : j < k
   . rcases Nat.lt_trichotomy i j with h | h | h
     . have h1 := hH.red i j h hj;rw [hl j hj] at h1;have h2 := hp j hj;omega
     . subst h;have := g.pos i hi;exact ⟨by omega, hp i hi⟩
     . rw [g.low i hi j h]; exact ⟨Int.le_refl _, Nat.zero_le _⟩
   . rw [g.out i j (.inr (by omega))]; exact ⟨Int.le_refl _, Nat.zero_le _⟩
 . rw [g.out i j (.inl (by omega))]; exact ⟨Int.le_refl _, Nat.zero_le _⟩
theorem qN {B : Nat} : ∀ (n : Nat) (M : Mx), (∀ i j, (M i j).natAbs <= B) -> (aV n M).natAbs <= (n * B) ^ n
 | 0, _, _ => Nat.le_refl _
 | n + 1, M, h => by
  unfold aV;have h1 : (sm (n + 1) fun i => eF i * M i 0 * aV n (minor M i)).natAbs <= (n + 1) * (B * (n * B) ^ n) := qy fun i _ => by
   rw [Int.natAbs_mul, Int.natAbs_mul, show (eF i).natAbs = 1 by unfold eF; split <;> rfl, Nat.one_mul];exact Nat.mul_le_mul (h i 0) (qN n (minor M i) fun a b => h _ _)
  refine Nat.le_trans h1 ?_;rw [Nat.pow_succ, Nat.mul_comm ((( n + 1) * B) ^ n), Nat.mul_assoc (n + 1) B];exact Nat.mul_le_mul_left _ (Nat.mul_le_mul_left _ (Nat.pow_le_pow_left (Nat.mul_le_mul_right _ (by omega)) n))
theorem mU.first {r c k k' : Nat} {A H G : Mx} {l l' : Nat -> Nat} (hH : eU k c H l) (hz : ∀ i, k <= i -> ∀ j, H i j = 0) (hsp : bj r A k H) (hG : eU k' r G l') (hzG : ∀ i, k' <= i -> ∀ j, G i j = 0) (hspG : bj c (tp H) k' G) :
 k' = k /\ (∀ i < k, l' i = i) /\ mU k G /\ ∃ σ : Nat -> Nat, (∀ a < k, σ a < r) /\ Pp G k <= (aV k fun a b => A (σ a) (l b)).natAbs := by
 have hout : ∀ i, ∀ j, k <= j -> G i j = 0 := fun i j hj => by
  rcases Nat.lt_or_ge i k' with hi | hi
  . obtain ⟨x, hx⟩ := hspG.2 i hi;rw [hx];exact cQ fun t _ => by show x t * H j t = 0; rw [hz j hj, Int.mul_zero]
  . exact hzG i hi j
 have hlk : ∀ i < k', l' i < k := fun i hi => Nat.lt_of_not_le fun q => by
  have := hG.pos i hi;rw [hout i _ q] at this; omega
 have hge : ∀ i, i < k' -> i <= l' i := by
  intro i;induction i with
  | zero => intro _; exact Nat.zero_le _
  | succ i ih => intro hi; have := ih (by omega); have := hG.inc i (i + 1) (by omega) hi; omega
 have h1 : k' <= k := Nat.le_of_not_lt fun q => by have := hge k q; have := hlk k q; omega
 obtain ⟨N, hN⟩ : ∃ N : Mx, ∀ a, N a = tp H (l a) := ⟨_, fun _ => rfl⟩;have hdetN : (aV k N).natAbs = bA k fun a => (H a (l a)).natAbs := by
  rw [nh k N fun i hi j hj hij => by rw [hN]; exact hH.zero j hj (l i) (hH.inc i j hij hj)];exact dM k fun i _ => by rw [hN]; rfl
 have hpos : 0 < bA k fun a => (H a (l a)).natAbs := by
  have : ∀ m, m <= k -> 0 < bA m fun a => (H a (l a)).natAbs := by
   intro m;induction m with
   | zero => intro _; exact Nat.one_pos
   | succ m ih => intro hm; exact Nat.mul_pos (ih (by omega)) (by show 0 < (H m (l m)).natAbs; have := hH.pos m (by omega); omega)
  exact this k (Nat.le_refl _)
 have hdv := j0 k G k (Nat.le_refl _) N (fun i hi => by rw [hN]; exact (hspG.1 (l i) (hH.lt i hi)).more h1) (fun i h1 h2 => by omega);have h2 : k' = k := by
  refine Classical.byContradiction fun hne => ?_;rw [nZ k G (a := k') (by omega) fun j _ => hzG k' (Nat.le_refl _) j] at hdv;rw [<- hdetN, Int.zero_dvd.1 hdv] at hpos;exact absurd hpos (by decide)
 subst h2;have hle : ∀ d i, i + d + 1 = k' -> l' i <= i := by
  intro d;induction d with
  | zero => intro i hi; have := hlk i (by omega); omega
  | succ d ih => intro i hi; have := ih (i + 1) (by omega); have := hG.inc i (i + 1) (by omega) (by omega); omega
 have hl : ∀ i < k', l' i = i := fun i hi => Nat.le_antisymm (hle (k' - i - 1) i (by omega)) (hge i hi);have hU : mU k' G := ⟨fun i j hij => hij.elim (fun q => hzG i q j) (hout i j), fun i hi j hj => hG.zero i hi j (by rw [hl i hi]; exact hj), fun i hi => by have := hG.pos i hi; rwa [hl i hi] at this⟩;refine ⟨rfl, hl, hU, ?_⟩;obtain ⟨σ, hσ, hne⟩ : ∃ σ : Nat -> Nat, (∀ a < k', σ a < r) /\ aV k' (fun a b => A (σ a) (l b)) ≠ 0 := by
  refine Classical.byContradiction fun hc => ?_;have h4 := nQ (k := k') (r := r) (x := 0) (A := fun i b => A i (l b)) (B := fun i b => H i (l b)) (fun σ hσ => by
   by_cases hq : aV k' (fun a b => A (σ a) (l b)) = 0
   . rw [hq]; exact Int.dvd_zero _
   . exact absurd ⟨σ, hσ, hq⟩ hc) fun i hi => by
   obtain ⟨x, hx⟩ := hsp.2 i hi;exact ⟨x, fun b => hx (l b)⟩
  have h5 : (aV k' fun a b => H a (l b)).natAbs = bA k' fun a => (H a (l a)).natAbs := gu k' (fun a b => H a (l b)) (fun a => a) (fun a ha => ha) (fun a _ b _ e => e) fun a ha j hj => hH.zero a ha (l j) (hH.inc j a hj ha);rw [<- h5, Int.zero_dvd.1 h4] at hpos;exact absurd hpos (by decide)
 refine ⟨σ, hσ, ?_⟩;have h3 : (aV k' fun a b => H a (l b)).natAbs = bA k' fun a => (H a (l a)).natAbs := gu k' (fun a b => H a (l b)) (fun a => a) (fun a ha => ha) (fun a _ b _ e => e) fun a ha j hj => hH.zero a ha (l j) (hH.inc j a hj ha);have h4 := j0 k' (fun a b => H a (l b)) k' (Nat.le_refl _) (fun a b => A (σ a) (l b)) (fun i hi => by
  obtain ⟨x, hx⟩ := hsp.1 (σ i) (hσ i hi);exact ⟨x, fun b => hx (l b)⟩) (fun i h1 h2 => by omega)
 have h5 : Pp G k' ∣ bA k' fun a => (H a (l a)).natAbs := by
  have := Int.natAbs_dvd_natAbs.2 hdv
  rwa [hdetN, gu k' G (fun a => a) (fun a ha => ha) (fun a _ b _ e => e) fun a ha j hj => hU.low a ha j hj] at this
 have h6 := Int.natAbs_dvd_natAbs.2 h4;rw [h3] at h6;exact Nat.le_of_dvd (Int.natAbs_pos.2 hne) (Nat.dvd_trans h5 h6)
inductive rA (r c : Nat) : Mx -> Mx -> Prop where
 | refl (A : Mx) : rA r c A A
 | rows {A B : Mx} (h : bj r A r B) : rA r c A B
 | qZ {A B : Mx} (h : bj c (tp A) c (tp B)) : rA r c A B
 | trans {A B C : Mx} (h : rA r c A B) (k : rA r c B C) : rA r c A C
theorem rA.sm {r c : Nat} {A B : Mx} (h : rA r c A B) : Sm r c A B := by
 induction h with
 | refl A => exact Sm.refl _ _ A
 | rows h => exact Sm.rows h
 | qZ h => exact Sm.qZ h
 | trans _ _ h1 h2 => exact h1.trans h2
theorem tX {r i j : Nat} {A B : Mx} {p q u v : Int} (hi : i < r) (hj : j < r) (hij : i ≠ j) (hd : p * v - q * u = 1) (h0 : ∀ t, t ≠ i -> t ≠ j -> B t = A t) (h1 : ∀ a, B i a = p * A i a + q * A j a) (h2 : ∀ a, B j a = u * A i a + v * A j a) : bj r A r B := by
 have k1 : ∀ a, A i a = v * B i a + (-q) * B j a := fun a => by
  have e : v * B i a + (-q) * B j a = (p * v - q * u) * A i a := by
   rw [h1, h2, Int.mul_add, Int.mul_add, Int.sub_mul, <- Int.mul_assoc, <- Int.mul_assoc, <- Int.mul_assoc, <- Int.mul_assoc, Int.mul_comm v p, Int.mul_comm v q, Int.neg_mul, Int.neg_mul, Int.neg_mul, Int.neg_mul]; omega
  rw [e, hd, Int.one_mul]
 have k2 : ∀ a, A j a = (-u) * B i a + p * B j a := fun a => by
  have e : (-u) * B i a + p * B j a = (p * v - q * u) * A j a := by
   rw [h1, h2, Int.mul_add, Int.mul_add, Int.sub_mul, <- Int.mul_assoc, <- Int.mul_assoc, <- Int.mul_assoc, <- Int.mul_assoc, Int.mul_comm q u, Int.mul_comm p u, Int.neg_mul, Int.neg_mul, Int.neg_mul, Int.neg_mul]; omega
  rw [e, hd, Int.one_mul]
 constructor
 . intro t ht;by_cases e1 : t = i
   . subst e1;exact (((Sp.row B hi).smul v).add ((Sp.row B hj).smul (-q))).congr k1
   . by_cases e2 : t = j
     . subst e2;exact (((Sp.row B hi).smul (-u)).add ((Sp.row B hj).smul p)).congr k2
     . rw [<- h0 t e1 e2]; exact Sp.row B ht
 . intro t ht;by_cases e1 : t = i
   . subst e1;exact (((Sp.row A hi).smul p).add ((Sp.row A hj).smul q)).congr h1
   . by_cases e2 : t = j
     . subst e2;exact (((Sp.row A hi).smul u).add ((Sp.row A hj).smul v)).congr h2
     . rw [h0 t e1 e2]; exact Sp.row A ht
theorem zr (a b : Nat) (h : Nat.gcd a b ≠ 0) : ∃ (x y : Int) (p q : Nat), a = Nat.gcd a b * p /\ b = Nat.gcd a b * q /\ (p : Int) * x + q * y = 1 := by
 obtain ⟨p, hp⟩ := Nat.gcd_dvd_left a b;obtain ⟨q, hq⟩ := Nat.gcd_dvd_right a b;by_cases hb : b = 0
 . subst hb;rw [Nat.gcd_zero_right] at hp hq h;exact ⟨1, 0, 1, 0, by rw [Nat.gcd_zero_right, Nat.mul_one], by simp, by simp⟩
 have he := kE (a : Int) (b : Int);unfold fM at he;rw [if_neg (by omega)] at he;obtain ⟨hg, -, -, hab⟩ := he;have hg : dz (a : Int) (b : Int) = (Nat.gcd a b : Int) := hg;rw [hg] at hab;refine ⟨fv a b, iQ a b, p, q, hp, hq, ?_⟩;have h2 : (Nat.gcd a b : Int) * ((p : Int) * fv a b + q * iQ a b) = (Nat.gcd a b : Int) * 1 := by
  rw [Int.mul_one, Int.mul_add, <- Int.mul_assoc, <- Int.mul_assoc, <- Int.natCast_mul, <- Int.natCast_mul, <- hp, <- hq];exact hab
 exact Int.eq_of_mul_eq_mul_left (by omega) h2
theorem Ax {r c i j : Nat} {d e : Nat -> Nat} (hi : i < r) (hj : j < r) (hic : i < c) (hjc : j < c) (hij : i ≠ j) (h0 : ∀ t, t ≠ i -> t ≠ j -> e t = d t) (h1 : e i = Nat.gcd (d i) (d j)) (h2 : e j = Nat.lcm (d i) (d j)) : rA r c (il d) (il e) := by
 by_cases hg : Nat.gcd (d i) (d j) = 0
 . have hz := Nat.gcd_eq_zero_iff.1 hg;have he : e = d := by
    funext t;by_cases e1 : t = i
    . subst e1; rw [h1, hz.1, hz.2]; rfl
    . by_cases e2 : t = j
      . subst e2; rw [h2, hz.1, hz.2]; rfl
      . exact h0 t e1 e2
   rw [he]; exact .refl _
 . obtain ⟨x, y, p, q, hp, hq, hxy⟩ := zr (d i) (d j) hg;obtain ⟨g, hgg⟩ : ∃ g, Nat.gcd (d i) (d j) = g := ⟨_, rfl⟩;have hl : Nat.lcm (d i) (d j) = g * p * q := by
    have h3 := Nat.gcd_mul_lcm (d i) (d j);rw [hgg] at h3 hp hq hg;have h4 : g * Nat.lcm (d i) (d j) = g * (g * p * q) := by
     rw [h3, hp, hq, Nat.mul_assoc g p q, Nat.mul_assoc g p, Nat.mul_left_comm p g q]
    exact Nat.eq_of_mul_eq_mul_left (Nat.pos_of_ne_zero hg) h4
   rw [hgg] at hp hq h1 hg;obtain ⟨M1, hM1⟩ : ∃ M : Mx, ∀ a b, M a b = if a = i then il d i b + il d j b else il d a b := ⟨fun a b => if a = i then il d i b + il d j b else il d a b, fun _ _ => rfl⟩;obtain ⟨M2, hM2⟩ : ∃ M : Mx, ∀ a b, M a b = if b = i then x * M1 a i + y * M1 a j else if b = j then (-(q : Int)) * M1 a i + p * M1 a j else M1 a b := ⟨fun a b => if b = i then x * M1 a i + y * M1 a j else if b = j then (-(q : Int)) * M1 a i + p * M1 a j else M1 a b, fun _ _ => rfl⟩;have s1 : bj r (il d) r M1 := tX (p := 1) (q := 1) (u := 0) (v := 1) hi hj hij (by omega) (fun t e1 _ => by funext b; rw [hM1, if_neg e1]) (fun b => by rw [hM1, if_pos rfl]; omega) (fun b => by rw [hM1, if_neg (fun e => hij e.symm)]; omega);have s2 : bj c (Go.Proofs.YtbgecfleamckcaaGreat.tp M1) c (Go.Proofs.YtbgecfleamckcaaGreat.tp M2) := tX (i := i) (j := j) (p := x) (q := y) (u := -(q : Int)) (v := p) hic hjc hij (by rw [Int.mul_neg, Int.mul_comm x, Int.mul_comm y]; omega)
    (fun t e1 e2 => by funext a; show M2 a t = M1 a t; rw [hM2, if_neg e1, if_neg e2]) (fun a => by show M2 a i = _; rw [hM2, if_pos rfl]; rfl) (fun a => by show M2 a j = _; rw [hM2, if_neg (fun e => hij e.symm), if_pos rfl]; rfl)
   have a1 : M1 i i = (d i : Int) := by rw [hM1, if_pos rfl]; unfold il; rw [if_pos rfl, if_neg (fun e => hij e.symm)]; omega
   have a2 : M1 i j = (d j : Int) := by rw [hM1, if_pos rfl]; unfold il; rw [if_neg hij, if_pos rfl]; omega
   have a3 : M1 j i = 0 := by rw [hM1, if_neg (fun e => hij e.symm)]; unfold il; rw [if_neg (fun e => hij e.symm)]
   have a4 : M1 j j = (d j : Int) := by rw [hM1, if_neg (fun e => hij e.symm)]; unfold il; rw [if_pos rfl]
   have b1 : M2 i i = (g : Int) := by
    rw [hM2, if_pos rfl, a1, a2, hp, hq, Int.natCast_mul, Int.natCast_mul];have : x * ((g : Int) * p) + y * ((g : Int) * q) = g * ((p : Int) * x + q * y) := by
     rw [Int.mul_add, Int.mul_left_comm x, Int.mul_left_comm y, Int.mul_comm x, Int.mul_comm y]
    rw [this, hxy, Int.mul_one]
   have b2 : M2 i j = 0 := by
    rw [hM2, if_neg (fun e => hij e.symm), if_pos rfl, a1, a2, hp, hq, Int.natCast_mul, Int.natCast_mul, Int.neg_mul, Int.mul_left_comm (q : Int), Int.mul_left_comm (p : Int) (g : Int), Int.mul_comm (q : Int) p]; omega
   have b3 : M2 j i = y * (g * q) := by rw [hM2, if_pos rfl, a3, a4, hq, Int.natCast_mul]; omega
   have b4 : M2 j j = (g : Int) * p * q := by
    rw [hM2, if_neg (fun e => hij e.symm), if_pos rfl, a3, a4, hq, Int.natCast_mul, Int.mul_zero, Int.zero_add, Int.mul_left_comm, Int.mul_assoc]
   have bo : ∀ a b, a ≠ i -> a ≠ j -> M2 a b = il d a b := fun a b e1 e2 => by
    have z1 : M1 a i = 0 := by rw [hM1, if_neg e1]; unfold il; rw [if_neg e1]
    have z2 : M1 a j = 0 := by rw [hM1, if_neg e1]; unfold il; rw [if_neg e2]
    rw [hM2, z1, z2];by_cases q1 : b = i
    . rw [if_pos q1, q1]; unfold il; rw [if_neg e1]; simp
    . by_cases q2 : b = j
      . rw [if_neg q1, if_pos q2, q2]; unfold il; rw [if_neg e2]; simp
      . rw [if_neg q1, if_neg q2, hM1, if_neg e1]
   have bi : ∀ b, b ≠ i -> b ≠ j -> M2 i b = 0 /\ M2 j b = 0 := fun b e1 e2 => by
    constructor
    . rw [hM2, if_neg e1, if_neg e2, hM1, if_pos rfl]; unfold il; rw [if_neg (fun e => e1 e.symm), if_neg (fun e => e2 e.symm)]; rfl
    . rw [hM2, if_neg e1, if_neg e2, hM1, if_neg (fun e => hij e.symm)]; unfold il; rw [if_neg (fun e => e2 e.symm)]
   have s3 : bj r M2 r (il e) := tX (i := i) (j := j) (p := 1) (q := 0) (u := -(y * q)) (v := 1) hi hj hij (by omega) (fun t e1 e2 => by
    funext b; rw [bo t b e1 e2]; unfold il; rw [h0 t e1 e2]) (fun b => by
    by_cases q1 : b = i
    . rw [q1, b1]; unfold il; rw [if_pos rfl, h1]; omega
    . unfold il; rw [if_neg (fun e => q1 e.symm)];by_cases q2 : b = j
      . rw [q2, b2]; omega
      . rw [(bi b q1 q2).1]; omega) (fun b => by
    by_cases q1 : b = i
    . rw [q1, b1, b3]; unfold il; rw [if_neg (fun e => hij e.symm), Int.neg_mul, Int.mul_assoc, Int.mul_comm (q : Int) g]; omega
    . by_cases q2 : b = j
      . rw [q2, b2, b4]; unfold il; rw [if_pos rfl, h2, hl, Int.natCast_mul, Int.natCast_mul]; omega
      . unfold il; rw [if_neg (fun e => q2 e.symm), (bi b q1 q2).1, (bi b q1 q2).2]; omega)
   exact .trans (.rows s1) (.trans (.qZ s2) (.rows s3))
def Dl (l : List Nat) : Mx := il fun i => l.getD i 0
theorem zL {r c : Nat} (pre cC suf : List Nat) (x y : Nat) (hr : (pre ++ x :: cC ++ y :: suf).length <= r) (hc : (pre ++ x :: cC ++ y :: suf).length <= c) : rA r c (Dl (pre ++ x :: cC ++ y :: suf)) (Dl (pre ++ Nat.gcd x y :: cC ++ Nat.lcm x y :: suf)) := by
 simp only [List.length_append, List.length_cons] at hr hc;have g1 : ∀ (x y : Nat) t, (pre ++ x :: cC ++ y :: suf).getD t 0 = if t < pre.length then pre.getD t 0 else if t = pre.length then x else if t < pre.length + 1 + cC.length then cC.getD (t - pre.length - 1) 0 else if t = pre.length + 1 + cC.length then y else suf.getD (t - pre.length - 1 - cC.length - 1) 0 := fun x y t => by
  simp only [List.getD_eq_getElem?_getD, List.append_assoc, List.cons_append, List.getElem?_append];by_cases h1 : t < pre.length
  . rw [if_pos h1, if_pos h1]
  . rw [if_neg h1, if_neg h1];by_cases h2 : t = pre.length
    . subst h2; simp
    . obtain ⟨u, hu⟩ : ∃ u, t - pre.length = u + 1 := ⟨t - pre.length - 1, by omega⟩;rw [if_neg h2, hu, List.getElem?_cons_succ, List.getElem?_append];by_cases h3 : u < cC.length
      . rw [if_pos h3, if_pos (by omega)]; simp
      . rw [if_neg h3, if_neg (by omega)];by_cases h4 : u = cC.length
        . subst h4; rw [if_pos (by omega)]; simp
        . obtain ⟨v, hv⟩ : ∃ v, u - cC.length = v + 1 := ⟨u - cC.length - 1, by omega⟩;rw [if_neg (by omega), hv, List.getElem?_cons_succ, show u + 1 - 1 - cC.length - 1 = v by omega]
 refine Ax (i := pre.length) (j := pre.length + 1 + cC.length) (by omega) (by omega) (by omega) (by omega) (by omega) (fun t e1 e2 => ?_) ?_ ?_
 . show (pre ++ Nat.gcd x y :: cC ++ Nat.lcm x y :: suf).getD t 0 = (pre ++ x :: cC ++ y :: suf).getD t 0;rw [g1, g1, if_neg e1, if_neg e1, if_neg e2, if_neg e2]
 . show (pre ++ Nat.gcd x y :: cC ++ Nat.lcm x y :: suf).getD pre.length 0 = Nat.gcd ((pre ++ x :: cC ++ y :: suf).getD pre.length 0) ((pre ++ x :: cC ++ y :: suf).getD (pre.length + 1 + cC.length) 0);rw [g1, g1, g1, if_neg (by omega), if_pos rfl, if_neg (by omega), if_pos rfl, if_neg (by omega), if_neg (by omega), if_neg (by omega), if_pos rfl]
 . show (pre ++ Nat.gcd x y :: cC ++ Nat.lcm x y :: suf).getD (pre.length + 1 + cC.length) 0 = Nat.lcm ((pre ++ x :: cC ++ y :: suf).getD pre.length 0) ((pre ++ x :: cC ++ y :: suf).getD (pre.length + 1 + cC.length) 0);rw [g1, g1, g1, if_neg (by omega), if_neg (by omega), if_neg (by omega), if_pos rfl, if_neg (by omega), if_pos rfl, if_neg (by omega), if_neg (by omega), if_neg (by omega), if_pos rfl]
theorem v8 {r c : Nat} (pre : List Nat) : ∀ (suf cC : List Nat) (x : Nat), (pre ++ x :: cC ++ suf).length <= r -> (pre ++ x :: cC ++ suf).length <= c -> rA r c (Dl (pre ++ x :: cC ++ suf)) (Dl (pre ++ (bT x suf).1 :: cC ++ (bT x suf).2))
 | [], cC, x, _, _ => .refl _
 | y :: suf, cC, x, hr, hc => by
  refine .trans (zL pre cC suf x y hr hc) ?_;have e : ∀ (a b : Nat) (l : List Nat), pre ++ a :: cC ++ b :: l = pre ++ a :: (cC ++ [b]) ++ l := fun a b l => by simp
  rw [e];have := v8 pre suf (cC ++ [Nat.lcm x y]) (Nat.gcd x y) (by rw [<- e]; simpa using hr) (by rw [<- e]; simpa using hc);rw [bT, e];exact this
theorem tI {r c : Nat} : ∀ (n : Nat) (l pre : List Nat), l.length = n -> (pre ++ l).length <= r -> (pre ++ l).length <= c -> rA r c (Dl (pre ++ l)) (Dl (pre ++ aC l))
 | 0, l, pre, h, _, _ => by
  obtain rfl := List.eq_nil_of_length_eq_zero h;rw [aC]; exact .refl _
 | n + 1, l, pre, h, hr, hc => by
  cases l with
  | nil => simp at h
  | cons x l =>
   have h1 := v8 pre l [] x (by simpa using hr) (by simpa using hc);have e : ∀ (a : Nat) (l : List Nat), pre ++ [a] ++ l = pre ++ a :: l := fun a l => by simp
   rw [aC];refine .trans (B := Dl (pre ++ (bT x l).1 :: (bT x l).2)) (by simpa using h1) ?_;have hl := dS l x;have h2 := tI n (bT x l).2 (pre ++ [(bT x l).1]) (by rw [hl]; simpa using h) (by simp [hl] at hr |-; omega) (by simp [hl] at hc |-; omega);rw [e, e] at h2;exact h2
theorem qU {l : List Nat} (h : gZ l) : ∀ a b, a <= b -> (fun i => if i < l.length then l.getD i 0 else 0) a ∣ (fun i => if i < l.length then l.getD i 0 else 0) b := by
 induction l with
 | nil => intro a b _; simp
 | cons x l ih =>
  intro a b hab;have h3 : ∀ {l : List Nat} {x : Nat}, gZ (x :: l) -> ∀ y ∈ l, x ∣ y := by
   intro l;induction l with
   | nil => intro x _ y hy; cases hy
   | cons z l ih2 =>
    rintro x ⟨q1, q2⟩ y hy;rcases List.mem_cons.1 hy with rfl | hy
    . exact q1
    . exact Nat.dvd_trans q1 (ih2 q2 y hy)
  cases b with
  | zero =>
   obtain rfl : a = 0 := by omega
   exact Nat.dvd_refl _
  | succ b =>
   cases a with
   | zero =>
    show (if 0 < (x :: l).length then (x :: l).getD 0 0 else 0) ∣ (if b + 1 < (x :: l).length then (x :: l).getD (b + 1) 0 else 0);by_cases hb : b + 1 < (x :: l).length
    . rw [if_pos hb, if_pos (by omega)];have hb' : b < l.length := by simpa using hb
      exact h3 h _ (by simp [hb'])
    . rw [if_neg hb]; exact Nat.dvd_zero _
   | succ a =>
    have := ih h.tail a b (by omega);simpa using this
theorem sO {r c : Nat} {A : Mx} {l m : List Nat} (hl : l.length = min r c) (hm : m.length = min r c) (h1 : Sm r c A (Dl l)) (h2 : Sm r c A (Dl m)) (c1 : gZ l) (c2 : gZ m) : l = m := by
 have e : ∀ l : List Nat, (fun i => if i < l.length then l.getD i 0 else 0) = fun i => l.getD i 0 := fun l => by
  funext i;by_cases h : i < l.length
  . rw [if_pos h]
  . rw [if_neg h]; simp [h]
 have k1 := qU c1;have k2 := qU c2;rw [e] at k1 k2;have := r6 (r := r) (c := c) (n := min r c) (Nat.min_le_left ..) (Nat.min_le_right ..) k1 k2 (h1.symm.trans h2);refine List.ext_getElem (hl.trans hm.symm) fun i q1 q2 => ?_;have := this i (by omega);simpa [q1, q2] using this
def n6 (r c : Nat) (xs : List Int) (R : List Nat) : Prop := R.length = min r c /\ gZ R /\ rA r c (aY xs r c) (Dl R)
theorem n6.unique {r c : Nat} {xs : List Int} {R R' : List Nat} (h : n6 r c xs R) (h' : n6 r c xs R') : R = R' := sO h.1 h'.1 h.2.2.sm h'.2.2.sm h.2.1 h'.2.1
theorem Bt {r c : Nat} (xs : List Int) : aY (jf r c xs) c r = tp (aY xs r c) := by
 funext i j;show aY (jf r c xs) c r i j = aY xs r c j i;unfold aY;by_cases h : i < c /\ j < r
 . rw [if_pos h, if_pos ⟨h.2, h.1⟩]; exact Ci xs h.1 h.2
 . rw [if_neg h, if_neg fun q => h ⟨q.2, q.1⟩]
theorem AQ {n : Nat} (E : Mx) {v : Nat -> Int} (h : ∀ j, v j = 0) : Sp n E v := ⟨fun _ => 0, fun j => by rw [h j]; exact (cQ fun t _ => Int.zero_mul _).symm⟩
theorem lX {r k : Nat} {A H : Mx} (hk : k <= r) (hz : ∀ i, k <= i -> ∀ j, H i j = 0) (h : bj r A k H) : bj r A r H :=
 ⟨fun i hi => (h.1 i hi).more hk, fun i hi => by
  by_cases q : i < k
  . exact h.2 i q
  . exact AQ A (hz i (by omega))⟩
theorem yN {xs : List Int} {r c B : Nat} (h : ∀ x ∈ xs, x.natAbs <= B) (i j : Nat) : (aY xs r c i j).natAbs <= B := by
 unfold aY;split
 . by_cases q : i * c + j < xs.length
   . rw [show xs.getD (i * c + j) 0 = xs[i * c + j] by simp [q]]; exact h _ (List.getElem_mem q)
   . simp [Nat.le_of_not_lt q]
 . exact Nat.zero_le _
theorem su {xs : List Int} {r c : Nat} (hl : xs.length = r * c) {x : Int} (h : x ∈ xs) : ∃ i j, i < r /\ j < c /\ x = aY xs r c i j := by
 obtain ⟨q, hq, rfl⟩ := List.getElem_of_mem h;have hc : 0 < c := Nat.pos_of_ne_zero fun e => by rw [hl, e, Nat.mul_zero] at hq; omega
 have h1 : q / c < r := Nat.div_lt_of_lt_mul (by rw [Nat.mul_comm]; omega);have h2 : q % c < c := Nat.mod_lt _ hc;refine ⟨q / c, q % c, h1, h2, ?_⟩;rw [fq h1 h2, show q / c * c + q % c = q by rw [Nat.mul_comm]; exact Nat.div_add_mod q c];simp [hq]
def Dp (m : Nat) : Nat := (64 * W ^ m) ^ 64
theorem By (m : Nat) : Dp m < W ^ (64 * (m + 1)) := by
 unfold Dp;rw [Nat.mul_comm 64 (m + 1), Nat.pow_mul];refine Nat.pow_lt_pow_left ?_ (by omega);rw [Nat.pow_succ, Nat.mul_comm];exact (Nat.mul_lt_mul_left (Nat.pow_pos (by unfold W; omega))).2 (by unfold W; omega)
theorem mU.pp_le {k : Nat} {T : Mx} (h : mU k T) {i : Nat} (hi : i <= k) : Pp T i <= Pp T k := by
 obtain ⟨d, rfl⟩ : ∃ d, k = i + d := ⟨k - i, by omega⟩;have : ∀ e, e <= d -> Pp T i <= Pp T (i + e) := by
  intro e;induction e with
  | zero => intro _; exact Nat.le_refl _
  | succ e ih =>
   intro he;refine Nat.le_trans (ih (by omega)) ?_;exact Nat.le_mul_of_pos_right _ (show 0 < (T (i + e) (i + e)).natAbs by have := h.pos (i + e) (by omega); omega)
 exact this d (Nat.le_refl _)
theorem mU.mu_le {k B : Nat} {T : Mx} (h : mU k T) (hB : Pp T k <= B) : mu k T <= (k + 1) * B := by
 have : ∀ n, n <= k + 1 -> ((List.range n).map (Pp T)).sum <= n * B := by
  intro n;induction n with
  | zero => intro _; exact Nat.zero_le _
  | succ n ih =>
   intro hn;rw [List.range_succ, List.map_append, List.sum_append, Nat.succ_mul];have h1 := ih (by omega);have h2 := h.pp_le (i := n) (by omega);simp only [List.map_cons, List.map_nil, List.sum_cons, List.sum_nil];omega
 exact this (k + 1) (Nat.le_refl _)
def DgT (T : Mx) : Prop := ∀ a j, a ≠ j -> T a j = 0
structure UI (m k w n : Nat) (T : Mx) : Prop where
 up : mU k T
 hm : ∃ l, eU k w T l /\ ∀ i < k, l i = i
 bd : Pp T k <= Dp m
 fu : 2 * mu k T + 1 <= n \/ 2 * mu k T <= n /\ DgT T
theorem UI.next {m k w n v k' : Nat} {T H : Mx} {l : Nat -> Nat} (h : UI m k w n T) (hnd : ¬ DgT T) (hH : eU k' v H l) (hz : ∀ i, k' <= i -> ∀ j, H i j = 0) (hsp : bj w (tp T) k' H) : ∃ n', n' < n /\ UI m k' v n' H := by
 obtain ⟨l0, h0, hl0⟩ := h.hm;have hkw : k <= w := Nat.le_of_not_lt fun q => by have := h0.lt w q; rw [hl0 w q] at this; omega
 obtain ⟨rfl, hl, hu⟩ := h.up.next hkw hH hz hsp;have hf : 2 * mu k' T + 1 <= n := h.fu.elim id fun q => absurd q.2 hnd;have hpd := Nat.le_of_dvd (h.up.pp k' (Nat.le_refl _)) (h.up.dvd hu hkw hsp (Nat.le_refl _));rcases h.up.less hu hkw hH hl hsp with q | ⟨q, q2⟩
 . exact ⟨2 * mu k' H + 1, by omega, hu, ⟨l, hH, hl⟩, Nat.le_trans hpd h.bd, .inl (Nat.le_refl _)⟩
 . exact ⟨2 * mu k' H, by omega, hu, ⟨l, hH, hl⟩, Nat.le_trans hpd h.bd, .inr ⟨Nat.le_refl _, q2⟩⟩
theorem UI.first {m r c k k' : Nat} {xs hs : List Int} {G : Mx} {l l' : Nat -> Nat} (hr : r <= 64) (hm : ∀ x ∈ xs, x.natAbs < W ^ m) (h : bP r c xs hs k l) (hG : eU k' r G l') (hzG : ∀ i, k' <= i -> ∀ j, G i j = 0) (hspG : bj c (tp (aY hs r c)) k' G) : ∃ n', n' < 130 * Dp m + 4 /\ UI m k' r n' G := by
 obtain ⟨rfl, hl, hu, σ, hσ, hd⟩ := mU.first h.herm h.zero h.sp hG hzG hspG;have h1 := qN k' (fun a b => aY xs r c (σ a) (l b)) fun i j => yN (fun x hx => Nat.le_of_lt (hm x hx)) (σ i) (l j);have hk : k' <= 64 := Nat.le_trans h.kr hr;have hB : 0 < 64 * W ^ m := Nat.mul_pos (by omega) (Nat.pow_pos (by unfold W; omega));have h2 : (k' * W ^ m) ^ k' <= Dp m := Nat.le_trans (Nat.pow_le_pow_left (Nat.mul_le_mul_right _ hk) k') (Nat.pow_le_pow_right hB hk);have hb : Pp G k' <= Dp m := Nat.le_trans hd (Nat.le_trans h1 h2);have h3 := hu.mu_le hb;have h4 : (k' + 1) * Dp m <= 65 * Dp m := Nat.mul_le_mul_right _ (by omega);exact ⟨2 * mu k' G + 1, by omega, hu, ⟨l', hG, hl⟩, hb, .inl (Nat.le_refl _)⟩
theorem UI.get {m k w n : Nat} {T : Mx} (h : UI m k w n T) (i j : Nat) : 0 <= T i j /\ (T i j).natAbs <= Dp m := by
 obtain ⟨l, h0, hl⟩ := h.hm;have := h.up.bound h0 hl i j;exact ⟨this.1, Nat.le_trans this.2 h.bd⟩
structure F3X where
 rows : Bool
 n : Nat
 ao : Option Addr
 cap : Nat
 hs : List Int
structure pg (r c m : Nat) (xs : List Int) (z : F3X) : Prop where
 len : z.hs.length = r * c
 eqv : rA r c (aY xs r c) (aY z.hs r c)
 ok : (z.rows = false /\ (∃ k l, bP r c xs z.hs k l) /\ (∀ x ∈ z.hs, x.natAbs < W ^ hW m) /\ 130 * Dp m + 4 <= z.n) \/ (z.rows = true /\ ∃ k, UI m k r z.n (tp (aY z.hs r c))) \/ (z.rows = false /\ ∃ k, UI m k c z.n (aY z.hs r c))
section
variable {r c m n k n' : Nat} {xs hs ts : List Int} {ao ao' : Option Addr} {cap cap' : Nat} {l : Nat -> Nat} {b : Bool}
theorem pg.start (h : bP r c xs hs k l) (hb : ∀ x ∈ hs, x.natAbs < W ^ hW m) : pg r c m xs ⟨false, 130 * Dp m + 4, ao, cap, hs⟩ :=
 ⟨h.len, .rows (lX h.kr h.zero h.sp), .inl ⟨rfl, ⟨k, l, h⟩, hb, Nat.le_refl _⟩⟩
theorem pg.bnd (h : pg r c m xs ⟨b, n, ao, cap, hs⟩) : ∀ x ∈ hs, x.natAbs < W ^ hW m := by
 have hpw : W ^ (64 * (m + 1)) <= W ^ hW m := Nat.pow_le_pow_right (by unfold W; omega) (by unfold hW fz; omega);rcases h.ok with ⟨_, _, q, _⟩ | ⟨_, k, q⟩ | ⟨_, k, q⟩
 . exact q
 . intro x hx;obtain ⟨i, j, _, _, rfl⟩ := su h.len hx;exact Nat.lt_of_le_of_lt (q.get j i).2 (Nat.lt_of_lt_of_le (By m) hpw)
 . intro x hx;obtain ⟨i, j, _, _, rfl⟩ := su h.len hx;exact Nat.lt_of_le_of_lt (q.get i j).2 (Nat.lt_of_lt_of_le (By m) hpw)
theorem xz (h : ¬ fy r c hs) : ¬ DgT (aY hs r c) /\ ¬ DgT (tp (aY hs r c)) :=
 ⟨fun q => h fun i j hi hj hij => by have := q i j hij; rw [fq hi hj] at this; exact this,
  fun q => h fun i j hi hj hij => by have : aY hs r c i j = 0 := q j i (Ne.symm hij); rw [fq hi hj] at this; exact this⟩
theorem pg.CK (hr : r <= 64) (hm : ∀ x ∈ xs, x.natAbs < W ^ m) (h : pg r c m xs ⟨false, n, ao, cap, hs⟩) (hd : ¬ fy r c hs) (hT : bP c r (jf r c hs) ts k l) : ∃ n', n' < n /\ pg r c m xs ⟨true, n', ao', cap', jf c r ts⟩ := by
 have hsp : bj c (tp (aY hs r c)) k (aY ts c r) := by have := hT.sp; rw [Bt] at this; exact this
 have e : tp (aY (jf c r ts) r c) = aY ts c r := by rw [Bt]; rfl
 have hq : rA r c (aY xs r c) (aY (jf c r ts) r c) := h.eqv.trans (.qZ (by rw [e]; exact lX hT.kr hT.zero hsp));rcases h.ok with ⟨_, ⟨k0, l0, q⟩, _, q2⟩ | ⟨q, _⟩ | ⟨_, k0, q⟩
 . obtain ⟨n', h1, h2⟩ := UI.first hr hm q hT.herm hT.zero hsp;exact ⟨n', Nat.lt_of_lt_of_le h1 q2, iR c r ts, hq, .inr (.inl ⟨rfl, k, by rw [e]; exact h2⟩)⟩
 . cases q
 . obtain ⟨n', h1, h2⟩ := q.next (xz hd).1 hT.herm hT.zero hsp;exact ⟨n', h1, iR c r ts, hq, .inr (.inl ⟨rfl, k, by rw [e]; exact h2⟩)⟩
theorem pg.form (h : pg r c m xs ⟨true, n, ao, cap, hs⟩) (hd : ¬ fy r c hs) (hT : bP r c hs ts k l) : ∃ n', n' < n /\ pg r c m xs ⟨false, n', ao', cap', ts⟩ := by
 have hq : rA r c (aY xs r c) (aY ts r c) := h.eqv.trans (.rows (lX hT.kr hT.zero hT.sp));rcases h.ok with ⟨q, _⟩ | ⟨_, k0, q⟩ | ⟨q, _⟩
 . cases q
 . obtain ⟨n', h1, h2⟩ := q.next (xz hd).2 hT.herm hT.zero hT.sp;exact ⟨n', h1, hT.len, hq, .inr (.inr ⟨rfl, k, h2⟩)⟩
 . cases q
theorem Al {k w : Nat} {E : Mx} (h : eU k w E l) (hz : ∀ i, k <= i -> ∀ j, E i j = 0) (i : Nat) : 0 <= E i i := by
 by_cases hi : i < k
 . have hge : ∀ i, i < k -> i <= l i := by
    intro i;induction i with
    | zero => intro _; exact Nat.zero_le _
    | succ i ih => intro hi; have := ih (by omega); have := h.inc i (i + 1) (by omega) hi; omega
   rcases Nat.lt_or_ge i (l i) with q | q
   . rw [h.zero i hi i q]; exact Int.le_refl _
   . have := h.pos i hi;rw [Nat.le_antisymm q (hge i hi)] at this;exact Int.le_of_lt this
 . rw [hz i (by omega)]; exact Int.le_refl _
theorem pg.fin (h : pg r c m xs ⟨b, n, ao, cap, hs⟩) (hd : fy r c hs) : n6 r c xs (aC (aT c (min r c) hs)) := by
 have h0 : ∀ i, 0 <= aY hs r c i i := fun i => by
  rcases h.ok with ⟨_, ⟨k, l, q⟩, _⟩ | ⟨_, k, q⟩ | ⟨_, k, q⟩
  . exact Al q.herm q.zero i
  . exact (q.get i i).1
  . exact (q.get i i).1
 have hl : (aT c (min r c) hs).length = min r c := by rw [aT, List.length_map, aQ]
 have e : aY hs r c = Dl (aT c (min r c) hs) := by
  funext i j;show aY hs r c i j = if i = j then (((aT c (min r c) hs).getD i 0 : Nat) : Int) else 0;by_cases hij : i = j
  . subst hij;rw [if_pos rfl];by_cases hi : i < min r c
    . have h1 : i < r /\ i < c := by omega
      have h2 : (aT c (min r c) hs).getD i 0 = (gi hs (i * c + i)).natAbs := by
       rw [List.getD_eq_getElem?_getD, List.getElem?_eq_getElem (by rw [hl]; exact hi)];unfold aT dh;simp
      rw [h2];have h3 : aY hs r c i i = gi hs (i * c + i) := fq h1.1 h1.2;have := h0 i;rw [h3] at this |-;omega
    . rw [show (aT c (min r c) hs).getD i 0 = 0 by rw [List.getD_eq_getElem?_getD, List.getElem?_eq_none (by rw [hl]; omega)]; rfl];unfold aY;rw [if_neg (by omega)]; rfl
  . rw [if_neg hij];unfold aY;split
    . rename_i q; exact hd i j q.1 q.2 hij
    . rfl
 have hch : (aC (aT c (min r c) hs)).length = min r c := by rw [fB, fZ, hl]
 refine ⟨hch, uE _, ?_⟩;have h1 := h.eqv;rw [show aY (⟨b, n, ao, cap, hs⟩ : F3X).hs r c = aY hs r c from rfl, e] at h1;exact h1.trans (tI (min r c) (aT c (min r c) hs) [] hl (by rw [List.nil_append, hl]; exact Nat.min_le_left ..) (by rw [List.nil_append, hl]; exact Nat.min_le_right ..))
end
end Go.Proofs.YtbgecfleamckcaaGreat
namespace Go.Proofs.YtbgecfleamckcaaGreat
open Go.RowKit
theorem tW {r c k : Nat} {xs : List Int} (hr : k <= r) (hc : k <= c) (h : xs.length = k) : dh c k (bD c (aS xs) (r * c)) = xs := by
 refine List.ext_getElem (by rw [aQ, h]) fun i h1 h2 => ?_;have hi : i < k := by rw [aQ] at h1; exact h1
 have e := nY (c := c) (xs := bD c (aS xs) (r * c)) hi;rw [cW h1] at e;rw [e];have := iM (r := r) (c := c) (i := i) (j := i) (aS xs) (by omega) (by omega);unfold gi;rw [this, aS, if_pos ⟨rfl, h2⟩, cW h2]
theorem xm (r c m : Nat) (ao : Option Addr) (cap : Nat) (xs : List Int) (w : World) (hr : r <= 64) (hc : c <= 64) (h : bc w 17592186044415 ao xs) (hm : ∀ x ∈ xs, x.natAbs < W ^ m) (hm1 : m <= 1048576) (hs : xs.length = r * c) :
 Calls Tryz.prog 31 #[.agg #[.int .i64 (r : Int), .int .i64 (c : Int), .slice ao (r * c) cap]] w fun e w' => (∃ p : (Option Addr × Nat) × List Nat, e = .returned (.tuple #[.agg #[.int .i64 (r : Int), .int .i64 (c : Int), .slice p.1.1 (r * c) p.1.2], .int .i64 0]) /\ dw w' p.1.1 (bD c (aS (nt p.2)) (r * c)) /\ (n6 r c xs p.2 /\ ∀ y ∈ p.2, aa y <= 8900000000) /\ ∀ b o, p.1.1 = some ⟨b, o, none⟩ -> w.heap.size <= b) /\ Below w.heap.size w w' := by
 have hF := fun w' h => qT r c m ao cap xs w' hr hc h hm (by omega) hs;have ehw : hW m = 132 * m + 133 := by unfold hW fz; omega
 have hm2 : hW m <= 140000000 := by rw [ehw]; omega
 have hm3 : hW m * 64 + 1 <= 8900000000 := by rw [ehw]; omega
 clear ehw;have hT := fun w' ao cap (hs' : List Int) h (hB : ∀ x ∈ hs', x.natAbs < W ^ hW m) (hl : hs'.length = r * c) => pQ r c (hW m) ao cap hs' w' hr hc h hB hm2 hl;have hF2 := fun w' ao cap (hs' : List Int) h (hB : ∀ x ∈ hs', x.natAbs < W ^ hW m) (hl : hs'.length = r * c) => qT r c (hW m) ao cap hs' w' hr hc h hB hm2 hl;have hI0 : ∀ (hs' : List Int) k l (b : Nat), bP r c xs hs' k l -> (∀ x ∈ hs', x.natAbs < W ^ hW m) -> pg r c m xs ⟨false, 130 * Dp m + 4, some ⟨b, 0, none⟩, r * c, hs'⟩ := fun hs' k l b h1 h2 => pg.start h1 h2;have hbn : ∀ b n qo qc (hs' : List Int), pg r c m xs ⟨b, n, qo, qc, hs'⟩ -> ∀ x ∈ hs', x.natAbs < W ^ hW m := fun b n qo qc hs' h => h.bnd;have htu := fun n qo qc (hs' : List Int) (h : pg r c m xs ⟨false, n, qo, qc, hs'⟩) (hd : ¬ fy r c hs') ts k l (hT : bP c r (jf r c hs') ts k l) qo' qc' => h.CK (ao' := qo') (cap' := qc') hr hm hd hT;obtain ⟨M, hM⟩ : ∃ M, hW m = M := ⟨_, rfl⟩;rw [hM] at hF hT hF2 hI0 hbn hm2 hm3;obtain ⟨N0, hN0⟩ : ∃ N, 130 * Dp m + 4 = N := ⟨_, rfl⟩;rw [hN0] at hI0;have HF := H5 hF;have HT := H5 hT;have HF2 := H5 hF2;have HI0 := H5 (And.intro hI0 (And.intro hbn htu));have hrc : r * c <= 4096 := Nat.mul_le_mul hr hc;clear hs hm hM hN0 hF hT hF2 hI0 hbn htu hm1;refine bJ (S0 := fun _ => False) Tryz.func31 ((Fr.nil _ w).l h (by simp)) ?_;refine ak ?_;refine aW fun g1 => ?_;refine aW fun g2 => ?_;refine az ?_;refine c9 ?_;refine jc (α := Nat × List Int) (mk := fun p => .tuple #[.agg #[.int .i64 (r : Int), .int .i64 (c : Int), .slice (some ⟨p.1, 0, none⟩) (r * c) (r * c)], .int .i64 0]) (ao := fun p => some ⟨p.1, 0, none⟩) (xs := fun p => p.2) (A := fun p => (∃ k l, bP r c xs p.2 k l) /\ p.2.length = r * c /\ ∀ x ∈ p.2, x.natAbs < W ^ M) (fun w' H => HF.out w' H.m2) fun p => ?_;obtain ⟨b, hs⟩ := p;refine aI ?_;refine aW fun g4 => ?_;refine sG ?_;refine az ?_;refine u5 (A := ((∃ k l, bP r c xs hs k l) /\ hs.length = r * c /\ ∀ x ∈ hs, x.natAbs < W ^ M) /\ ∀ b' o, some (⟨b, 0, none⟩ : Addr) = some ⟨b', o, none⟩ -> w.heap.size <= b') (by simp) fun hA => ?_;have HI : Hid (pg r c m xs ⟨false, N0, some ⟨b, 0, none⟩, r * c, hs⟩) := H5 (by obtain ⟨⟨⟨k, l, q⟩, _, q2⟩, _⟩ := hA; exact HI0.out.1 hs k l b q q2);clear hA;refine c9 ?_;refine dB false ?_;refine eW ?_;refine kR ?_;refine gM ?_;refine ak ?_;refine az ?_;refine di (X := F3X) (pg r c m xs) (fun z => z.n) (fun z => [(6, .bool z.rows), (4, .pointer (some ⟨g4, 0, none⟩)), (2, .pointer (some ⟨g2, 0, none⟩)), (1, .pointer (some ⟨g1, 0, none⟩))])
  (fun z => [.row g4 24 [.int .i64 (r : Int), .int .i64 (c : Int), .slice z.ao (r * c) z.cap], .row g2 24 [.int .i64 0, .int .i64 0, .slice none 0 0], .row g1 24 [.int .i64 (r : Int), .int .i64 (c : Int), .slice ao (r * c) cap], .jL z.ao z.hs]) ⟨false, N0, some ⟨b, 0, none⟩, r * c, hs⟩ HI.out fun z hz => ?_
 clear HI;obtain ⟨rows, n, qo, qc, hs⟩ := z;have hl : hs.length = r * c := hz.len;have hB2 : ∀ x ∈ hs, x.natAbs < W ^ M := HI0.out.2.1 rows n qo qc hs hz;have HZ : Hid (pg r c m xs ⟨rows, n, qo, qc, hs⟩) := H5 hz;have hAt : ∀ w', dw w' qo hs -> bc w' 17592186044415 qo hs := fun w' h => r9 h hB2 (by omega);have HAT := H5 hAt;have hdgv := fun t ht w' (h : dw w' qo hs) => qH (r := r) (c := c) (cap := qc) (xs := hs) t hr hc (hAt w' h) (Nat.le_refl _) hl ht;rw [hl] at hdgv;have HDV := H5 hdgv;clear hdgv hAt hz;by_cases hdg : fy r c hs
 . have HSM := H5 (HZ.out.fin hdg);have HH : Hid (fy r c hs /\ hs.length = r * c) := H5 ⟨hdg, hl⟩;have hkr : min r c <= 64 := Nat.le_trans (Nat.min_le_left ..) hr;have HDN : Hid (∀ w', dw w' qo hs -> Calls Tryz.prog 32 #[.agg #[.int .i64 (r : Int), .int .i64 (c : Int), .slice qo (r * c) qc]] w' fun e w'' => (∃ q : Nat, e = .returned (.slice (some ⟨q, 0, none⟩) (min r c) (min r c)) /\ dw w'' (some ⟨q, 0, none⟩) (dh c (min r c) hs) /\ True /\ ∀ b o, some (⟨q, 0, none⟩ : Addr) = some ⟨b, o, none⟩ -> w'.heap.size <= b) /\ Below w'.heap.size w' w'') := H5 fun w' h1 => by
    have := lL r c qo qc 17592186044415 hs w' hr hc (HAT.out w' h1) (Nat.le_refl _) HH.out.2;rw [HH.out.2] at this;exact this.mono fun e w'' ⟨⟨q, he, hq, hR⟩, hb⟩ => ⟨⟨q, he, hR.x4, trivial, fun b' o e => by cases e; exact hq⟩, hb⟩
   have hdl : ∀ x ∈ dh c (min r c) hs, x.natAbs < W ^ M := fun x hx => by
    unfold dh at hx;obtain ⟨i, hi, rfl⟩ := List.mem_map.1 hx;have hi := List.mem_range.1 hi;refine hB2 _ (gX ?_);rw [HH.out.2];exact sf (by have := Nat.min_le_left r c; omega) (by have := Nat.min_le_right r c; omega)
   have hP : aa (du (aT c (min r c) hs)) <= 8900000000 := by
    have h1 := jU M (aT c (min r c) hs) (fun x hx => by
     unfold aT at hx;obtain ⟨y, hy, rfl⟩ := List.mem_map.1 hx;exact hdl y hy)
    have h2 : (aT c (min r c) hs).length = min r c := by rw [aT, List.length_map, aQ]
    rw [h2] at h1;have h3 : M * min r c <= M * 64 := Nat.mul_le_mul_left _ hkr;have h4 := an (Nat.lt_of_le_of_lt h1 (Nat.pow_lt_pow_right (by decide : 1 < W) (Nat.lt_succ_self (M * min r c))));omega
   have hcl : (aC (aT c (min r c) hs)).length = min r c := by rw [fB, fZ, aT, List.length_map, aQ]
   have HCH : Hid (∀ w' q, dw w' (some ⟨q, 0, none⟩) (dh c (min r c) hs) -> Calls Tryz.prog 63 #[.slice (some ⟨q, 0, none⟩) (min r c) (min r c)] w' fun e w'' => (∃ q2 : Nat, e = .returned (.slice (some ⟨q2, 0, none⟩) (min r c) (min r c)) /\ dw w'' (some ⟨q2, 0, none⟩) (nt (aC (aT c (min r c) hs))) /\ True /\ ∀ b o, some (⟨q2, 0, none⟩ : Addr) = some ⟨b, o, none⟩ -> w'.heap.size <= b) /\ Below w'.heap.size w' w'') := H5 fun w' q h1 => by
    have := o0 (some ⟨q, 0, none⟩) (min r c) 17592186044415 (dh c (min r c) hs) w' (h1.gW fun x hx => Nat.le_trans (an (hdl x hx)) (by omega)) (Nat.le_refl _) (by rw [aQ]; omega) (Nat.le_trans hP (by omega));rw [aQ] at this;exact this.mono fun e w'' ⟨⟨q2, he, hq, hR⟩, hb⟩ => ⟨⟨q2, he, hR.x4, trivial, fun b' o e => by cases e; exact hq⟩, hb⟩
   have hnN : ∀ y ∈ aC (aT c (min r c) hs), aa y <= 8900000000 := fun y hy => by
    have := lO (P := du (aT c (min r c) hs)) (fun z hz => Dv.oD hz) y hy;exact Nat.le_trans (aF (this.le (gE _))) (Nat.le_trans hP (by omega))
   have hnl : ∀ x ∈ nt (aC (aT c (min r c) hs)), aa x.natAbs <= 17592186044415 := fun x hx => by
    unfold nt at hx;obtain ⟨y, hy, rfl⟩ := List.mem_map.1 hx;exact Nat.le_trans (hnN y hy) (by omega)
   have HDG : Hid (∀ w' q, dw w' (some ⟨q, 0, none⟩) (nt (aC (aT c (min r c) hs))) -> Calls Tryz.prog 21 #[.int .i64 (r : Int), .int .i64 (c : Int), .slice (some ⟨q, 0, none⟩) (min r c) (min r c)] w' fun e w'' => (∃ p : Option Addr × Nat, e = .returned (.tuple #[.agg #[.int .i64 (r : Int), .int .i64 (c : Int), .slice p.1 (r * c) p.2], .int .i64 0]) /\ dw w'' p.1 (bD c (aS (nt (aC (aT c (min r c) hs)))) (r * c)) /\ True /\ ∀ b o, p.1 = some ⟨b, o, none⟩ -> w'.heap.size <= b) /\ Below w'.heap.size w' w'') := H5 fun w' q h1 => by
    have := nf r c (some ⟨q, 0, none⟩) (min r c) 17592186044415 (nt (aC (aT c (min r c) hs))) w' hr hc (by rw [aG, hcl]; exact Nat.le_refl _) (h1.gW hnl) (Nat.le_refl _);rw [aG, hcl] at this;exact this
   have HNN := H5 hnN;obtain ⟨R, hR⟩ : ∃ R, aC (aT c (min r c) hs) = R := ⟨_, rfl⟩;rw [hR] at HCH HDG hcl HSM HNN;have HRL := H5 hcl;clear hcl hnl hnN hP hdl hkr hR hB2 hdg hl;obtain ⟨k, hk⟩ : ∃ k, min r c = k := ⟨_, rfl⟩;rw [hk] at HDN HCH HDG HRL;clear hk;refine ak ?_;refine dW ?_;refine cV (v := .bool true) (fun w' H => HDV.out true ⟨fun _ => HH.out.1, fun _ => rfl⟩ w' H.m3) ?_;refine az ?_;refine gM ?_;refine ak ?_;refine aI ?_;refine dr ?_;refine jc (α := Nat) (mk := fun q => .slice (some ⟨q, 0, none⟩) k k) (ao := fun q => some ⟨q, 0, none⟩) (xs := fun _ => dh c k hs) (A := fun _ => True) (fun w' H => HDN.out w' H.m3) fun q1 => ?_;refine jc (α := Nat) (mk := fun q => .slice (some ⟨q, 0, none⟩) k k) (ao := fun q => some ⟨q, 0, none⟩) (xs := fun _ => nt R) (A := fun _ => True) (fun w' H => HCH.out w' q1 H.m0) fun q2 => ?_;refine jc (α := Option Addr × Nat) (mk := fun p => .tuple #[.agg #[.int .i64 (r : Int), .int .i64 (c : Int), .slice p.1 (r * c) p.2], .int .i64 0]) (ao := fun p => p.1) (xs := fun _ => bD c (aS (nt R)) (r * c)) (A := fun _ => True) (fun w' H => HDG.out w' q2 H.m0) fun q3 => ?_;refine dr ?_;refine sW ?_;refine az ?_;refine fh fun w' H => ?_;exact ⟨_, _, xc H.m7, cH, ⟨(q3, R), rfl, H.m0, ⟨HSM.out, HNN.out⟩, (show True /\ ∀ b o, q3.1 = some ⟨b, o, none⟩ -> w.heap.size <= b from H.m1).2⟩, H.below⟩
 . have HND := H5 hdg;have HT1 := H5 (fun w' (h : dw w' qo hs) => HT.out w' qo qc hs (HAT.out w' h) hB2 hl);have HF1 := H5 (fun w' (h : dw w' qo hs) => HF2.out w' qo qc hs (HAT.out w' h) hB2 hl);clear hdg hl hB2;refine ak ?_;refine dW ?_;refine cV (v := .bool false) (fun w' H => HDV.out false ⟨(fun q => nomatch q), fun q => absurd q HND.out⟩ w' H.m3) ?_;by_cases hrows : rows = true
   . subst hrows;refine az ?_;refine mR ?_;refine ak ?_;refine az ?_;refine mR ?_;refine ak ?_;refine dW ?_;refine jc (α := Nat × List Int) (mk := fun p => .tuple #[.agg #[.int .i64 (r : Int), .int .i64 (c : Int), .slice (some ⟨p.1, 0, none⟩) (r * c) (r * c)], .int .i64 0]) (ao := fun p => some ⟨p.1, 0, none⟩) (xs := fun p => p.2) (A := fun p => (∃ k l, bP r c hs p.2 k l) /\ p.2.length = r * c /\ ∀ x ∈ p.2, x.natAbs < W ^ hW M) (fun w' H => HF1.out w' H.m3) fun p => ?_;obtain ⟨b2, ts⟩ := p;refine aI ?_;refine sW ?_;refine fg ?_;refine u5 (A := ((∃ k l, bP r c hs ts k l) /\ ts.length = r * c /\ ∀ x ∈ ts, x.natAbs < W ^ hW M) /\ ∀ b' o, some (⟨b2, 0, none⟩ : Addr) = some ⟨b', o, none⟩ -> w.heap.size <= b') (by simp) fun hA => ?_;obtain ⟨n', hn, hI⟩ : ∃ n', n' < n /\ pg r c m xs ⟨false, n', some ⟨b2, 0, none⟩, r * c, ts⟩ := by obtain ⟨⟨⟨k, l, q⟩, _⟩, _⟩ := hA; exact HZ.out.form HND.out q
     have HI := H5 (And.intro hI hn);clear hA hI hn;refine rW [] ?_;refine aI ?_;refine fg ?_;exact cI (⟨false, n', some ⟨b2, 0, none⟩, r * c, ts⟩ : F3X) ⟨HI.out.1, HI.out.2⟩
   . obtain rfl : rows = false := by simpa using hrows
     clear hrows;refine az ?_;refine mR ?_;refine ak ?_;refine az ?_;refine gM ?_;refine ak ?_;refine dW ?_;refine jc (α := List Int × Option Addr × Nat) (mk := fun p => .agg #[.int .i64 (r : Int), .int .i64 (c : Int), .slice p.2.1 (r * c) p.2.2]) (ao := fun p => p.2.1) (xs := fun p => jf c r p.1) (A := fun p => (∃ k l, bP c r (jf r c hs) p.1 k l) /\ p.1.length = c * r /\ ∀ x ∈ p.1, x.natAbs < W ^ hW M) (fun w' H => HT1.out w' H.m3) fun p => ?_;obtain ⟨ts, tq, tc⟩ := p;refine sW ?_;refine fg ?_;refine u5 (A := ((∃ k l, bP c r (jf r c hs) ts k l) /\ ts.length = c * r /\ ∀ x ∈ ts, x.natAbs < W ^ hW M) /\ ∀ b' o, tq = some ⟨b', o, none⟩ -> w.heap.size <= b') (by simp) fun hA => ?_;obtain ⟨n', hn, hI⟩ : ∃ n', n' < n /\ pg r c m xs ⟨true, n', tq, tc, jf c r ts⟩ := by obtain ⟨⟨⟨k, l, q⟩, _⟩, _⟩ := hA; exact HI0.out.2.2 n qo qc hs HZ.out HND.out ts k l q tq tc
     have HI := H5 (And.intro hI hn);clear hA hI hn;refine rW [] ?_;refine aI ?_;refine fg ?_;exact cI (⟨true, n', tq, tc, jf c r ts⟩ : F3X) ⟨HI.out.1, HI.out.2⟩
theorem rX (r c m : Nat) (ao : Option Addr) (cap : Nat) (xs : List Int) (w : World) (hr : r <= 64) (hc : c <= 64) (h : bc w 17592186044415 ao xs) (hm : ∀ x ∈ xs, x.natAbs < W ^ m) (hm1 : m <= 1048576) (hs : xs.length = r * c) :
 Calls Tryz.prog 11 #[.agg #[.int .i64 (r : Int), .int .i64 (c : Int), .slice ao (r * c) cap]] w fun e w' => (∃ q : Nat × List Nat, e = .returned (.tuple #[.slice (some ⟨q.1, 0, none⟩) (min r c) (min r c), .int .i64 0]) /\ dw w' (some ⟨q.1, 0, none⟩) (nt q.2) /\ (n6 r c xs q.2 /\ ∀ y ∈ q.2, aa y <= 8900000000) /\ ∀ b o, some (⟨q.1, 0, none⟩ : Addr) = some ⟨b, o, none⟩ -> w.heap.size <= b) /\ Below w.heap.size w w' := by
 have HF := H5 (fun w' h => xm r c m ao cap xs w' hr hc h hm hm1 hs);clear hm hs;refine bJ (S0 := fun _ => False) Tryz.func11 ((Fr.nil _ w).l h (by simp)) ?_;refine ak ?_;refine aW fun g1 => ?_;refine dW ?_;refine az ?_;refine c9 ?_;refine jc (α := (Option Addr × Nat) × List Nat) (mk := fun p => .tuple #[.agg #[.int .i64 (r : Int), .int .i64 (c : Int), .slice p.1.1 (r * c) p.1.2], .int .i64 0]) (ao := fun p => p.1.1) (xs := fun p => bD c (aS (nt p.2)) (r * c)) (A := fun p => n6 r c xs p.2 /\ ∀ y ∈ p.2, aa y <= 8900000000) (fun w' H => HF.out w' H.m1) fun p => ?_;refine aI ?_;refine aW fun g4 => ?_;refine sG ?_;refine az ?_;refine u5 (A := (n6 r c xs p.2 /\ ∀ y ∈ p.2, aa y <= 8900000000) /\ ∀ b' o, p.1.1 = some ⟨b', o, none⟩ -> w.heap.size <= b') (by simp) fun hA => ?_;obtain ⟨⟨pa, pc⟩, R⟩ := p
 replace hA : (n6 r c xs R /\ ∀ y ∈ R, aa y <= 8900000000) /\ ∀ b' o, pa = some ⟨b', o, none⟩ -> w.heap.size <= b' := hA
 have hL := fun w' h => lL r c pa pc 17592186044415 (bD c (aS (nt R)) (r * c)) w' hr hc h (Nat.le_refl _) (cF ..);rw [cF, tW (Nat.min_le_left ..) (Nat.min_le_right ..) (by rw [aG]; exact hA.1.1.1)] at hL;have hbt : ∀ x ∈ bD c (aS (nt R)) (r * c), aa x.natAbs <= 17592186044415 := fun x hx => by
  unfold bD at hx;obtain ⟨q, hq, rfl⟩ := List.mem_map.1 hx;unfold aS;split
  . rename_i h;have hm := gX h.2;unfold nt at hm |-;obtain ⟨y, hy, he⟩ := List.mem_map.1 hm;rw [<- he]; exact Nat.le_trans (hA.1.2 y hy) (by omega)
  . simp [bg]
 have HL := H5 (fun w' (h : dw w' pa (bD c (aS (nt R)) (r * c))) => hL w' (h.gW hbt));have HS := H5 hA.1;clear hA hL hbt;obtain ⟨k, hk⟩ : ∃ k, min r c = k := ⟨_, rfl⟩;rw [hk] at HL |-;clear hk;refine c9 ?_;refine dB false ?_;refine eW ?_;refine kR ?_;refine gM ?_;refine ak ?_;refine dW ?_;refine jc (α := Nat) (mk := fun q => .slice (some ⟨q, 0, none⟩) k k) (ao := fun q => some ⟨q, 0, none⟩) (xs := fun _ => nt R) (A := fun _ => True) (fun w' H => (HL.out w' H.m1).mono fun e w'' ⟨⟨q, he, hq, hR⟩, hb⟩ => ⟨⟨q, he, hR.x4, trivial, fun b' o e => by cases e; exact hq⟩, hb⟩) fun q => ?_;refine dW ?_;refine az ?_;refine fh fun w' H => ?_;exact ⟨_, _, cH, cH, ⟨(q, R), rfl, H.m0, HS.out, (show True /\ ∀ b o, some (⟨q, 0, none⟩ : Addr) = some ⟨b, o, none⟩ -> w.heap.size <= b from H.m1).2⟩, H.below⟩
theorem Aa (r c : Int) (ao : Option Addr) (len cap : Nat) (w : World) (hr : -9223372036854775808 <= r /\ r <= 9223372036854775807) (hc : -9223372036854775808 <= c /\ c <= 9223372036854775807) (hs : aU r c len = false) :
 Calls Tryz.prog 60 #[.agg #[.int .i64 r, .int .i64 c, .slice ao len cap]] w fun e w' => e = .returned (.tuple #[.agg #[.int .i64 0, .int .i64 0, .slice none 0 0], .int .i64 1]) /\ Below w.heap.size w w' := by
 have hC := fun w' => cY r c ao len cap w' hr hc;rw [eH hs] at hC;have HC := H5 hC;clear hC hs;refine bJ (S0 := fun _ => False) Tryz.func60 (Fr.nil _ w) ?_;refine ak ?_;refine aW fun g1 => ?_;refine aW fun g2 => ?_;refine az ?_;refine c9 ?_;refine cV (v := .int .i64 1) (fun w' H => HC.out w') ?_;refine az ?_;refine c9 ?_;refine dB true ?_;refine eW ?_;refine kR ?_;refine mR ?_;refine ak ?_;refine dr ?_;refine sW ?_;refine az ?_;refine fh fun w' H => ?_;exact ⟨_, _, xc (H.all (.row g2 24 [.int .i64 0, .int .i64 0, .slice none 0 0]) (by simp)), cH, rfl, H.below⟩
theorem zk (r c : Int) (ao : Option Addr) (len cap : Nat) (w : World) (hr : -9223372036854775808 <= r /\ r <= 9223372036854775807) (hc : -9223372036854775808 <= c /\ c <= 9223372036854775807) (hs : aU r c len = false) :
 Calls Tryz.prog 31 #[.agg #[.int .i64 r, .int .i64 c, .slice ao len cap]] w fun e w' => e = .returned (.tuple #[.agg #[.int .i64 0, .int .i64 0, .slice none 0 0], .int .i64 1]) /\ Below w.heap.size w w' := by
 have HC := H5 (fun w' => Aa r c ao len cap w' hr hc hs);clear hs;refine bJ (S0 := fun _ => False) Tryz.func31 (Fr.nil _ w) ?_;refine ak ?_;refine aW fun g1 => ?_;refine aW fun g2 => ?_;refine az ?_;refine c9 ?_;refine cV (v := .tuple #[.agg #[.int .i64 0, .int .i64 0, .slice none 0 0], .int .i64 1]) (fun w' H => HC.out w') ?_;refine aI ?_;refine aW fun g4 => ?_;refine sG ?_;refine az ?_;refine c9 ?_;refine dB true ?_;refine eW ?_;refine kR ?_;refine mR ?_;refine ak ?_;refine dr ?_;refine sW ?_;refine az ?_;refine fh fun w' H => ?_;exact ⟨_, _, xc (H.all (.row g2 24 [.int .i64 0, .int .i64 0, .slice none 0 0]) (by simp)), cH, rfl, H.below⟩
theorem uH (r c : Int) (ao : Option Addr) (len cap : Nat) (w : World) (hr : -9223372036854775808 <= r /\ r <= 9223372036854775807) (hc : -9223372036854775808 <= c /\ c <= 9223372036854775807) (hs : aU r c len = false) :
 Calls Tryz.prog 11 #[.agg #[.int .i64 r, .int .i64 c, .slice ao len cap]] w fun e w' => e = .returned (.tuple #[.slice none 0 0, .int .i64 1]) /\ Below w.heap.size w w' := by
 have HC := H5 (fun w' => zk r c ao len cap w' hr hc hs);clear hs;refine bJ (S0 := fun _ => False) Tryz.func11 (Fr.nil _ w) ?_;refine ak ?_;refine aW fun g1 => ?_;refine dW ?_;refine az ?_;refine c9 ?_;refine cV (v := .tuple #[.agg #[.int .i64 0, .int .i64 0, .slice none 0 0], .int .i64 1]) (fun w' H => HC.out w') ?_;refine aI ?_;refine aW fun g4 => ?_;refine sG ?_;refine az ?_;refine c9 ?_;refine dB true ?_;refine eW ?_;refine kR ?_;refine mR ?_;refine ak ?_;refine aI ?_;refine fg ?_;refine fh fun w' H => ?_;exact ⟨_, _, cH, cH, rfl, H.below⟩
end Go.Proofs.YtbgecfleamckcaaGreat
namespace Go.Proofs.YtbgecfleamckcaaGreat
theorem ng {a b : Nat} (h : a % 2 = b % 2) : eF a = eF b := by unfold eF; rw [h]
theorem rm (a b : Nat) : eF a * eF b = eF (a + b) := by
 unfold eF;rcases Nat.mod_two_eq_zero_or_one a with h | h <;> rcases Nat.mod_two_eq_zero_or_one b with h' | h' <;> rw [h, h'] <;> simp <;> omega
theorem uM {n p : Nat} (hp : p < n + 1) (g : Nat -> Int) : sm n (fun a => g (bX p a)) = sm (n + 1) fun q => if q = p then 0 else g q := by
 obtain ⟨m, rfl⟩ : ∃ m, n = p + m := ⟨n - p, by omega⟩;rw [fL p m, Nat.add_assoc, fL p (m + 1), Nat.add_comm m 1, fL 1 m];have e1 : sm p (fun a => g (bX p a)) = sm p fun q => if q = p then 0 else g q := aE fun a ha => by
  rw [if_neg (by omega)]; unfold bX; rw [if_pos ha]
 have e2 : sm m (fun k => g (bX p (p + k))) = sm m fun k => if p + (1 + k) = p then 0 else g (p + (1 + k)) := aE fun a ha => by
  rw [if_neg (by omega)]; unfold bX; rw [if_neg (by omega)]; congr 1; omega
 have e3 : (sm 1 fun k => if p + k = p then 0 else g (p + k)) = 0 := by simp [sm]
 rw [e1, e2, e3, Int.zero_add]
def ur (p q b : Nat) : Nat := if b < min p q then b else if b + 1 < max p q then b + 1 else b + 2
theorem tE (p q b : Nat) : ur p q b = ur q p b := by unfold ur; rw [Nat.min_comm, Nat.max_comm]
theorem qD (p a b : Nat) : bX p (bX a b) = ur p (bX p a) b := by
 unfold ur bX;by_cases h1 : a < p
 . simp only [h1, if_true];by_cases h2 : b < a
   . rw [if_pos h2, if_pos (by omega), if_pos (by omega)]
   . rw [if_neg h2];by_cases h3 : b + 1 < p
     . rw [if_pos h3, if_neg (by omega), if_pos (by omega)]
     . rw [if_neg h3, if_neg (by omega), if_neg (by omega)]
 . simp only [h1, if_false];by_cases h2 : b < a
   . rw [if_pos h2];by_cases h3 : b < p
     . rw [if_pos h3, if_pos (by omega)]
     . rw [if_neg h3, if_neg (by omega), if_pos (by omega)]
   . rw [if_neg h2, if_neg (by omega), if_neg (by omega), if_neg (by omega)]
def qw (n : Nat) (M : Mx) (p q : Nat) : Int := eF (p + q + n + if q < p then 0 else 1) * M p 0 * M q (n + 1) * aV n fun a b => M (ur p q a) (b + 1)
theorem oC : ∀ (n : Nat) (M : Mx), aV (n + 1) M = sm (n + 1) fun i => eF (i + n) * M i n * aV n fun a b => M (bX i a) b
 | 0, M => rfl
 | n + 1, M => by
  have h1 : aV (n + 2) M = sm (n + 2) fun p => sm (n + 2) fun q => if q = p then 0 else qw n M p q := by
   rw [aV];refine aE fun p hp => ?_;rw [oC n (minor M p), <- eX, <- uM hp];refine aE fun a ha => ?_;have e : (fun a' b => minor M p (bX a a') b) = fun a' b => M (ur p (bX p a) a') (b + 1) := by
    funext a' b;show M (bX p (bX a a')) (b + 1) = _;rw [qD]
   rw [e];unfold qw;generalize aV n (fun a' b => M (ur p (bX p a) a') (b + 1)) = D;have e2 : eF (p + bX p a + n + if bX p a < p then 0 else 1) = eF p * eF (a + n) := by
    rw [rm]; refine ng ?_; unfold bX; (repeat' split) <;> omega
   rw [e2];show eF p * M p 0 * (eF (a + n) * M (bX p a) (n + 1) * D) = _
   ac_rfl
  have h2 : (sm (n + 2) fun i => eF (i + (n + 1)) * M i (n + 1) * aV (n + 1) fun a b => M (bX i a) b) = sm (n + 2) fun q => sm (n + 2) fun p => if p = q then 0 else qw n M p q := by
   refine aE fun q hq => ?_;rw [aV, <- eX, <- uM hq];refine aE fun a ha => ?_;have e : minor (fun a b => M (bX q a) b) a = fun a' b => M (ur (bX q a) q a') (b + 1) := by
    funext a' b;show M (bX q (bX a a')) (b + 1) = _;rw [qD, tE]
   rw [e];unfold qw;generalize aV n (fun a' b => M (ur (bX q a) q a') (b + 1)) = D;have e2 : eF (bX q a + q + n + if q < bX q a then 0 else 1) = eF (q + (n + 1)) * eF a := by
    rw [rm]; refine ng ?_; unfold bX; (repeat' split) <;> omega
   rw [e2]
   ac_rfl
  rw [h1, h2, lr];refine aE fun q _ => aE fun p _ => ?_;by_cases h : q = p
  . rw [if_pos h, if_pos h.symm]
  . rw [if_neg h, if_neg (fun e => h e.symm)]
theorem tA : ∀ (n t : Nat) (M : Mx), t < n -> (∀ a, a < n + 1 -> M a t = M a n) -> aV (n + 1) M = 0
 | n + 1, 0, M, _, h => by
  have h1 : aV (n + 2) M = sm (n + 2) fun p => sm (n + 2) fun q => if q = p then 0 else qw n M p q := by
   rw [aV];refine aE fun p hp => ?_;rw [oC n (minor M p), <- eX, <- uM hp];refine aE fun a ha => ?_;have e : (fun a' b => minor M p (bX a a') b) = fun a' b => M (ur p (bX p a) a') (b + 1) := by
    funext a' b;show M (bX p (bX a a')) (b + 1) = _;rw [qD]
   rw [e];unfold qw;generalize aV n (fun a' b => M (ur p (bX p a) a') (b + 1)) = D;have e2 : eF (p + bX p a + n + if bX p a < p then 0 else 1) = eF p * eF (a + n) := by
    rw [rm]; refine ng ?_; unfold bX; (repeat' split) <;> omega
   rw [e2];show eF p * M p 0 * (eF (a + n) * M (bX p a) (n + 1) * D) = _
   ac_rfl
  have h2 : (sm (n + 2) fun p => sm (n + 2) fun q => if q = p then 0 else qw n M p q) = - sm (n + 2) fun p => sm (n + 2) fun q => if q = p then 0 else qw n M p q := by
   conv => lhs; rw [lr]
   have e : ∀ f : Nat -> Int, - sm (n + 2) f = sm (n + 2) fun i => (-1) * f i := fun f => by rw [eX]; omega
   rw [e];refine aE fun p hp => ?_;rw [<- eX];refine aE fun q hq => ?_;by_cases hpq : p = q
   . rw [if_pos hpq, if_pos hpq.symm]; rfl
   . rw [if_neg hpq, if_neg (fun e => hpq e.symm)];unfold qw;have eD : (fun a b => M (ur q p a) (b + 1)) = fun a b => M (ur p q a) (b + 1) := by funext a b; rw [tE]
     rw [eD];generalize aV n (fun a b => M (ur p q a) (b + 1)) = D;have es : eF (q + p + n + if p < q then 0 else 1) = - eF (p + q + n + if q < p then 0 else 1) := by
      rw [<- lH]; refine ng ?_; (repeat' split) <;> omega
     rw [es, <- h p (by omega), h q (by omega)];rw [Int.neg_mul, Int.neg_mul, Int.neg_mul, Int.neg_one_mul, Int.mul_assoc (eF _) (M q _), Int.mul_comm (M q _), <- Int.mul_assoc (eF _)]
  rw [h1]; omega
 | n + 1, t + 1, M, ht, h => by
  rw [aV];refine cQ fun p hp => ?_;rw [tA n t (minor M p) (by omega) fun a ha => h _ (by unfold bX; split <;> omega), Int.mul_zero]
theorem mj : ∀ (k m : Nat) (M : Mx), (∀ a, k <= a -> a < k + m -> ∀ b < k, M a b = 0) -> aV (k + m) M = aV k M * aV m fun a b => M (k + a) (k + b)
 | 0, m, M, _ => by
  rw [Nat.zero_add];show aV m M = 1 * _;rw [Int.one_mul];exact bw m fun a _ b _ => by rw [Nat.zero_add, Nat.zero_add]
 | k + 1, m, M, h => by
  rw [show k + 1 + m = k + m + 1 by omega, aV, show k + m + 1 = k + 1 + m by omega, fL (k + 1) m];have e0 : (sm m fun i => eF (k + 1 + i) * M (k + 1 + i) 0 * aV (k + m) (minor M (k + 1 + i))) = 0 := cQ fun i hi => by
   rw [h (k + 1 + i) (by omega) (by omega) 0 (by omega), Int.mul_zero, Int.zero_mul]
  rw [e0, Int.add_zero, aV, <- lk];refine aE fun i hi => ?_;have e : (aV m fun a b => minor M i (k + a) (k + b)) = aV m fun a b => M (k + 1 + a) (k + 1 + b) := bw m fun a _ b _ => by
   show M (bX i (k + a)) (k + b + 1) = _;unfold bX;rw [if_neg (by omega), show k + a + 1 = k + 1 + a by omega, show k + b + 1 = k + 1 + b by omega]
  rw [mj k m (minor M i) fun a h1 h2 b hb => h _ (by unfold bX; split <;> omega) (by unfold bX; split <;> omega) _ (by omega), e]
  ac_rfl
theorem det2 (M : Mx) : aV 2 M = M 0 0 * M 1 1 - M 1 0 * M 0 1 := by
 simp [aV, sm, eF, minor, bX, Int.neg_mul];omega
def mn (k : Nat) (A : Mx) (nu cs : Nat -> Nat) (i j : Nat) : Int := aV (k + 1) fun a b => A (if a < k then nu a else i) (if b < k then cs b else j)
def dn (k : Nat) (A : Mx) (nu cs : Nat -> Nat) : Int := aV k fun a b => A (nu a) (cs b)
section
variable {A : Mx} {nu cs : Nat -> Nat} {k : Nat}
theorem ri (k : Nat) (A : Mx) (nu cs : Nat -> Nat) (i : Nat) : ∃ y : Nat -> Int, ∀ j, mn k A nu cs i j = dn k A nu cs * A i j + sm k fun t => y t * A (nu t) j := by
 refine ⟨fun t => eF (t + k) * aV k fun a b => A (if bX t a < k then nu (bX t a) else i) (cs b), fun j => ?_⟩;unfold mn;rw [oC, sm, Int.add_comm];congr 1
 . have e : (aV k fun a b => A (if bX k a < k then nu (bX k a) else i) (if b < k then cs b else j)) = dn k A nu cs := bw k fun a ha b hb => by
    have : bX k a = a := by unfold bX; rw [if_pos ha]
    rw [this, if_pos ha, if_pos hb]
   rw [e, if_neg (Nat.lt_irrefl k), if_neg (Nat.lt_irrefl k), show eF (k + k) = 1 by unfold eF; rw [if_pos (by omega)], Int.one_mul, Int.mul_comm]
 . refine aE fun t ht => ?_;rw [if_pos ht, if_neg (Nat.lt_irrefl k)];have e : (aV k fun a b => A (if bX t a < k then nu (bX t a) else i) (if b < k then cs b else j)) = aV k fun a b => A (if bX t a < k then nu (bX t a) else i) (cs b) := bw k fun a _ b hb => by rw [if_pos hb]
   rw [e, Int.mul_right_comm]
theorem vJ {t : Nat} (ht : t < k) (i : Nat) : mn k A nu cs i (cs t) = 0 := by
 unfold mn;exact tA k t _ ht fun a _ => by rw [if_pos ht, if_neg (Nat.lt_irrefl k)]
theorem zt : dn (k + 1) A nu cs = mn k A nu cs (nu k) (cs k) := bw (k + 1) fun a ha b hb => by
 have e1 : (if a < k then nu a else nu k) = nu a := by split; rfl; rw [show a = k by omega]
 have e2 : (if b < k then cs b else cs k) = cs b := by split; rfl; rw [show b = k by omega]
 rw [e1, e2]
theorem gx {nu' cs' : Nat -> Nat} (h1 : ∀ t < k, nu' t = nu t) (h2 : ∀ t < k, cs' t = cs t) (i j : Nat) : mn k A nu' cs' i j = mn k A nu cs i j := bw (k + 1) fun a _ b _ => by
 have e1 : (if a < k then nu' a else i) = if a < k then nu a else i := by split; exact h1 a ‹_›; rfl
 have e2 : (if b < k then cs' b else j) = if b < k then cs b else j := by split; exact h2 b ‹_›; rfl
 rw [e1, e2]
theorem tD {nu' cs' : Nat -> Nat} (h1 : ∀ t < k, nu' t = nu t) (h2 : ∀ t < k, cs' t = cs t) : dn k A nu' cs' = dn k A nu cs := bw k fun a ha b hb => by rw [h1 a ha, h2 b hb]
theorem nL (n : Nat) (M : Mx) {r : Nat} (hr : r < n) (d : Int) (y : Nat -> Int) {m : Nat} (hm : m <= r) : aV n (dm M r fun b => d * M r b + sm m fun t => y t * M t b) = d * aV n M := by
 have e : (fun b => d * M r b + sm m fun t => y t * M t b) = fun b => d * M r b + sm m fun t => (if t < m then y t else 0) * M t b := by
  funext b; congr 1; exact aE fun t ht => by rw [if_pos ht]
 rw [e, kH n M r hr (fun t => if t < m then y t else 0) (if_neg (by omega)) m (by omega), iH n M r d _ hr, iO]
theorem BR (h0 : dn k A nu cs ≠ 0) (i j : Nat) : dn k A nu cs * mn (k + 1) A nu cs i j = mn k A nu cs (nu k) (cs k) * mn k A nu cs i j - mn k A nu cs i (cs k) * mn k A nu cs (nu k) j := by
 obtain ⟨col, hcol⟩ : ∃ col : Nat -> Nat, ∀ b, col b = if b < k + 1 then cs b else j := ⟨fun b => if b < k + 1 then cs b else j, fun _ => rfl⟩;obtain ⟨M, hM⟩ : ∃ M : Mx, ∀ a b, M a b = A (if a < k + 1 then nu a else i) (col b) := ⟨fun a b => A (if a < k + 1 then nu a else i) (col b), fun _ _ => rfl⟩;have hN : mn (k + 1) A nu cs i j = aV (k + 2) M := bw (k + 2) fun a _ b _ => by rw [hM, hcol]
 obtain ⟨y, hy⟩ := ri k A nu cs i;obtain ⟨z, hz⟩ := ri k A nu cs (nu k);have hMt : ∀ t < k, ∀ b, M t b = A (nu t) (col b) := fun t ht b => by rw [hM, if_pos (by omega)]
 have e1 : (fun b => mn k A nu cs i (col b)) = fun b => dn k A nu cs * M (k + 1) b + sm k fun t => y t * M t b := by
  funext b;rw [hy, hM (k + 1), if_neg (by omega)];congr 1;exact aE fun t ht => by rw [hMt t ht]
 have d1 : aV (k + 2) (dm M (k + 1) fun b => mn k A nu cs i (col b)) = dn k A nu cs * aV (k + 2) M := by
  rw [e1]; exact nL (k + 2) M (by omega) _ y (by omega)
 obtain ⟨M1, hM1⟩ : ∃ M1, dm M (k + 1) (fun b => mn k A nu cs i (col b)) = M1 := ⟨_, rfl⟩;rw [hM1] at d1;have hM1t : ∀ t < k + 1, ∀ b, M1 t b = M t b := fun t ht b => by rw [<- hM1, dD _ (by omega)]
 have e2 : (fun b => mn k A nu cs (nu k) (col b)) = fun b => dn k A nu cs * M1 k b + sm k fun t => z t * M1 t b := by
  funext b;rw [hz, hM1t k (by omega), hM k, if_pos (by omega)];congr 1;exact aE fun t ht => by rw [hM1t t (by omega), hMt t ht]
 have d2 : aV (k + 2) (dm M1 k fun b => mn k A nu cs (nu k) (col b)) = dn k A nu cs * aV (k + 2) M1 := by
  rw [e2]; exact nL (k + 2) M1 (by omega) _ z (Nat.le_refl k)
 obtain ⟨M2, hM2⟩ : ∃ M2, dm M1 k (fun b => mn k A nu cs (nu k) (col b)) = M2 := ⟨_, rfl⟩;rw [hM2, d1] at d2;have r0 : ∀ b, M2 k b = mn k A nu cs (nu k) (col b) := fun b => by rw [<- hM2, fI]
 have r1 : ∀ b, M2 (k + 1) b = mn k A nu cs i (col b) := fun b => by rw [<- hM2, dD _ (by omega), <- hM1, fI]
 have hb := mj k 2 M2 fun a h1 h2 b hb => by
  have hc : col b = cs b := by rw [hcol, if_pos (by omega)]
  rcases (by omega : a = k \/ a = k + 1) with rfl | rfl
  . rw [r0, hc]; exact vJ hb _
  . rw [r1, hc]; exact vJ hb _
 have hd : aV k M2 = dn k A nu cs := bw k fun a ha b hb => by
  rw [<- hM2, dD _ (by omega), hM1t a (by omega), hM, if_pos (by omega), hcol, if_pos (by omega)]
 have c0 : col k = cs k := by rw [hcol, if_pos (by omega)]
 have c1 : col (k + 1) = j := by rw [hcol, if_neg (by omega)]
 rw [hb, hd, det2] at d2;simp only [Nat.add_zero] at d2;rw [r0, r0, r1, r1, c0, c1] at d2;rw [hN];exact (Int.eq_of_mul_eq_mul_left h0 d2).symm
structure jh (n m : Nat) (A : Mx) (c k : Nat) (nu cs : Nat -> Nat) (R : Mx) (d : Int) : Prop where
 kn : k <= n
 cm : c <= m
 lt : ∀ i < n, nu i < n
 inj : ∀ i < n, ∀ j < n, nu i = nu j -> i = j
 inc : ∀ a b, a < b -> b < k -> cs a < cs b
 csl : ∀ t < k, cs t < c
 dE : d = dn k A nu cs
 d0 : d ≠ 0
 row : ∀ i, k <= i -> i < n -> ∀ j < m, R i j = mn k A nu cs (nu i) j
 z : ∀ i, k <= i -> i < n -> ∀ j < c, R i j = 0
 lz : ∀ t < k, ∀ j < cs t, mn t A nu cs (nu t) j = 0
 l0 : ∀ t < k, mn t A nu cs (nu t) (cs t) ≠ 0
end
section
variable {n m : Nat} {A : Mx} {c k : Nat} {nu cs : Nat -> Nat} {R : Mx} {d : Int}
theorem jh.start {n m : Nat} {A R : Mx} (cs : Nat -> Nat) (hR : ∀ i < n, ∀ j < m, R i j = A i j) : jh n m A 0 0 (fun i => i) cs R 1 :=
 ⟨Nat.zero_le _, Nat.zero_le _, fun _ h => h, fun _ _ _ _ e => e, fun _ _ _ h => by omega, fun _ h => by omega, rfl, by decide, fun i _ hi j hj => by rw [hR i hi j hj]; simp [mn, aV, sm, eF], fun _ _ _ _ h => by omega, fun _ h => by omega, fun _ h => by omega⟩
theorem jh.skip (h : jh n m A c k nu cs R d) (hc : c < m) (h0 : ∀ i, k <= i -> i < n -> R i c = 0) : jh n m A (c + 1) k nu cs R d :=
 ⟨h.kn, hc, h.lt, h.inj, h.inc, fun t ht => by have := h.csl t ht; omega, h.dE, h.d0, h.row, fun i h1 h2 j hj => by
  rcases (by omega : j < c \/ j = c) with q | rfl
  . exact h.z i h1 h2 j q
  . exact h0 i h1 h2, h.lz, h.l0⟩
def jW (k p i : Nat) : Nat := if i = k then p else if i = p then k else i
theorem ij {n k p i : Nat} (hk : k < n) (hp : p < n) (hi : i < n) : jW k p i < n := by unfold jW; (repeat' split) <;> omega
theorem yG {k p i : Nat} (hp : k <= p) (hi : k <= i) : k <= jW k p i := by unfold jW; (repeat' split) <;> omega
theorem Ar {k p i : Nat} (hp : k <= p) (hi : i < k) : jW k p i = i := by unfold jW; rw [if_neg (by omega), if_neg (by omega)]
theorem vF {k p i j : Nat} (h : jW k p i = jW k p j) : i = j := by unfold jW at h; (repeat' split at h) <;> omega
theorem jh.swap {p : Nat} {R' : Mx} (h : jh n m A c k nu cs R d) (hp : k <= p) (hpn : p < n) (hR : ∀ i, k <= i -> i < n -> ∀ j < m, R' i j = R (jW k p i) j) : jh n m A c k (fun i => nu (jW k p i)) cs R' d := by
 have hk : k < n := by omega
 have hl : ∀ t < k, nu (jW k p t) = nu t := fun t ht => by rw [Ar hp ht]
 refine ⟨h.kn, h.cm, fun i hi => h.lt _ (ij hk hpn hi), fun i hi j hj e => vF (h.inj _ (ij hk hpn hi) _ (ij hk hpn hj) e), h.inc, h.csl, ?_, h.d0, fun i h1 h2 j hj => ?_, fun i h1 h2 j hj => ?_, fun t ht j hj => ?_, fun t ht => ?_⟩
 . rw [tD (cs' := cs) hl (fun _ _ => rfl)]; exact h.dE
 . rw [hR i h1 h2 j hj, h.row _ (yG hp h1) (ij hk hpn h2) j hj, gx (nu := nu) (cs := cs) hl (fun _ _ => rfl)]
 . have := h.cm;rw [hR i h1 h2 j (by omega)]; exact h.z _ (yG hp h1) (ij hk hpn h2) j hj
 . rw [gx (nu := nu) (cs := cs) (fun s hs => hl s (by omega)) (fun _ _ => rfl), hl t ht]; exact h.lz t ht j hj
 . rw [gx (nu := nu) (cs := cs) (fun s hs => hl s (by omega)) (fun _ _ => rfl), hl t ht]; exact h.l0 t ht
def mP (cs : Nat -> Nat) (k c : Nat) : Nat -> Nat := fun t => if t = k then c else cs t
theorem eQ {t : Nat} (ht : t < k) : mP cs k c t = cs t := by unfold mP; rw [if_neg (by omega)]
theorem kJ : mP cs k c k = c := by unfold mP; rw [if_pos rfl]
theorem jh.exact (h : jh n m A c k nu cs R d) (hc : c < m) {i j : Nat} (hi : k < i) (hin : i < n) (hj : j < m) : R k c * R i j - R i c * R k j = d * mn (k + 1) A nu (mP cs k c) (nu i) j := by
 have hcg : ∀ i j, mn k A nu (mP cs k c) i j = mn k A nu cs i j := fun i j => gx (fun _ _ => rfl) (fun t ht => eQ ht) i j;have hdg : dn k A nu (mP cs k c) = d := by rw [h.dE]; exact tD (fun _ _ => rfl) (fun t ht => eQ ht)
 have := BR (A := A) (nu := nu) (cs := mP cs k c) (k := k) (by rw [hdg]; exact h.d0) (nu i) j;rw [hdg, kJ, hcg, hcg, hcg, hcg] at this;rw [this, h.row k (Nat.le_refl _) (by omega) c hc, h.row i (by omega) hin j hj, h.row i (by omega) hin c hc, h.row k (Nat.le_refl _) (by omega) j hj]
theorem jh.take {R' : Mx} (h : jh n m A c k nu cs R d) (hc : c < m) (hk : k < n) (hp : R k c ≠ 0) (hR : ∀ i, k < i -> i < n -> ∀ j < m, R' i j = if c < j then mn (k + 1) A nu (mP cs k c) (nu i) j else 0) : jh n m A (c + 1) (k + 1) nu (mP cs k c) R' (R k c) := by
 have hcg : ∀ i j, mn k A nu (mP cs k c) i j = mn k A nu cs i j := fun i j => gx (fun _ _ => rfl) (fun t ht => eQ ht) i j;have hz : ∀ i, k < i -> i < n -> ∀ j, j <= c -> mn (k + 1) A nu (mP cs k c) (nu i) j = 0 := fun i h1 h2 j hj => by
  have e := h.exact hc h1 h2 (j := j) (by omega);rcases (by omega : j < c \/ j = c) with q | rfl
  . rw [h.z i (by omega) h2 j q, h.z k (Nat.le_refl _) hk j q, Int.mul_zero, Int.mul_zero, Int.sub_zero] at e;exact (Int.mul_eq_zero.1 e.symm).resolve_left h.d0
  . rw [Int.mul_comm, Int.sub_self] at e;exact (Int.mul_eq_zero.1 e.symm).resolve_left h.d0
 refine ⟨hk, hc, h.lt, h.inj, fun a b hab hb => ?_, fun t ht => ?_, ?_, hp, fun i h1 h2 j hj => ?_, fun i h1 h2 j hj => ?_, fun t ht j hj => ?_, fun t ht => ?_⟩
 . rcases (by omega : b < k \/ b = k) with q | rfl
   . rw [eQ (by omega), eQ q]; exact h.inc a b hab q
   . rw [eQ hab, kJ]; exact h.csl a hab
 . rcases (by omega : t < k \/ t = k) with q | rfl
   . rw [eQ q]; have := h.csl t q; omega
   . rw [kJ]; omega
 . rw [zt, kJ, hcg]; exact h.row k (Nat.le_refl _) hk c hc
 . rw [hR i (by omega) h2 j hj];split
   . rfl
   . exact (hz i (by omega) h2 j (by omega)).symm
 . rw [hR i (by omega) h2 j (by omega), if_neg (by omega)]
 . rcases (by omega : t < k \/ t = k) with q | rfl
   . rw [eQ q] at hj;rw [gx (nu := nu) (cs := cs) (fun _ _ => rfl) (fun s hs => eQ (by omega))]; exact h.lz t q j hj
   . rw [kJ] at hj;rw [hcg, <- h.row t (Nat.le_refl _) hk j (by omega)]; exact h.z t (Nat.le_refl _) hk j hj
 . rcases (by omega : t < k \/ t = k) with q | rfl
   . rw [eQ q, gx (nu := nu) (cs := cs) (fun _ _ => rfl) (fun s hs => eQ (by omega))]; exact h.l0 t q
   . rw [kJ, hcg, <- h.row t (Nat.le_refl _) hk c hc]; exact hp
theorem mn_bd {B : Nat} (hA : ∀ i j, (A i j).natAbs <= B) (k i j : Nat) : (mn k A nu cs i j).natAbs <= ((k + 1) * B) ^ (k + 1) := qN (k + 1) _ fun _ _ => hA _ _
theorem jh.aV {s : Int} (h : jh n n A n n nu cs R d) : d = Go.Proofs.YtbgecfleamckcaaGreat.aV n fun a b => A (nu a) b := by
 have hc : ∀ t < n, cs t = t := by
  intro t ht;have h1 : ∀ s, s < n -> s <= cs s := by
   intro s;induction s with
   | zero => intro _; exact Nat.zero_le _
   | succ s ih => intro hs; have := ih (by omega); have := h.inc s (s + 1) (by omega) hs; omega
  have h2 : ∀ e s, s + e + 1 = n -> cs s <= s := by
   intro e;induction e with
   | zero => intro s hs; have := h.csl s (by omega); omega
   | succ e ih => intro s hs; have := ih (s + 1) (by omega); have := h.inc s (s + 1) (by omega) (by omega); omega
  have := h1 t ht;have := h2 (n - t - 1) t (by omega);omega
 rw [h.dE];exact bw n fun a _ b hb => by rw [hc b hb]
theorem jh.det0 (h : jh n n A k k nu cs R d) (hk : k < n) (h0 : ∀ i, k <= i -> i < n -> R i k = 0) : (Go.Proofs.YtbgecfleamckcaaGreat.aV n fun a b => A (nu a) b) = 0 := by
 have hc : ∀ t < k, cs t = t := by
  intro t ht;have h1 : ∀ s, s < k -> s <= cs s := by
   intro s;induction s with
   | zero => intro _; exact Nat.zero_le _
   | succ s ih => intro hs; have := ih (by omega); have := h.inc s (s + 1) (by omega) hs; omega
  have h2 : ∀ e s, s + e + 1 = k -> cs s <= s := by
   intro e;induction e with
   | zero => intro s hs; have := h.csl s (by omega); omega
   | succ e ih => intro s hs; have := ih (s + 1) (by omega); have := h.inc s (s + 1) (by omega) (by omega); omega
  have := h1 t ht;have := h2 (k - t - 1) t (by omega);omega
 have hch : ∀ i, ∃ y : Nat -> Int, ∀ j, mn k A nu cs (nu i) j = dn k A nu cs * A (nu i) j + sm k fun t => y t * A (nu t) j := fun i => ri k A nu cs (nu i);obtain ⟨y, hy⟩ := Classical.axiomOfChoice hch;obtain ⟨B, hB⟩ : ∃ B : Mx, ∀ i j, B i j = if i < k then A (nu i) j else mn k A nu cs (nu i) j := ⟨fun i j => if i < k then A (nu i) j else mn k A nu cs (nu i) j, fun _ _ => rfl⟩;have hr := sP n (fun a b => A (nu a) b) B (fun i => if i < k then 1 else d) (fun _ => 1) (fun i t => if i < k then 0 else if t < k then y i t else 0) fun i hi j => by
  by_cases q : i < k
  . simp only [q, if_true];rw [hB, if_pos q, cQ fun t _ => Int.zero_mul _, Int.add_zero]
  . simp only [q, if_false];rw [hB, if_neg q, hy, Int.one_mul, <- h.dE];congr 1;obtain ⟨e, rfl⟩ : ∃ e, i = k + e := ⟨i - k, by omega⟩;rw [fL k e, cQ (n := e) fun t _ => by rw [if_neg (by omega), Int.zero_mul], Int.add_zero];exact aE fun t ht => by rw [if_pos ht, hB, if_pos ht]
 obtain ⟨e, rfl⟩ : ∃ e, n = k + (e + 1) := ⟨n - k - 1, by omega⟩;have hb := mj k (e + 1) B fun a h1 h2 b hb => by rw [hB, if_neg (by omega), <- h.row a h1 h2 b (by omega)]; exact h.z a h1 h2 b hb
 have hz : (Go.Proofs.YtbgecfleamckcaaGreat.aV (e + 1) fun a b => B (k + a) (k + b)) = 0 := by
  rw [Go.Proofs.YtbgecfleamckcaaGreat.aV];exact cQ fun a ha => by
   show eF a * B (k + a) (k + 0) * _ = 0;rw [Nat.add_zero, hB, if_neg (by omega), <- h.row (k + a) (by omega) (by omega) k (by omega), h0 (k + a) (by omega) (by omega), Int.mul_zero, Int.zero_mul]
 rw [hb, hz, Int.mul_zero, Int.mul_zero] at hr;refine (Int.mul_eq_zero.1 hr.symm).resolve_left (tB _ fun i hi => ?_);split
 . decide
 . exact h.d0
theorem AT {k p : Nat} (hk : k < n) (hp : p < n) (hkp : k ≠ p) (B : Mx) : (Go.Proofs.YtbgecfleamckcaaGreat.aV n fun a b => B (jW k p a) b) = - Go.Proofs.YtbgecfleamckcaaGreat.aV n B := by
 have e1 : (fun a b => B (jW k p a) b) = dm (dm B k (B p)) p (B k) := by
  funext a b;unfold jW dm;by_cases h1 : a = k
  . subst h1; rw [if_pos rfl, if_neg hkp, if_pos rfl]
  . rw [if_neg h1];by_cases h2 : a = p
    . rw [if_pos h2, if_pos h2]
    . rw [if_neg h2, if_neg h2, if_neg h1]
 have e2 : dm (dm B k (B k)) p (B p) = B := by rw [iO, iO]
 rw [e1, sj n B hk hp hkp, e2]
end
theorem so {mw k : Nat} (hk : k <= 64) : (k * W ^ mw) ^ k < W ^ (64 * (mw + 1)) := by
 have h1 : k * W ^ mw < W ^ (mw + 1) := by
  rw [Nat.pow_succ, Nat.mul_comm (W ^ mw)];exact Nat.mul_lt_mul_of_pos_right (Nat.lt_of_le_of_lt hk (by unfold W; omega)) (Nat.pow_pos (by unfold W; omega))
 rcases Nat.eq_zero_or_pos k with rfl | h0
 . exact Nat.one_lt_pow (by omega) (by unfold W; omega)
 . refine Nat.lt_of_lt_of_le (Nat.pow_lt_pow_left h1 (by omega)) ?_;rw [<- Nat.pow_mul];exact Nat.pow_le_pow_right (by unfold W; omega) (by rw [Nat.mul_comm]; exact Nat.mul_le_mul_right _ hk)
theorem uT (n : Nat) (f : Nat -> Int) : sm (n + 1) f = f 0 + sm n fun k => f (k + 1) := by
 rw [Nat.add_comm n 1, fL];show 0 + f 0 + _ = _;rw [Int.zero_add];exact congrArg _ (aE fun k _ => by rw [Nat.add_comm])
theorem vh : ∀ (n : Nat) (M : Mx), aV (n + 1) M = sm (n + 1) fun j => eF j * M 0 j * aV n fun a b => M (a + 1) (bX j b)
 | 0, M => by
  show 0 + eF 0 * M 0 0 * 1 = 0 + eF 0 * M 0 0 * 1;rfl
 | n + 1, M => by
  have h1 : aV (n + 2) M = eF 0 * M 0 0 * aV (n + 1) (minor M 0) + sm (n + 1) fun i => eF (i + 1) * M (i + 1) 0 * aV (n + 1) (minor M (i + 1)) := uT (n + 1) _;rw [h1, uT (n + 1)];have e0 : aV (n + 1) (minor M 0) = aV (n + 1) fun a b => M (a + 1) (bX 0 b) := bw _ fun a _ b _ => by simp [minor, bX]
  rw [e0];refine congrArg _ ?_;have e1 : (sm (n + 1) fun i => eF (i + 1) * M (i + 1) 0 * aV (n + 1) (minor M (i + 1))) = sm (n + 1) fun i => sm (n + 1) fun j => eF (i + 1) * eF j * M (i + 1) 0 * M 0 (j + 1) * aV n fun a b => M (bX i a + 1) (bX j b + 1) := aE fun i _ => by
   rw [vh n (minor M (i + 1)), <- eX];refine aE fun j _ => ?_;have e2 : (aV n fun a b => minor M (i + 1) (a + 1) (bX j b)) = aV n fun a b => M (bX i a + 1) (bX j b + 1) := bw _ fun a _ b _ => by
    show M (bX (i + 1) (a + 1)) (bX j b + 1) = _;have : bX (i + 1) (a + 1) = bX i a + 1 := by unfold bX; (repeat' split) <;> omega
    rw [this]
   rw [e2];have e3 : minor M (i + 1) 0 j = M 0 (j + 1) := by
    show M (bX (i + 1) 0) (j + 1) = _;have : bX (i + 1) 0 = 0 := by unfold bX; rw [if_pos (by omega)]
    rw [this]
   rw [e3]
   ac_rfl
  have f1 : (sm (n + 1) fun j => eF (j + 1) * M 0 (j + 1) * aV (n + 1) fun a b => M (a + 1) (bX (j + 1) b)) = sm (n + 1) fun j => sm (n + 1) fun i => eF (i + 1) * eF j * M (i + 1) 0 * M 0 (j + 1) * aV n fun a b => M (bX i a + 1) (bX j b + 1) := aE fun j _ => by
   have f2 : (aV (n + 1) fun a b => M (a + 1) (bX (j + 1) b)) = sm (n + 1) fun i => eF i * M (i + 1) 0 * aV n fun a b => M (bX i a + 1) (bX j b + 1) := by
    show (sm (n + 1) fun i => eF i * M (i + 1) (bX (j + 1) 0) * aV n (minor (fun a b => M (a + 1) (bX (j + 1) b)) i)) = _;refine aE fun i _ => ?_;have g1 : bX (j + 1) 0 = 0 := by unfold bX; rw [if_pos (by omega)]
    rw [g1];congr 1;refine bw _ fun a _ b _ => ?_;show M (bX i a + 1) (bX (j + 1) (b + 1)) = _;have : bX (j + 1) (b + 1) = bX j b + 1 := by unfold bX; (repeat' split) <;> omega
    rw [this]
   rw [f2, <- eX];refine aE fun i _ => ?_;rw [lH j, lH i];simp only [Int.neg_mul, Int.mul_neg];refine congrArg _ ?_
   ac_rfl
  rw [e1, f1, lr]
theorem uk : ∀ (n : Nat) (M : Mx), aV n (tp M) = aV n M
 | 0, _ => rfl
 | n + 1, M => by
  rw [vh n M];show (sm (n + 1) fun i => eF i * tp M i 0 * aV n (minor (tp M) i)) = _;refine aE fun i _ => ?_;rw [<- uk n fun a b => M (a + 1) (bX i b)];rfl
theorem pig (k q : Nat) (hk : k < q) (σ : Nat -> Nat) (h : ∀ a < q, σ a < k) : ∃ a b, a < b /\ b < q /\ σ a = σ b := Classical.byContradiction fun hn => by
 obtain ⟨i, hi, e⟩ := zM k σ (fun i hi => h i (by omega)) (fun i hi j hj e => Classical.byContradiction fun hij => by
  rcases Nat.lt_or_gt_of_ne hij with q' | q'
  . exact hn ⟨i, j, q', by omega, e⟩
  . exact hn ⟨j, i, q', by omega, e.symm⟩) (σ k) (h k hk)
 exact hn ⟨i, k, hi, hk, e⟩
theorem qt (n : Nat) (D : Int) (B : Mx) : ∀ s, s <= n -> aV n (fun a b => if a < s then D * B a b else B a b) = D ^ s * aV n B
 | 0, _ => by simp
 | s + 1, hs => by
  have e : (fun a b => if a < s + 1 then D * B a b else B a b) = dm (fun a b => if a < s then D * B a b else B a b) s (fun b => D * B s b) := by
   funext a b;unfold dm;by_cases h : a = s
   . subst h; simp
   . rw [if_neg h];show _ = if a < s then D * B a b else B a b;by_cases h2 : a < s
     . rw [if_pos h2, if_pos (by omega)]
     . rw [if_neg h2, if_neg (by omega)]
  have e2 : dm (fun a b => if a < s then D * B a b else B a b) s (B s) = fun a b => if a < s then D * B a b else B a b := by
   funext a b;unfold dm;by_cases h : a = s
   . subst h; simp
   . rw [if_neg h]
  rw [e, iH n _ s D (B s) (by omega), e2, qt n D B s (by omega), Int.pow_succ]
  ac_rfl
theorem u6 (n : Nat) (D : Int) (B : Mx) : aV n (fun a b => D * B a b) = D ^ n * aV n B := by
 rw [<- qt n D B n (Nat.le_refl _)];exact bw n fun a ha b _ => by rw [if_pos ha]
theorem zA {k q : Nat} {D : Int} (hD : D ≠ 0) (hk : k < q) {A B : Mx} (h : ∀ a < q, Sp k A fun j => D * B a j) : aV q B = 0 := by
 have h1 : (0 : Int) ∣ aV q fun a b => D * B a b := nQ (A := A) (r := k) (fun σ hσ => by
  obtain ⟨a, b, hab, hb, e⟩ := pig k q hk σ hσ;exact Int.zero_dvd.2 (iG q _ (k := a) (l := b) (by omega) hb (by omega) fun j => by rw [e])) h
 have h2 := Int.zero_dvd.1 h1;rw [u6] at h2;rcases Int.mul_eq_zero.1 h2 with e | e
 . exact absurd e (Int.pow_ne_zero hD)
 . exact e
section
variable {n m : Nat} {A : Mx} {k : Nat} {nu cs : Nat -> Nat} {R : Mx} {d : Int}
theorem jh.span (h : jh n m A m k nu cs R d) (hA : ∀ i j, m <= j -> A i j = 0) {i : Nat} (hi : i < n) : Sp k (fun t => A (nu t)) fun j => d * A i j := by
 obtain ⟨s, hs, e⟩ := zM n nu h.lt h.inj i hi;by_cases hk : s < k
 . refine ⟨fun t => if t = s then d else 0, fun j => ?_⟩;rw [j9 s hk fun t _ hn => by show (if t = s then d else 0) * _ = 0; rw [if_neg hn, Int.zero_mul]];show d * A i j = (if s = s then d else 0) * A (nu s) j;rw [if_pos rfl, e]
 . obtain ⟨y, hy⟩ := ri k A nu cs i;refine ⟨fun t => - y t, fun j => ?_⟩;have h1 : mn k A nu cs i j = 0 := by
    by_cases hj : j < m
    . have h2 := h.row s (by omega) hs j hj;rw [h.z s (by omega) hs j hj, e] at h2;exact h2.symm
    . have h3 := hy j;rw [hA i j (by omega), Int.mul_zero, Int.zero_add] at h3;rw [h3];exact cQ fun t _ => by rw [hA _ j (by omega), Int.mul_zero]
   have h4 := hy j;rw [h1, <- h.dE] at h4;have h5 : (sm k fun t => - y t * A (nu t) j) = - sm k fun t => y t * A (nu t) j := by
    have := eX k (-1) fun t => y t * A (nu t) j;rw [show (-1 : Int) * (sm k fun t => y t * A (nu t) j) = - sm k fun t => y t * A (nu t) j by omega] at this;rw [<- this];exact aE fun t _ => by rw [Int.neg_mul]; omega
   show d * A i j = _;rw [h5]; omega
theorem jh.some (h : jh n m A m k nu cs R d) : ¬ Mn k 0 n m A := fun q =>
 h.d0 (h.dE.trans (Int.zero_dvd.1 (q nu cs (fun a ha => h.lt a (by have := h.kn; omega)) fun b hb => h.csl b hb)))
theorem jh.none (h : jh n m A m k nu cs R d) (hA : ∀ i j, m <= j -> A i j = 0) {q : Nat} (hq : k < q) : Mn q 0 n m A := fun σ τ hσ hτ =>
 Int.zero_dvd.2 (zA h.d0 hq (A := fun t b => A (nu t) (τ b)) fun a ha => by
  obtain ⟨y, hy⟩ := h.span hA (hσ a ha);exact ⟨y, fun b => hy (τ b)⟩)
end
def gK (d : Nat -> Nat) : Nat -> Nat
 | 0 => 0
 | k + 1 => gK d k + if d k = 0 then 0 else 1
theorem nz (d : Nat -> Nat) : ∀ k, gK d k <= k
 | 0 => Nat.le_refl _
 | k + 1 => by
  have := nz d k;show gK d k + (if d k = 0 then 0 else 1) <= k + 1;split <;> omega
theorem jO {d : Nat -> Nat} (hd : ∀ a b, a <= b -> d a ∣ d b) : ∀ k, (∀ i < gK d k, d i ≠ 0) /\ ∀ i, gK d k <= i -> i < k -> d i = 0
 | 0 => ⟨fun i hi => by simp [gK] at hi, fun i _ h => by omega⟩
 | k + 1 => by
  obtain ⟨h1, h2⟩ := jO hd k;have hl := nz d k;by_cases h : d k = 0
  . have e : gK d (k + 1) = gK d k := by show gK d k + (if d k = 0 then 0 else 1) = _; rw [if_pos h]; rfl
    rw [e];exact ⟨h1, fun i q1 q2 => by
     by_cases q : i = k
     . rw [q]; exact h
     . exact h2 i q1 (by omega)⟩
  . have e : gK d (k + 1) = gK d k + 1 := by show gK d k + (if d k = 0 then 0 else 1) = _; rw [if_neg h]
    have e2 : gK d k = k := by
     rcases Nat.lt_or_eq_of_le hl with q | q
     . have h3 := h2 (gK d k) (Nat.le_refl _) q;have h4 := hd (gK d k) k hl;rw [h3] at h4;exact absurd (Nat.eq_zero_of_zero_dvd h4) h
     . exact q
    rw [e, e2];exact ⟨fun i hi => by
     by_cases q : i = k
     . rw [q]; exact h
     . exact h1 i (by omega), fun i q1 q2 => by omega⟩
theorem nT {d : Nat -> Nat} : ∀ k, (∀ i < k, d i ≠ 0) -> bA k d ≠ 0
 | 0, _ => by simp [bA]
 | k + 1, h => Nat.mul_ne_zero (nT k fun i hi => h i (by omega)) (h k (by omega))
theorem nU {d : Nat -> Nat} {q : Nat} (h : d q = 0) : ∀ k, q < k -> bA k d = 0
 | 0, hk => by omega
 | k + 1, hk => by
  show bA k d * d k = 0;by_cases e : q = k
  . rw [<- e, h, Nat.mul_zero]
  . rw [nU h k (by omega), Nat.zero_mul]
theorem qO {l : List Nat} (h : gZ l) : ∀ a b, a <= b -> l.getD a 0 ∣ l.getD b 0 := fun a b hab => by
 have e : ∀ i, l.getD i 0 = if i < l.length then l.getD i 0 else 0 := fun i => by
  split
  . rfl
  . simp [show l.length <= i by omega]
 rw [e a, e b];exact qU h a b hab
section
variable {r c : Nat} {xs : List Int} {R : List Nat}
theorem n6.mn (h : n6 r c xs R) (k : Nat) (x : Int) : Mn k x r c (aY xs r c) ↔ Mn k x r c (il fun i => R.getD i 0) := h.2.2.sm k x
theorem n6.rank (h : n6 r c xs R) {k : Nat} {cs : Nat -> Nat} (hp : ∃ nu T d, jh r c (aY xs r c) c k nu cs T d) : gK (fun i => R.getD i 0) R.length = k := by
 obtain ⟨nu, T, d, hb⟩ := hp;have hd := qO h.2.1;obtain ⟨h1, h2⟩ := jO hd R.length;have hl := nz (fun i => R.getD i 0) R.length;have hR := h.1;obtain ⟨Z, hZ⟩ : ∃ Z, gK (fun i => R.getD i 0) R.length = Z := ⟨_, rfl⟩;rw [hZ] at h1 h2 hl |-;rcases Nat.lt_trichotomy Z k with q | q | q
 . exfalso;refine hb.some ((h.mn k 0).2 ?_);have h3 := nj hd k r c;have h4 : (fun i => R.getD i 0) Z = 0 := by
    by_cases g : Z < R.length
    . exact h2 _ (Nat.le_refl _) g
    . show R.getD _ 0 = 0;rw [List.getD_eq_getElem?_getD, List.getElem?_eq_none (Nat.le_of_not_lt g)];rfl
   rw [nU (d := fun i => R.getD i 0) (q := Z) h4 k q] at h3;exact h3
 . exact q
 . exfalso;have h3 := (h.mn _ 0).1 (hb.none (fun i j hj => lv i hj) q) (fun a => a) (fun a => a) (fun a ha => by omega) fun a ha => by omega
   have h4 := congrArg Int.natAbs (Int.zero_dvd.1 h3);rw [show (fun a b => il (fun i => R.getD i 0) a b) = il fun i => R.getD i 0 from rfl, n7] at h4;exact nT _ h1 h4
theorem rA.aV {n : Nat} {A B : Mx} (h : rA n n A B) : (Go.Proofs.YtbgecfleamckcaaGreat.aV n A).natAbs = (Go.Proofs.YtbgecfleamckcaaGreat.aV n B).natAbs := by
 induction h with
 | refl A => rfl
 | rows h => exact mQ n h
 | qZ h =>
  rw [<- uk n, mQ n h, uk]
 | trans _ _ h1 h2 => exact h1.trans h2
theorem n6.aV {n : Nat} (h : n6 n n xs R) : bA n (fun i => R.getD i 0) = (Go.Proofs.YtbgecfleamckcaaGreat.aV n (aY xs n n)).natAbs := by
 rw [h.2.2.aV];exact (n7 _ n).symm
end
end Go.Proofs.YtbgecfleamckcaaGreat
namespace Go.Proofs.YtbgecfleamckcaaGreat
open Go.RowKit
theorem tK (R : List Nat) : ∀ i, i <= R.length -> kS (R.take i) = gK (fun i => R.getD i 0) i
 | 0, _ => by simp [kS, gK]
 | i + 1, h => by
  have e := mI (p := fun x => decide (x ≠ 0)) (f := R) (i := i) (by omega);have ih := tK R i (by omega);show (R.take (i + 1)).countP _ = gK _ i + if R.getD i 0 = 0 then 0 else 1;unfold kS at ih;rw [e, ih];by_cases h0 : R.getD i 0 = 0
  . rw [if_pos h0, h0]; simp
  . rw [if_neg h0, if_pos (decide_eq_true h0)]
theorem vH (R : List Nat) : kS R = gK (fun i => R.getD i 0) R.length := by
 have := tK R R.length (Nat.le_refl _)
 rwa [List.take_length] at this
theorem mv (R : List Nat) : ∀ i, i <= R.length -> bO (R.take i) = bA i (fun i => R.getD i 0)
 | 0, _ => by simp [bO, bA]
 | i + 1, h => by rw [kA (by omega), mv R i (by omega)]; rfl
theorem uh (R : List Nat) : kS R <= R.length := List.countP_le_length
theorem oG (R : List Nat) : (eY R).length <= kS R := by
 unfold eY kS;rw [<- List.countP_eq_length_filter];exact List.countP_mono_left fun x _ h => by simp at h |-; omega
theorem AF {n : Nat} {xs : List Int} {R : List Nat} (h : n6 n n xs R) : bA n (fun i => R.getD i 0) = if kS R < n then 0 else bO (eY R) := by
 have hl : R.length = n := by have := h.1; omega
 split
 . rename_i hc;have hd := qO h.2.1;obtain ⟨_, h2⟩ := jO hd R.length;rw [vH] at hc;exact nU (d := fun i => R.getD i 0) (q := gK (fun i => R.getD i 0) R.length) (h2 _ (Nat.le_refl _) (by omega)) n hc
 . rename_i hc;have h1 := mv R n (by omega);rw [<- hl, List.take_length] at h1;rw [<- hl, <- h1, oT];have h2 : R.countP (fun x => decide (x ≠ 0)) = R.length := by have := uh R; unfold kS at this hc; omega
   rw [List.countP_eq_length] at h2;intro x hx;have := h2 x hx;simp at this;omega
theorem AO {n m : Nat} {xs : List Int} {R : List Nat} (h : n6 n m xs R) : gZ (eY R) /\ ∀ x ∈ eY R, 1 < x := ⟨h.2.1.filter _, fun x hx => by
 unfold eY at hx;have := (List.mem_filter.1 hx).2;simpa using this⟩
theorem Ah {f : List Nat} (h : ∀ x ∈ f, 1 < x) : kS f = f.length := by
 unfold kS;rw [List.countP_eq_length];intro x hx;have := h x hx;simp; omega
theorem zB {f : List Nat} (h : ∀ x ∈ f, 1 < x) : eY f = f := by
 unfold eY;rw [List.filter_eq_self];intro x hx;simpa using h x hx
theorem Cn (l : List Nat) (i : Nat) : gi (nt l) i = ((l.getD i 0 : Nat) : Int) := sD l i
theorem yh {a c : Nat} {f : List Nat} (hf : f.length = a) (hac : a <= c) (hb : ∀ x ∈ f, 1 < x) : ∃ k l, bP a c (bD c (aS (nt f)) (a * c)) (bD c (aS (nt f)) (a * c)) k l := by
 have hg : ∀ i, i < a -> 0 < gi (nt f) i := fun i hi => by
  rw [Cn, show f.getD i 0 = f[i] by simp [hf, hi]];have := hb _ (List.getElem_mem (l := f) (n := i) (by omega));omega
 have e : ∀ i j, i < a -> j < c -> aY (bD c (aS (nt f)) (a * c)) a c i j = mono a (fun i => i) (fun i => gi (nt f) i) i j := fun i j hi hj => by
  rw [nR, if_pos ⟨hi, hj⟩, jS hi];unfold aS;by_cases h : j = i
  . rw [if_pos h, if_pos ⟨h.symm, by rw [aG]; omega⟩]
  . rw [if_neg h, if_neg fun q => h q.1.symm]
 have e2 : ∀ i j, i < a -> aY (bD c (aS (nt f)) (a * c)) a c i j = mono a (fun i => i) (fun i => gi (nt f) i) i j := fun i j hi => by
  by_cases hj : j < c
  . exact e i j hi hj
  . rw [lv _ (by omega), jS hi, if_neg (by omega)]
 have := ym (r := a) (c := c) (k := a) (l := fun i => i) (a := fun i => gi (nt f) i) (xs := bD c (aS (nt f)) (a * c)) (Nat.le_refl _) (fun i hi => by omega) (fun i t h _ => h) hg
  (fun i hi => .inr ⟨i, 1, hi, fun j => by rw [Int.one_mul]; exact e2 i j hi⟩) (fun t ht => ⟨t, 1, ht, fun j => by rw [Int.one_mul]; exact (e2 t j ht).symm⟩)
 refine ⟨a, fun i => i, ?_⟩;rw [show bD c (aS (nt f)) (a * c) = bD c (mono a (fun i => i) (fun i => gi (nt f) i)) (a * c) from sA (cF ..) (cF ..) fun i j hi hj => by rw [e i j hi hj, nR, if_pos ⟨hi, hj⟩]] at this |-;exact this
theorem A5 {a c : Nat} {f : List Nat} : fy a c (bD c (aS (nt f)) (a * c)) := fun i j hi hj h => by
 rw [Cy _ hi hj];unfold aS;rw [if_neg fun q => h q.1]
theorem uU {a c : Nat} {f : List Nat} (hf : f.length = a) (hac : a <= c) (hb : ∀ x ∈ f, 1 < x) : ∀ hs k l, bP a c (bD c (aS (nt f)) (a * c)) hs k l -> hs = bD c (aS (nt f)) (a * c) := fun hs k l h => by
 obtain ⟨k', l', h'⟩ := yh hf hac hb;exact (h.unique h').1
theorem zK {a c : Nat} {f : List Nat} (hf : f.length = a) (hac : a <= c) (hc : gZ f) : aC (aT c (min a c) (bD c (aS (nt f)) (a * c))) = f := by
 unfold aT;rw [Nat.min_eq_left hac, qn (Nat.le_refl _) hac (by rw [aG]; exact hf)];rw [show (nt f).map Int.natAbs = f by unfold nt; rw [List.map_map]; exact List.map_id'' (fun x => by simp) f];exact oV hc
theorem vX {c k B : Nat} {f : List Nat} (h : ∀ x ∈ f, aa x <= B) : ∀ x ∈ bD c (aS (nt f)) k, aa x.natAbs <= B := fun x hx => by
 unfold bD at hx;obtain ⟨q, _, rfl⟩ := List.mem_map.1 hx;unfold aS;split
 . rename_i h1;have hm := gX h1.2;unfold nt at hm |-;obtain ⟨y, hy, he⟩ := List.mem_map.1 hm;rw [<- he]; exact h y hy
 . simp [bg]
theorem yY {n m k : Nat} {xs : List Int} {R : List Nat} {cs : Nat -> Nat} (h : n6 n m xs R) (hp : ∃ nu T d, jh n m (aY xs n m) m k nu cs T d) : kS R = k := by
 rw [vH]; exact h.rank hp
theorem jh.exS (n m : Nat) (A : Mx) : ∀ c, c <= m -> ∃ k nu cs R d, jh n m A c k nu cs R d
 | 0, _ => ⟨0, fun i => i, fun i => i, A, 1, jh.start _ fun _ _ _ _ => rfl⟩
 | c + 1, hc => by
  obtain ⟨k, nu, cs, R, d, h⟩ := jh.exS n m A c (by omega);by_cases h0 : ∀ i, k <= i -> i < n -> R i c = 0
  . exact ⟨k, nu, cs, R, d, h.skip (by omega) h0⟩
  . obtain ⟨p, hp⟩ := Classical.not_forall.1 h0;obtain ⟨h1, hp⟩ := Classical.not_imp.1 hp;obtain ⟨h2, hp⟩ := Classical.not_imp.1 hp;have h3 := h.swap (R' := fun i j => R (jW k p i) j) h1 h2 fun _ _ _ _ _ => rfl;exact ⟨_, _, _, _, _, h3.take (R' := fun i j => if c < j then mn (k + 1) A (fun i => nu (jW k p i)) (mP cs k c) (nu (jW k p i)) j else 0) (by omega) (by omega) (by
     show R (jW k p k) c ≠ 0;rw [show jW k p k = p by unfold jW; rw [if_pos rfl]]; exact hp) fun _ _ _ _ _ => rfl⟩
theorem pM {d : Nat -> Nat} : ∀ k i, i < k -> d i ∣ bA k d
 | k + 1, i, h => by
  show d i ∣ bA k d * d k;by_cases e : i = k
  . rw [e]; exact Nat.dvd_mul_left ..
  . exact Nat.dvd_trans (pM k i (by omega)) (Nat.dvd_mul_right ..)
theorem qR {n m mw : Nat} {xs : List Int} {R : List Nat} (h : n6 n m xs R) (hn : n <= 64) (hb : ∀ x ∈ xs, x.natAbs < W ^ mw) : (∀ y ∈ R, aa y <= 64 * (mw + 1)) /\ aa (bO (eY R)) <= 64 * (mw + 1) := by
 have hd := qO h.2.1;obtain ⟨h1, h2⟩ := jO hd R.length;obtain ⟨k, nu, cs, T, d, hB⟩ := jh.exS n m (aY xs n m) m (Nat.le_refl _);have hk : gK (fun i => R.getD i 0) R.length = k := h.rank ⟨nu, T, d, hB⟩;have hkn := hB.kn;have hkl : k <= R.length := by rw [<- hk]; exact nz _ _
 rw [hk] at h1 h2;have hM : Mn k ((bA k fun i => R.getD i 0 : Nat) : Int) n m (aY xs n m) := (h.mn k _).2 (nj hd k n m);have hE : ∃ σ τ : Nat -> Nat, (∀ a < k, σ a < n) /\ (∀ a < k, τ a < m) /\ aV k (fun a b => aY xs n m (σ a) (τ b)) ≠ 0 := Classical.byContradiction fun q => hB.some fun σ τ hσ hτ => by
  by_cases e : aV k (fun a b => aY xs n m (σ a) (τ b)) = 0
  . rw [e]; exact Int.dvd_refl 0
  . exact absurd ⟨σ, τ, hσ, hτ, e⟩ q
 obtain ⟨σ, τ, hσ, hτ, hne⟩ := hE;have h3 := Int.natAbs_dvd_natAbs.2 (hM σ τ hσ hτ);rw [Int.natAbs_natCast] at h3;have h4 : aa (aV k (fun a b => aY xs n m (σ a) (τ b))).natAbs <= 64 * (mw + 1) := an (Nat.lt_of_le_of_lt (qN (B := W ^ mw) k _ fun i j => Nat.le_of_lt (kO (Nat.pow_pos (by unfold W; omega)) hb _ _)) (so (by omega)));have h5 : bA k (fun i => R.getD i 0) <= (aV k (fun a b => aY xs n m (σ a) (τ b))).natAbs := Nat.le_of_dvd (by omega) h3;have h6 : aa (bA k fun i => R.getD i 0) <= 64 * (mw + 1) := Nat.le_trans (aF h5) h4;have h7 : bA k (fun i => R.getD i 0) ≠ 0 := nT k h1;refine ⟨fun y hy => ?_, ?_⟩
 . obtain ⟨i, hi, rfl⟩ := List.getElem_of_mem hy;have e : R[i] = R.getD i 0 := by simp [hi]
   rw [e];by_cases q : i < k
   . exact Nat.le_trans (aF (Nat.le_of_dvd (by omega) (pM (d := fun i => R.getD i 0) k i q))) h6
   . rw [show R.getD i 0 = 0 from h2 i (by omega) hi];exact Nat.le_trans (Nat.le_of_eq bg) (Nat.zero_le _)
 . have e : eY R = eY (R.take k) := by
    have e1 : eY (R.take k ++ R.drop k) = eY (R.take k) ++ eY (R.drop k) := by unfold eY; exact List.filter_append ..
    have e2 : eY (R.drop k) = [] := by
     unfold eY;rw [List.filter_eq_nil_iff];intro x hx;obtain ⟨i, hi, rfl⟩ := List.getElem_of_mem hx;rw [List.length_drop] at hi;have := h2 (k + i) (by omega) (by omega);rw [List.getElem_drop];have e3 : R[k + i]'(by omega) = R.getD (k + i) 0 := by simp [show k + i < R.length by omega]
     rw [e3, show R.getD (k + i) 0 = 0 from this];simp
    rw [List.take_append_drop, e2, List.append_nil] at e1;exact e1
   rw [e, oT, mv R k hkl]
   . exact h6
   . intro x hx;obtain ⟨i, hi, rfl⟩ := List.getElem_of_mem hx;rw [List.length_take] at hi;rw [List.getElem_take];have e3 : R[i]'(by omega) = R.getD i 0 := by simp [show i < R.length by omega]
     rw [e3];exact Nat.pos_of_ne_zero (h1 i (by omega))
theorem tf (a c cap : Nat) (ao : Option Addr) (f : List Nat) (w : World) (hf : f.length = a) (hac : a <= c) (hc : c <= 64) (hch : gZ f) (hb : ∀ x ∈ f, 1 < x) (hB : ∀ x ∈ f, aa x <= 67108928) (h : bc w 17592186044415 ao (bD c (aS (nt f)) (a * c))) :
 Calls Tryz.prog 11 #[.agg #[.int .i64 (a : Int), .int .i64 (c : Int), .slice ao (a * c) cap]] w fun e w' => (∃ q : Nat, e = .returned (.tuple #[.slice (some ⟨q, 0, none⟩) a a, .int .i64 0]) /\ dw w' (some ⟨q, 0, none⟩) (nt f) /\ True /\ ∀ b o, some (⟨q, 0, none⟩ : Addr) = some ⟨b, o, none⟩ -> w.heap.size <= b) /\ Below w.heap.size w w' := by
 obtain ⟨M, hM⟩ : ∃ M : Nat, M = 67108928 := ⟨_, rfl⟩;have hm : ∀ x ∈ bD c (aS (nt f)) (a * c), x.natAbs < W ^ M := fun x hx => Nat.lt_of_lt_of_le (bK _) (Nat.pow_le_pow_right (by decide) (by rw [hM]; exact vX hB x hx));have := mA a c ao cap f (bD c (aS (nt f)) (a * c)) w (by omega) hc h (fun w' h' => by
  have := As a c M ao cap (bD c (aS (nt f)) (a * c)) w' (by omega) hc h' hm (by omega) (cF ..) fun hs k l hH => by rw [uU hf hac hb hs k l hH]; exact A5
  rw [cF] at this;refine this.mono fun e w'' ⟨⟨p, he, hl, ⟨k, l, hH⟩, hf'⟩, hb'⟩ => ⟨⟨p.2, he, ?_, by rw [Nat.min_eq_left hac]; exact hf, hf'⟩, hb'⟩;rw [uU hf hac hb _ k l hH, zK hf hac hch] at hl;exact hl) fun y hy => Nat.le_trans (hB y hy) (by omega)
 rw [Nat.min_eq_left hac] at this;exact this
def vP (w : World) (r c : Int) (ao : Option Addr) (len cap rk : Nat) (f : List Nat) : Prop := ∀ w', Below w.heap.size w w' -> Calls Tryz.prog 8 #[.agg #[.int .i64 r, .int .i64 c, .slice ao len cap]] w' fun e w'' => (∃ p : Option Addr × Nat, e = .returned (.tuple #[.int .i64 (rk : Int), .slice p.1 f.length p.2, .int .i64 0]) /\ dw w'' p.1 (nt f) /\ True /\ ∀ b o, p.1 = some ⟨b, o, none⟩ -> w'.heap.size <= b) /\ Below w'.heap.size w' w''
theorem vP.below {w w1 : World} {r c : Int} {ao : Option Addr} {len cap rk : Nat} {f : List Nat} (h : vP w r c ao len cap rk f) (hb : Below w.heap.size w w1) : vP w1 r c ao len cap rk f := fun w' hb' => h w' (hb.trans (hb'.mono hb.size))
theorem BZ {f g : List Nat} (h : nt f = nt g) : f = g := by
 have e : ∀ l : List Nat, (nt l).map Int.toNat = l := fun l => by
  unfold nt; rw [List.map_map]; exact List.map_id'' (fun x => by simp) l
 rw [<- e f, <- e g, h]
theorem nt_ne {f g : List Nat} (h : f ≠ g) : nt f ≠ nt g := fun e => h (BZ e)
theorem ne_at {f g : List Nat} {i : Nat} (h : f.getD i 0 ≠ g.getD i 0) : f ≠ g := fun e => h (by rw [e])
theorem C0 {f g : List Nat} {n : Nat} (hf : f.length = n) (hg : g.length = n) (h : ∀ i, i < n -> f.getD i 0 = g.getD i 0) : f = g := List.ext_getElem (by omega) fun i h1 h2 => by
 have := h i (by omega);simpa [h1, h2] using this
theorem zc0 {x y : Int} (h : x = y) : fO x y = 0 := by unfold fO; rw [if_neg (by omega), if_pos h]
theorem zc1 {x y : Int} (h : x ≠ y) : fO x y ≠ 0 := by unfold fO; (repeat' split) <;> omega
theorem uS (r c : Int) (ao : Option Addr) (len cap : Nat) (w : World) (hr : -9223372036854775808 <= r /\ r <= 9223372036854775807) (hc : -9223372036854775808 <= c /\ c <= 9223372036854775807) (hs : aU r c len = false) :
 Calls Tryz.prog 8 #[.agg #[.int .i64 r, .int .i64 c, .slice ao len cap]] w fun e w' => e = .returned (.tuple #[.int .i64 0, .slice none 0 0, .int .i64 1]) /\ Below w.heap.size w w' := by
 have HC := H5 (fun w' => uH r c ao len cap w' hr hc hs);clear hs;refine bJ (S0 := fun _ => False) Tryz.func8 (Fr.nil _ w) ?_;refine ak ?_;refine aW fun g1 => ?_;refine aI ?_;refine eW ?_;refine ak ?_;refine dW ?_;refine cV (v := .tuple #[.slice none 0 0, .int .i64 1]) (fun w' H => HC.out w') ?_;refine aI ?_;refine dW ?_;refine az ?_;refine c9 ?_;refine dB true ?_;refine eW ?_;refine kR ?_;refine mR ?_;refine ak ?_;refine aI ?_;refine az ?_;refine oK fun w' H => ?_;exact ⟨_, _, _, cH, cH, cH, rfl, H.below⟩
theorem vi (r c : Int) (ao : Option Addr) (len cap : Nat) (w : World) (hr : -9223372036854775808 <= r /\ r <= 9223372036854775807) (hc : -9223372036854775808 <= c /\ c <= 9223372036854775807) (hs : aU r c len = false) :
 Calls Tryz.prog 14 #[.agg #[.int .i64 r, .int .i64 c, .slice ao len cap]] w fun e w' => e = .returned (.tuple #[.agg #[.bool false, .slice none 0 0], .int .i64 1]) /\ Below w.heap.size w w' := by
 have HC := H5 (fun w' => uS r c ao len cap w' hr hc hs);clear hs;refine bJ (S0 := fun _ => False) Tryz.func14 (Fr.nil _ w) ?_;refine ak ?_;refine aW fun g1 => ?_;refine aW fun g2 => ?_;refine az ?_;refine c9 ?_;refine cV (v := .tuple #[.int .i64 0, .slice none 0 0, .int .i64 1]) (fun w' H => HC.out w') ?_;refine aI ?_;refine aI ?_;refine az ?_;refine c9 ?_;refine dB true ?_;refine dW ?_;refine uG ?_;refine uG ?_;refine az ?_;refine mR ?_;refine ak ?_;refine dr ?_;refine sW ?_;refine az ?_;refine fh fun w' H => ?_;exact ⟨_, _, ka (H.all (.row g2 40 [.bool false, .slice none 0 0]) (by simp)), cH, rfl, H.below⟩
structure GzX where
 i : Nat
 pv : Nat
 pp : P4
structure GzJ (f : List Nat) (n : Nat) (z : GzX) : Prop where
 hi : z.i <= n
 hp : z.pv = bO (f.take z.i)
theorem AK (r c : Int) (ao : Option Addr) (len cap rk : Nat) (f : List Nat) (w : World) (hO : vP w r c ao len cap rk f) (hL : ∀ x ∈ f, aa x <= 67108928) (hf : f.length <= 64) :
 Calls Tryz.prog 14 #[.agg #[.int .i64 r, .int .i64 c, .slice ao len cap]] w fun e w' => (∃ x : Int, x = ((if 0 < rk then 0 else bO f : Nat) : Int) /\ ∃ v, e = .returned (.tuple #[v, .int .i64 0]) /\ ae w' w.heap.size v x) /\ Below w.heap.size w w' := by
 obtain ⟨n, hnn⟩ : ∃ n, f.length = n := ⟨_, rfl⟩;obtain ⟨M, hM⟩ : ∃ M : Nat, M = 67108928 := ⟨_, rfl⟩;have hfb : ∀ x ∈ f, x < W ^ M := fun x hx => Nat.lt_of_lt_of_le (bK _) (Nat.pow_le_pow_right (by decide) (by rw [hM]; exact hL x hx));have hpb : ∀ i, i <= n -> aa (bO (f.take i)) <= 824634507265 := fun i hi => Nat.le_trans (nH (B := M) (n := n) hfb hi) (by rw [hM]; omega);have hst : ∀ i, i < n -> gi (nt f) i = ((f.getD i 0 : Nat) : Int) := fun i hi => by
  rw [cW (by rw [aG]; omega)]; simp [nt, show i < f.length by omega]
 have hsw : ∀ i, i < n -> aa (gi (nt f) i).natAbs <= 67108928 := fun i hi => by
  rw [hst i hi, Int.natAbs_natCast, show f.getD i 0 = f[i] by simp [show i < f.length by omega]];exact hL _ (List.getElem_mem _)
 have hsu : ∀ i, i < n -> bO (f.take (i + 1)) = bO (f.take i) * f.getD i 0 := fun i hi => kA (by omega);have HF := H5 (And.intro hpb (And.intro hst (And.intro hsu (And.intro (show (nt f).length = n by rw [aG]; exact hnn) (And.intro (show f.take n = f from List.take_of_length_le (by omega)) hsw)))));have hO' : ∀ w', Below w.heap.size w w' -> Calls Tryz.prog 8 #[.agg #[.int .i64 r, .int .i64 c, .slice ao len cap]] w' fun e w'' => (∃ p : Option Addr × Nat, e = .returned (.tuple #[.int .i64 (rk : Int), .slice p.1 n p.2, .int .i64 0]) /\ dw w'' p.1 (nt f) /\ True /\ ∀ b o, p.1 = some ⟨b, o, none⟩ -> w'.heap.size <= b) /\ Below w'.heap.size w' w'' := by
  intro w' hb; have := hO w' hb; rw [hnn] at this; exact this
 have HO := H5 hO';rw [hnn] at hf;clear hnn hfb hpb hst hsu hsw hO hO' hL;refine bJ (S0 := fun _ => False) Tryz.func14 (Fr.nil _ w) ?_;refine ak ?_;refine aW fun g1 => ?_;refine aW fun g2 => ?_;refine az ?_;refine c9 ?_;refine jc (α := Option Addr × Nat) (mk := fun p => .tuple #[.int .i64 (rk : Int), .slice p.1 n p.2, .int .i64 0]) (ao := fun p => p.1) (xs := fun _ => nt f) (A := fun _ => True) (fun w' H => HO.out w' H.below) fun q => ?_;refine aI ?_;refine aI ?_;refine az ?_;obtain ⟨la, ca⟩ := q;refine c9 ?_;refine dB false ?_;by_cases h0 : 0 < rk
 . have h00 : (0 : Int) < (rk : Int) := by omega
   have h01 : (if 0 < rk then 0 else bO f : Nat) = 0 := if_pos h0;rw [h01];refine dW ?_;refine dG ?_;refine gU true ?_;refine az ?_;refine mR ?_;refine ak ?_;refine dr ?_;refine sW ?_;refine az ?_;refine fh fun w' H => ?_;exact ⟨_, _, ka (H.all (.row g2 40 [.bool false, .slice none 0 0]) (by simp)), cH, ⟨_, rfl, _, rfl, ae.zero w' _⟩, H.below⟩
 . have h00 : ¬ (0 : Int) < (rk : Int) := by omega
   have h01 : (if 0 < rk then 0 else bO f : Nat) = bO f := if_neg h0;rw [h01];refine dW ?_;refine dG ?_;refine gU false ?_;refine az ?_;refine gM ?_;refine ak ?_;refine cN (x := ((1 : Nat) : Int)) (fun w' H => iA 1 w' (by omega) (by omega)) fun pp => ?_;refine aW fun g7 => ?_;refine sG ?_;refine eW ?_;refine ak ?_;refine aI ?_;refine fg ?_;refine di (X := GzX) (GzJ f n) (fun z => n - z.i) (fun z => [(27, .int .i64 (z.i : Int)), (26, .int .i64 (n : Int)), (25, .slice la n ca), (7, .pointer (some ⟨g7, 0, none⟩)), (2, .pointer (some ⟨g2, 0, none⟩))]) (fun z => [.row g7 40 [.bool z.pp.1, .slice z.pp.2.1 z.pp.2.2.1 z.pp.2.2.2], .own w.heap.size (av z.pp) ((z.pv : Nat) : Int), .row g2 40 [.bool false, .slice none 0 0], .jL la (nt f)]) ⟨0, 1, pp⟩ ⟨Nat.zero_le _, rfl⟩ fun z hz => ?_;obtain ⟨i, pv, pp⟩ := z;obtain ⟨hi, hp⟩ := hz
   replace hi : i <= n := hi
   replace hp : pv = bO (f.take i) := hp
   have hpw : aa pv <= 824634507265 := by rw [hp]; exact HF.out.1 i hi
   by_cases h : i < n
   . have h02 : (i : Int) < (n : Int) := by omega
     have HT : Hid (pv * f.getD i 0 = bO (f.take (i + 1))) := H5 (by rw [HF.out.2.2.1 i h, hp]);clear hp;refine ak ?_;refine dB true ?_;refine fg ?_;refine Bq (ao := la) (xs := nt f) (by simp) (by rw [HF.out.2.2.2.1]; omega) fun bq oq eq => ?_;subst eq;refine rH (xs := nt f) (b := bq) (o := oq) i (by simp) (by rw [HF.out.2.2.2.1]; exact h) fun p => ?_;refine mR ?_;refine ak ?_;refine dr ?_;refine aW fun g9 => ?_;refine sG ?_;refine eW ?_;refine ak ?_;refine dr ?_;refine cN (x := ((pv * f.getD i 0 : Nat) : Int)) (fun w' H => by have := ie (av pp) (av p) pv (gi (nt f) i) 824634507265 67108928 w' (ae.int (H.all (.own w.heap.size (av pp) ((pv : Nat) : Int)) (by simp [av])) hpw) ((H.all (.num (av p) (gi (nt f) i)) (by simp [av]) : aN ..).int (HF.out.2.2.2.2.2 i h)) (by omega); rw [HF.out.2.1 i h] at this; rw [Int.natCast_mul]; exact this) fun q => ?_;refine sW ?_;refine eW ?_;refine ak ?_;refine dE (eZ (a := i) (by omega)) ?_;refine az ?_;exact cI (⟨i + 1, pv * f.getD i 0, q⟩ : GzX) ⟨⟨h, HT.out⟩, by show n - (i + 1) < n - i; omega⟩
   . obtain rfl : i = n := by omega
     have HT : Hid (pv = bO f) := H5 (by rw [hp, HF.out.2.2.2.2.1]);clear hp;refine ak ?_;refine dB false ?_;refine eW ?_;refine kR ?_;refine gM ?_;refine ak ?_;refine dW ?_;refine sW ?_;refine az ?_;refine fh fun w' H => ?_;exact ⟨_, _, ka (H.all (.row g2 40 [.bool pp.1, .slice pp.2.1 pp.2.2.1 pp.2.2.2]) (by simp)), cH, ⟨_, rfl, av pp, rfl, by rw [<- HT.out]; exact H.all (.own w.heap.size (av pp) ((pv : Nat) : Int)) (by simp [av])⟩, H.below⟩
theorem Co (p q : P4) (x y : Int) (w : World) (hA : a8 w 17592186044415 (av p) x) (hB : a8 w 17592186044415 (av q) y) (h : x = y) :
 Calls Tryz.prog 71 #[av p, av q] w fun e w' => e = .returned (.bool true) /\ Below w.heap.size w w' := by
 have hz := zc0 h;have HC := H5 (fun w' h h' => gy (av p) (av q) x y w' h h');obtain ⟨z, hzz⟩ : ∃ z, fO x y = z := ⟨_, rfl⟩;rw [hzz] at hz HC;clear hzz h;subst hz;refine bJ (S0 := fun _ => False) Tryz.func71 (((Fr.nil _ w).i hB).i hA) ?_;refine ak ?_;refine aW fun g2 => ?_;refine aW fun g3 => ?_;refine az ?_;refine c9 ?_;refine dW ?_;refine cV (v := .int .i64 0) (fun w' H => HC.out w' (H.all (.at 17592186044415 (av p) x) (by simp [av])) (H.all (.at 17592186044415 (av q) y) (by simp [av]))) ?_;refine dB true ?_;refine az ?_;refine cd fun w' H => ?_;exact ⟨_, cH, rfl, H.below⟩
theorem CA (p q : P4) (x y : Int) (w : World) (hA : a8 w 17592186044415 (av p) x) (hB : a8 w 17592186044415 (av q) y) (h : x ≠ y) :
 Calls Tryz.prog 71 #[av p, av q] w fun e w' => e = .returned (.bool false) /\ Below w.heap.size w w' := by
 have hz := zc1 h;have HC := H5 (fun w' h h' => gy (av p) (av q) x y w' h h');obtain ⟨z, hzz⟩ : ∃ z, fO x y = z := ⟨_, rfl⟩;rw [hzz] at hz HC;clear hzz h;refine bJ (S0 := fun _ => False) Tryz.func71 (((Fr.nil _ w).i hB).i hA) ?_;refine ak ?_;refine aW fun g2 => ?_;refine aW fun g3 => ?_;refine az ?_;refine c9 ?_;refine dW ?_;refine cV (v := .int .i64 z) (fun w' H => HC.out w' (H.all (.at 17592186044415 (av p) x) (by simp [av])) (H.all (.at 17592186044415 (av q) y) (by simp [av]))) ?_;refine dB false ?_;refine az ?_;refine cd fun w' H => ?_;exact ⟨_, cH, rfl, H.below⟩
theorem BD (p q : P4) (x y : Int) (w : World) (hA : a8 w 17592186044415 (av p) x) (hB : a8 w 17592186044415 (av q) y) :
 Calls Tryz.prog 71 #[av p, av q] w fun e w' => e = .returned (.bool (decide (x = y))) /\ Below w.heap.size w w' := by
 by_cases h : x = y
 . rw [decide_eq_true h]; exact Co p q x y w hA hB h
 . rw [decide_eq_false h]; exact CA p q x y w hA hB h
theorem xr (F : FuncId) (hF : ∀ (args : Array Value) (w : World), (callFunc F args).run Tryz.prog w = .ok (.enter F args) w) (la lb : Option Addr) (ca cb L : Nat) (f g : List Nat) (w : World) (hA : bc w L la (nt f)) (hB : bc w L lb (nt g)) (hf : f.length <= 100000) (hg : g.length <= 100000)
 (hC : ∀ (p q : P4) (x y : Int) w', a8 w' L (av p) x -> a8 w' L (av q) y -> Calls Tryz.prog F #[av p, av q] w' fun e w'' => e = .returned (.bool (decide (x = y))) /\ Below w'.heap.size w' w'') :
 Calls Tryz.prog 70 #[.slice la f.length ca, .slice lb g.length cb, .func (.func F) #[] #[]] w fun e w' => e = .returned (.bool (decide (f = g))) /\ Below w.heap.size w w' := by
 obtain ⟨n, hnn⟩ : ∃ n, f.length = n := ⟨_, rfl⟩;obtain ⟨m, hmm⟩ : ∃ m, g.length = m := ⟨_, rfl⟩;have hst : ∀ (l : List Nat) i, gi (nt l) i = ((l.getD i 0 : Nat) : Int) := fun l i => sD l i;have HC := H5 (And.intro hC (And.intro hst (And.intro (show (nt f).length = n by rw [aG]; exact hnn) (And.intro (show (nt g).length = m by rw [aG]; exact hmm) (And.intro hnn hmm)))));rw [hnn] at hf |-;rw [hmm] at hg |-;have HFF := ((Fr.nil (fun _ => False) w).l hB (by simp)).l hA (by simp [En.wr]);clear hnn hmm hst hC;refine bJ (S0 := fun _ => False) Tryz.func70 HFF ?_;clear HFF;by_cases hnm : n = m
 . subst hnm;refine ak ?_;refine az ?_;refine rW [] ?_;refine aI ?_;refine dW ?_;refine dB false ?_;refine eW ?_;refine kR ?_;refine gM ?_;refine ak ?_;refine aI ?_;refine fg ?_;refine di (X := Nat) (fun i => i <= n /\ ∀ t, t < i -> f.getD t 0 = g.getD t 0) (fun i => n - i) (fun i => [(17, .int .i64 (i : Int)), (16, .int .i64 (n : Int)), (15, .slice la n ca), (1, .slice lb n cb), (2, .func (.func F) #[] #[])]) (fun _ => [.ls L la (nt f), .ls L lb (nt g)]) 0 ⟨Nat.zero_le _, fun t ht => absurd ht (Nat.not_lt_zero t)⟩ fun i hx => ?_;obtain ⟨hi, hall⟩ := hx
   replace hi : i <= n := hi
   have HAl := H5 hall;clear hall;by_cases h : i < n
   . have h01 : (i : Int) < (n : Int) := by omega
     obtain ⟨ba, oa, rfl⟩ := hA.pos (i := i) (by rw [HC.out.2.2.1]; exact h);obtain ⟨bb, ob, rfl⟩ := hB.pos (i := i) (by rw [HC.out.2.2.2.1]; exact h);refine ak ?_;refine dB true ?_;refine fg ?_;refine ou (L := L) (xs := nt f) (b := ba) (o := oa) i (by simp) (by rw [HC.out.2.2.1]; exact h) fun p => ?_;refine ou (L := L) (xs := nt g) (b := bb) (o := ob) i (by simp) (by rw [HC.out.2.2.2.1]; exact h) fun q => ?_;by_cases he : f.getD i 0 = g.getD i 0
     . have HE := H5 he;clear he;refine kR ?_;refine mR ?_;refine ak ?_;refine aI ?_;refine aW fun g8 => ?_;refine dW ?_;refine sG ?_;refine eW ?_;refine ak ?_;refine aI ?_;refine dW ?_;refine aW fun g9 => ?_;refine sG ?_;refine eW ?_;refine ak ?_;refine aI ?_;refine cV (f := F) (v := .bool true) (fun w' H => by have := HC.out.1 p q (gi (nt f) i) (gi (nt g) i) w' (H.all (.at L (av p) (gi (nt f) i)) (by simp [av])) (H.all (.at L (av q) (gi (nt g) i)) (by simp [av])); rw [decide_eq_true (by rw [HC.out.2.1, HC.out.2.1, HE.out])] at this; exact this) ?_;refine az ?_;refine gM ?_;refine ak ?_;refine dE (eZ (a := i) (by omega)) ?_;refine az ?_;exact cI (i + 1) ⟨⟨h, fun t ht => by
        by_cases q : t < i
        . exact HAl.out t q
        . rw [show t = i by omega]; exact HE.out⟩, by show n - (i + 1) < n - i; omega⟩
     . have HE := H5 he;clear he;refine kR ?_;refine mR ?_;refine ak ?_;refine aI ?_;refine aW fun g8 => ?_;refine dW ?_;refine sG ?_;refine eW ?_;refine ak ?_;refine aI ?_;refine dW ?_;refine aW fun g9 => ?_;refine sG ?_;refine eW ?_;refine ak ?_;refine aI ?_;refine cV (f := F) (v := .bool false) (fun w' H => by have := HC.out.1 p q (gi (nt f) i) (gi (nt g) i) w' (H.all (.at L (av p) (gi (nt f) i)) (by simp [av])) (H.all (.at L (av q) (gi (nt g) i)) (by simp [av])); rw [decide_eq_false (by rw [HC.out.2.1, HC.out.2.1]; exact fun e => HE.out (by omega))] at this; exact this) ?_;refine az ?_;refine mR ?_;refine ak ?_;refine az ?_;refine cd fun w' H => ?_;exact ⟨_, cH, by rw [decide_eq_false (ne_at HE.out)], H.below⟩
   . obtain rfl : n = i := by omega
     refine ak ?_;refine dB false ?_;refine eW ?_;refine kR ?_;refine gM ?_;refine ak ?_;refine az ?_;refine cd fun w' H => ?_;exact ⟨_, cH, by rw [decide_eq_true (C0 HC.out.2.2.2.2.1 HC.out.2.2.2.2.2 HAl.out)], H.below⟩
 . have hnm2 : ¬ (n : Int) = (m : Int) := by omega
   refine ak ?_;refine az ?_;refine rW [] ?_;refine aI ?_;refine dW ?_;refine dB true ?_;refine eW ?_;refine kR ?_;refine mR ?_;refine ak ?_;refine az ?_;refine cd fun w' H => ?_;exact ⟨_, cH, by rw [decide_eq_false fun e => hnm (by rw [<- HC.out.2.2.2.2.1, <- HC.out.2.2.2.2.2, e])], H.below⟩
theorem yV (la lb : Option Addr) (ca cb : Nat) (f g : List Nat) (w : World) (hA : bc w 17592186044415 la (nt f)) (hB : bc w 17592186044415 lb (nt g)) (hf : f.length <= 100000) (hg : g.length <= 100000) :
 Calls Tryz.prog 42 #[.slice la f.length ca, .slice lb g.length cb] w fun e w' => e = .returned (.bool (decide (f = g))) /\ Below w.heap.size w w' := by
 have HC := H5 (fun w' h h' => xr 71 (enters_of Tryz.func71 (by kernel_rfl) rfl) la lb ca cb 17592186044415 f g w' h h' hf hg BD);have HFF := ((Fr.nil (fun _ => False) w).l hB (by simp)).l hA (by simp [En.wr]);refine bJ (S0 := fun _ => False) Tryz.func42 HFF ?_;clear HFF;refine ak ?_;refine az ?_;refine c9 ?_;refine dW ?_;refine cV (v := .bool (decide (f = g))) (fun w' H => HC.out w' (H.all (.ls 17592186044415 la (nt f)) (by simp)) (H.all (.ls 17592186044415 lb (nt g)) (by simp))) ?_;refine az ?_;refine cd fun w' H => ?_;exact ⟨_, cH, rfl, H.below⟩
theorem tu (r c s d : Int) (ao bo : Option Addr) (la ca lb cb : Nat) (w : World) (hr : -9223372036854775808 <= r /\ r <= 9223372036854775807) (hc : -9223372036854775808 <= c /\ c <= 9223372036854775807) (hs : aU r c la = false) :
 Calls Tryz.prog 20 #[.agg #[.int .i64 r, .int .i64 c, .slice ao la ca], .agg #[.int .i64 s, .int .i64 d, .slice bo lb cb]] w fun e w' => e = .returned (.tuple #[.bool false, .int .i64 1]) /\ Below w.heap.size w w' := by
 have HC := H5 (fun w' => uS r c ao la ca w' hr hc hs);clear hs;refine bJ (S0 := fun _ => False) Tryz.func20 (Fr.nil _ w) ?_;refine ak ?_;refine aW fun g2 => ?_;refine aW fun g3 => ?_;refine dW ?_;refine az ?_;refine c9 ?_;refine cV (v := .tuple #[.int .i64 0, .slice none 0 0, .int .i64 1]) (fun w' H => HC.out w') ?_;refine aI ?_;refine aI ?_;refine az ?_;refine c9 ?_;refine dB true ?_;refine eW ?_;refine kR ?_;refine mR ?_;refine ak ?_;refine aI ?_;refine fg ?_;refine fh fun w' H => ?_;exact ⟨_, _, cH, cH, rfl, H.below⟩
theorem xK (r c s d : Int) (ao bo : Option Addr) (la ca lb cb rk : Nat) (f : List Nat) (w : World) (hO : vP w r c ao la ca rk f) (hr : -9223372036854775808 <= s /\ s <= 9223372036854775807) (hc : -9223372036854775808 <= d /\ d <= 9223372036854775807) (hs : aU s d lb = false) :
 Calls Tryz.prog 20 #[.agg #[.int .i64 r, .int .i64 c, .slice ao la ca], .agg #[.int .i64 s, .int .i64 d, .slice bo lb cb]] w fun e w' => e = .returned (.tuple #[.bool false, .int .i64 1]) /\ Below w.heap.size w w' := by
 have HC := H5 (And.intro (fun w' => uS s d bo lb cb w' hr hc hs) hO);clear hs hO;refine bJ (S0 := fun _ => False) Tryz.func20 (Fr.nil _ w) ?_;refine ak ?_;refine aW fun g2 => ?_;refine aW fun g3 => ?_;refine dW ?_;refine az ?_;refine c9 ?_;refine jc (α := Option Addr × Nat) (mk := fun p => .tuple #[.int .i64 (rk : Int), .slice p.1 f.length p.2, .int .i64 0]) (ao := fun p => p.1) (xs := fun _ => nt f) (A := fun _ => True) (fun w' H => HC.out.2 w' H.below) fun q => ?_;refine aI ?_;refine aI ?_;refine az ?_;refine c9 ?_;refine dB false ?_;refine eW ?_;refine kR ?_;refine gM ?_;refine ak ?_;refine dW ?_;refine cV (v := .tuple #[.int .i64 0, .slice none 0 0, .int .i64 1]) (fun w' H => HC.out.1 w') ?_;refine aI ?_;refine aI ?_;refine az ?_;refine c9 ?_;refine dB false ?_;refine dW ?_;(iterate 3 refine uG ?_);refine dr ?_;refine uG ?_;refine uG ?_;refine uC ?_;refine aI ?_;refine az ?_;refine fh fun w' H => ?_;exact ⟨_, _, cH, cH, rfl, H.below⟩
theorem vW (r c s d : Int) (ao bo : Option Addr) (la ca lb cb rk sk : Nat) (f g : List Nat) (w : World) (hO : vP w r c ao la ca rk f) (hP : vP w s d bo lb cb sk g) (hf : f.length <= 64) (hg : g.length <= 64) (hfb : ∀ x ∈ f, aa x <= 67108928) (hgb : ∀ x ∈ g, aa x <= 67108928) :
 Calls Tryz.prog 20 #[.agg #[.int .i64 r, .int .i64 c, .slice ao la ca], .agg #[.int .i64 s, .int .i64 d, .slice bo lb cb]] w fun e w' => e = .returned (.tuple #[.bool (decide (rk = sk /\ f = g)), .int .i64 0]) /\ Below w.heap.size w w' := by
 have nb : ∀ {f : List Nat}, (∀ x ∈ f, aa x <= 67108928) -> ∀ x ∈ nt f, aa x.natAbs <= 17592186044415 := fun {f} h x hx => by
  unfold nt at hx;obtain ⟨y, hy, rfl⟩ := List.mem_map.1 hx;exact Nat.le_trans (h y hy) (by omega)
 have c1 := fun la lb ca cb w' (h : dw w' la (nt f)) (h' : dw w' lb (nt g)) => yV la lb ca cb f g w' (h.gW (nb hfb)) (h'.gW (nb hgb)) (by omega) (by omega);have HC := H5 (And.intro hO (And.intro hP c1));clear hO hP hf hg hfb hgb nb c1;refine bJ (S0 := fun _ => False) Tryz.func20 (Fr.nil _ w) ?_;refine ak ?_;refine aW fun g2 => ?_;refine aW fun g3 => ?_;refine dW ?_;refine az ?_;refine c9 ?_;refine jc (α := Option Addr × Nat) (mk := fun p => .tuple #[.int .i64 (rk : Int), .slice p.1 f.length p.2, .int .i64 0]) (ao := fun p => p.1) (xs := fun _ => nt f) (A := fun _ => True) (fun w' H => HC.out.1 w' H.below) fun q1 => ?_;refine aI ?_;refine aI ?_;refine az ?_;refine c9 ?_;refine dB false ?_;refine eW ?_;refine kR ?_;refine gM ?_;refine ak ?_;refine dW ?_;refine jc (α := Option Addr × Nat) (mk := fun p => .tuple #[.int .i64 (sk : Int), .slice p.1 g.length p.2, .int .i64 0]) (ao := fun p => p.1) (xs := fun _ => nt g) (A := fun _ => True) (fun w' H => HC.out.2.1 w' H.below) fun q2 => ?_;refine aI ?_;refine aI ?_;refine az ?_;refine c9 ?_;refine dB true ?_;by_cases h : rk = sk
 . subst h;refine dW ?_;refine dG ?_;refine dG ?_;refine gU true ?_;refine dr ?_;refine dG ?_;refine dG ?_;refine nV (v := .bool (decide (f = g))) (fun w' H => HC.out.2.2 q1.1 q2.1 q1.2 q2.2 w' (H.all (.jL q1.1 (nt f)) (by simp)) (H.all (.jL q2.1 (nt g)) (by simp))) ?_;refine aI ?_;refine az ?_;refine fh fun w' H => ?_;exact ⟨_, _, cH, cH, by simp, H.below⟩
 . have h01 : ¬ (rk : Int) = (sk : Int) := by omega
   refine dW ?_;refine dG ?_;refine dG ?_;refine gU false ?_;refine dr ?_;refine uG ?_;refine uG ?_;refine uC ?_;refine aI ?_;refine az ?_;refine fh fun w' H => ?_;exact ⟨_, _, cH, cH, by rw [decide_eq_false fun q => h q.1], H.below⟩
abbrev xd (l : Nat) : Fence := Fence.wide.inRound l
theorem x3 {P : Program} {f : FuncId} {args : Array Value} {w : World} {R : Ending -> World -> Prop} (l n : Nat) (h : Calls P f args w R) : CallsIn (xd l) n P f args w R := ((callsIn_wide (n := n)).2 h).inRound l
theorem xS {P : Program} {row : String} {args : Array Value} {w : World} {R : Value -> World -> Prop} (l n : Nat) (h : Rows P row args w R) : RowsIn (xd l) n P row args w R := fun c cs _ => by
 obtain ⟨v, w', r, s⟩ := h c cs;exact ⟨v, w', r, stepsIn_wide.2 s⟩
def Bu (q : Act -> World -> Prop) : Exit -> Act -> World -> Prop
 | .normal, a, w => q a w
 | _, _, _ => False
theorem vN {q : Act -> World -> Prop} : ¬ LetsOut (Bu q) := fun ⟨_, _, h⟩ => h
def wZ (ops : Array Oper) : Bool := ops.all fun o => match o.op with | .defer _ => false | _ => true
theorem A0 {ops : Array Oper} (h : wZ ops = true) {i : Nat} {o : Oper} (ho : ops[i]? = some o) : ∀ c, o.op ≠ .defer c := fun c e => by
 unfold wZ at h;rw [Array.all_eq_true] at h;obtain ⟨hi, rfl⟩ := Array.getElem?_eq_some_iff.1 ho;have := h i hi;rw [e] at this;cases this
section
variable {P : Program} {ops : Array Oper} {q : Act -> World -> Prop} {Q' : Exit -> Act -> World -> Prop} {l n : Nat}
theorem vR (hd : wZ ops = true) {i : Nat} {K K' : Act -> World -> Prop} {a : Act} {w : World} (hK : ∀ a w, K a w -> K' a w) (h : wpOp P ops (Bu q) i K a w) : wpOpIn (xd l) n P ops Q' i K' a w := by
 unfold wpOp at h;unfold wpOpIn;cases ho : ops[i]? with
 | none => rw [ho] at h; exact hK _ _ h
 | some o =>
  rw [ho] at h;simp only at h |-;by_cases hw : Region.wanted o (yielded ops a.tmps) = true
  . rw [if_pos hw] at h |-;have h := h.resolve_right fun q => vN q.2;unfold Oper.wp at h;refine ⟨fun _ _ => trivial, ?_⟩;rw [Oper.semAt_eq _ _ _ (A0 hd ho)];generalize (execOp a.eval o).run P w = r at *;cases r with
    | halt x w' => cases x <;> exact h.elim
    | ok nx w' =>
     cases nx with
     | value v => exact hK _ _ h
     | skip => exact hK _ _ h
     | defer d => exact hK _ _ h
     | enter f args =>
      refine ⟨fun h => by simp [xd, Fence.inRound, Fence.wide] at h, x3 l (n - 1) (Calls.mono h fun e w'' he => ?_)⟩;cases e with
      | returned v => exact hK _ _ he
      | panicked c => exact he.elim
      | outgrown => exact (vN he).elim
     | row row args => exact ⟨fun h => by simp [xd, Fence.inRound, Fence.wide] at h, xS l (n - 1) (Rows.mono h fun v w'' he => hK _ _ he)⟩
     | _ => exact h.elim
  . rw [if_neg hw] at h |-;exact ⟨fun _ _ => trivial, hK _ _ h⟩
theorem rR (hd : wZ ops = true) (hq : ∀ a w, q a w -> Q' .normal a w) {md : Region.Mode} : ∀ (fuel : Nat) (ls : Array Bool) (a : Act) (w : World), wpAny P md ops (Bu q) fuel ls a w -> wpAnyIn (xd l) n P md ops Q' fuel ls a w
 | 0, _, _, _, h => ⟨h.1, hq _ _ h.2⟩
 | fuel + 1, ls, a, w, h => ⟨fun hr => hq _ _ (h.1 hr), fun i hi => vR hd (fun a w k => rR hd hq fuel _ a w k) (h.2 i hi)⟩
theorem sM (hd : wZ ops = true) (hq : ∀ a w, q a w -> Q' .normal a w) : ∀ (l' : List Nat) (a : Act) (w : World), wpOps P ops (Bu q) l' a w -> wpOpsIn (xd l) n P ops Q' l' a w
 | [], _, _, h => hq _ _ h
 | i :: l', a, w, h => by
  rw [wpOps_cons] at h;rw [wpOpsIn_cons];exact vR hd (fun a w k => sM hd hq l' a w k) h
end
def CI (l N : Nat) (P : Program) (n : Nat) (S0 : Nat -> Prop) (w0 : World) (c : Code) (Q : Exit -> Act -> World -> Prop) (ls : List (Nat × Value)) (es : List En) : Prop := ∀ a w, Sl n ls a -> Fr S0 w0 w es -> c.wpIn (xd l) N P Q a w
section
variable {P : Program} {ops : Array Oper} {Q Qx : Exit -> Act -> World -> Prop} {S0 : Nat -> Prop} {w0 : World} {n l N : Nat} {ls : List (Nat × Value)} {es : List En}
theorem rI {id m : Nat} {d : Bool} (hd : List (List Nat)) (k : RWs ⟨P, ops, Bu (Q .normal), S0, w0, es, hd⟩ n (ub m 0) [] es ls) (hm : P.follows .mixedOrders = true := by kernel_rfl) (hn : ops.size = m := by rfl) (hok : (kX ops m && wZ ops) = true := by kernel_rfl) : CI l N P n S0 w0 (.region id ops d) Q ls es := fun a w ha hw => by
 simp only [Bool.and_eq_true] at hok;cases d with
 | true => exact wpIn_region_any hm (rR hok.2 (fun _ _ h => h) _ _ _ _ (rgA1 ⟨P, ops, Bu (Q .normal), S0, w0, es, hd⟩ hn hok.1 hw (k a ha)))
 | false => exact wpIn_region (sM hok.2 (fun _ _ h => h) _ _ _ (rgB1 ⟨P, ops, Bu (Q .normal), S0, w0, es, hd⟩ hn hok.1 hw (k a ha)))
theorem nrmI {D : List En} (k : QW n S0 w0 Q .normal ls D) : QW n S0 w0 (Bu (Q .normal)) .normal ls D := k
theorem seqI {x y : Code} (k : CI l N P n S0 w0 x (Exit.then (y.wpIn (xd l) N P Q) Q) ls es) : CI l N P n S0 w0 (.seq x y) Q ls es := fun a w ha hw => wpIn_seq (k a w ha hw)
theorem Cq {id : Nat} {c : Code} (k : CI l N P n S0 w0 c (Exit.inBlock id Q) ls es) : CI l N P n S0 w0 (.block id c) Q ls es := fun a w ha hw => wpIn_block (k a w ha hw)
theorem nextI {y : Code} (k : CI l N P n S0 w0 y Q ls es) : QW n S0 w0 (Exit.then (y.wpIn (xd l) N P Q) Qx) .normal ls es := k
theorem goI {Z R : Prop} (k : R) (h : R -> Z := by
 intro k;repeat (first | refine nrmI ?_ | refine seqI ?_ | refine skipI ?_ | refine nextI ?_ | refine Cq ?_ | refine exitI ?_ | refine Bn ?_ | refine inbN ?_ | refine inbE ?_ | refine inbX (by decide) ?_)
 exact k) : Z := h k
end
end Go.Proofs.YtbgecfleamckcaaGreat
