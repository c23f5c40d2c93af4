/- Part 6 of 9 of the proof that the law ModhnfVolumes returns true for every input of bulk at most 1048576 and leaves its arguments as they were. -/
import Derived.Test.YtjjlmfmoihooiaaGreatVoE
set_option linter.all false
set_option maxRecDepth 100000
set_option maxHeartbeats 4000000
namespace Go.Proofs.YtjjlmfmoihooiaaGreat
open Go.RowKit
def c8 (m : Nat) (xs : List Int) (rs cs : List Nat) (i j : Nat) : Int := gi xs (rs.getD i 0 * m + cs.getD j 0)
def lh (ao : Option Addr) (cs : List Value) (w : World) : Prop := 0 < cs.length -> ∃ b o, ao = some ⟨b, o, none⟩ /\ b < w.heap.size /\ ∀ (i : Nat) v, cs[i]? = some v -> w.cell? ⟨b, o + i, none⟩ = some v
abbrev En.rD (ao : Option Addr) (cs : List Value) : En := .fact false false (fun g => 0 < cs.length /\ ∃ o, ao = some ⟨g, o, none⟩) (lh ao cs)
 (fun h b ⟨hl, o, e⟩ => by
  obtain ⟨b', o', e', hb, _⟩ := h hl;rw [e] at e'; cases e'; exact hb)
 (fun {w w' T} h hc _ hs hl => by
  obtain ⟨b, o, e, hb, hcl⟩ := h hl;exact ⟨b, o, e, Nat.lt_of_lt_of_le hb hc.size, fun i v hv => (hc.cell (p := ⟨b, o + i, none⟩) hb (hs b ⟨hl, o, e⟩)).trans (hcl i v hv)⟩)
theorem lh.below {ao : Option Addr} {cs : List Value} {w w' : World} (h : lh ao cs w) (hb : Below w.heap.size w w') : lh ao cs w' := fun hl => by
 obtain ⟨b, o, e, hlt, hc⟩ := h hl;exact ⟨b, o, e, Nat.lt_of_lt_of_le hlt hb.size, fun i v hv => (hb.cell (p := ⟨b, o + i, none⟩) hlt).trans (hc i v hv)⟩
theorem Fr.yo {S0 : Nat -> Prop} {w0 w : World} {es : List En} (h : Fr S0 w0 w es) {ao : Option Addr} {cs : List Value} (hx : lh ao cs w) (hS : ∀ e ∈ es, e.wr = false) : Fr S0 w0 w (.rD ao cs :: es) :=
 h.cons hx (fun e he => ⟨(fun q => nomatch q), fun q => by rw [hS e he] at q; cases q⟩) (fun q => nomatch q)
section
variable {P : Program} {Q : Exit -> Act -> World -> Prop} {ds : List Deferred} {S0 : Nat -> Prop} {w0 : World} {n : Nat} {ls : List (Nat × Value)} {es : List En} {c : Code}
theorem AK {ao : Option Addr} {cs : List Value} {v : Value} (i : Nat) (hm : En.rD ao cs ∈ es) (hi : cs[i]? = some v) (k : ∀ b o, ao = some ⟨b, o, none⟩ -> fg ds P n S0 w0 c Q ls (.cell ⟨b, o + i, none⟩ v :: es)) : fg ds P n S0 w0 c Q ls es := fun a w ha hw => by
 have hl : 0 < cs.length := by have := (List.getElem?_eq_some_iff.1 hi).1; omega
 obtain ⟨b, o, e, hb, hc⟩ := (hw.all _ hm : lh ao cs w) hl;exact k b o e a w ha (hw.cellOf hm rfl ⟨hl, o, e⟩ (hc i v hi))
end
theorem yN (i j ga gr gc n m nm cap k1 c1 k2 c2 L : Nat) (ao ro co : Option Addr) (rs cs : List Nat) (xs : List Int) (w : World) (h1 : w.cell? ⟨ga, 1, none⟩ = some (.int .i64 (m : Int))) (h2 : w.cell? ⟨ga, 2, none⟩ = some (.slice ao nm cap)) (h3 : w.cell? ⟨gr, 0, none⟩ = some (.slice ro k1 c1)) (h4 : w.cell? ⟨gc, 0, none⟩ = some (.slice co k2 c2))
 (hR : lh ro (iL rs) w) (hC : rX co (iL cs) w) (hA : aT w L ao xs) (hL : L <= 17592186044415) (hk1 : rs.length = k1) (hk2 : cs.length = k2) (hs : xs.length = n * m) (hnm : xs.length = nm) (hi : i < k1) (hj : j < k2) (hri : rs.getD i 0 < n) (hcj : cs.getD j 0 < m) (hn : n <= 64) (hm : m <= 64) :
 Calls Tryz.prog 57 #[.int .i64 (i : Int), .int .i64 (j : Int), .pointer (some ⟨ga, 0, none⟩), .pointer (some ⟨gr, 0, none⟩), .pointer (some ⟨gc, 0, none⟩)] w fun e w' => (∃ v, e = .returned v /\ ai w' w.heap.size v (gi xs (rs.getD i 0 * m + cs.getD j 0))) /\ Below w.heap.size w w' := by
 obtain ⟨q, hq⟩ : ∃ q, rs.getD i 0 = q := ⟨_, rfl⟩;obtain ⟨p, hp⟩ : ∃ p, cs.getD j 0 = p := ⟨_, rfl⟩;have kr := jS [] (by rw [hk1]; exact hi) hq;have kc := jS [] (by rw [hk2]; exact hj) hp;rw [List.append_nil] at kr kc;rw [hq] at hri |-;rw [hp] at hcj |-;have hlt := iQ hri hcj;have hb1 : q * m <= 4096 := Nat.mul_le_mul (show q <= 64 by omega) hm;obtain ⟨t, ht⟩ : ∃ t, q * m + p = t := ⟨_, rfl⟩;have htl : t < nm := by omega
 have htx : t < xs.length := by omega
 obtain ⟨bx, ox, rfl⟩ := hA.pos htx;have HA : Fr (fun _ => False) w w [.cell ⟨gc, 0, none⟩ (.slice co k2 c2), .cell ⟨gr, 0, none⟩ (.slice ro k1 c1), .cell ⟨ga, 2, none⟩ (.slice (some ⟨bx, ox, none⟩) nm cap), .cell ⟨ga, 1, none⟩ (.int .i64 (m : Int)), .rl co (iL cs), .rD ro (iL rs), .ls L (some ⟨bx, ox, none⟩) xs] :=
  Fr.cl (Fr.cl (Fr.cl (Fr.cl ((((Fr.nil _ w).l hA (by simp)).yo hR (by simp [En.wr])).rlF hC (by simp [En.wr])) h1 (by simp [En.wr])) h2 (by simp [En.wr])) h3 (by simp [En.wr])) h4 (by simp [En.wr])
 have HS := H5 (And.intro hs hnm);rw [ht];have HT := H5 ht;clear hs hnm hR hC hA h1 h2 h3 h4 hlt hk1 hk2 hq hp ht;refine ct (S0 := fun _ => False) Tryz.func57 HA ?_;clear HA;refine ah ?_;refine AK (ao := ro) (cs := iL rs) (v := .int .i64 (q : Int)) i (by simp) kr fun rb rof hrb => ?_;subst hrb;refine Bb (ao := co) (cs := iL cs) (v := .int .i64 (p : Int)) j (by simp) kc fun cb hcb => ?_;subst hcb;refine tu (L := L) (xs := xs) (b := bx) (o := ox) t (by simp) htx fun pv => ?_;have h01 : (i : Int) < (k1 : Int) := by omega
 have h02 : (j : Int) < (k2 : Int) := by omega
 have h03 : (t : Int) < (nm : Int) := by omega
 refine rW [] ?_;refine aW fun g7 => ?_;refine eW ?_;refine ah ?_;refine rW [] ?_;(iterate 8 refine dW ?_);refine dE (qW (a := q) (b := m) (by omega)) ?_;(iterate 4 refine dW ?_);refine dE ((Bu (a := q * m) (b := p) (by omega)).trans (by rw [HT.out])) ?_;refine dW ?_;refine dW ?_;refine cN (fun w' H => ik (av pv) (gi xs t) w' ((H.all (.at L (av pv) (gi xs t)) (by simp [av]) : aj ..).mono hL)) fun q2 => ?_;refine sW ?_;refine eW ?_;refine ah ?_;refine fA fun w' H => ?_;exact ⟨_, jT (H.all (.row g7 37 [.bool q2.1, .slice q2.2.1 q2.2.2.1 q2.2.2.2]) (by simp)), ⟨_, rfl, H.all (.own w.heap.size (av q2) (gi xs t)) (by simp [av])⟩, H.below⟩
theorem uv (n m nm cap k1 c1 k2 c2 L : Nat) (ao ro co : Option Addr) (rs cs : List Nat) (xs : List Int) (w : World) (hR : lh ro (iL rs) w) (hC : rX co (iL cs) w) (hA : aT w L ao xs) (hL : L <= 17592186044415) (hk1 : rs.length = k1) (hk2 : cs.length = k2) (hs : xs.length = n * m) (hnm : xs.length = nm) (hr : ∀ i < k1, rs.getD i 0 < n) (hc : ∀ j < k2, cs.getD j 0 < m) (hn : n <= 64) (hm : m <= 64) (h1 : k1 <= 64) (h2 : k2 <= 64) :
 Calls Tryz.prog 26 #[.agg #[.int .i64 (n : Int), .int .i64 (m : Int), .slice ao nm cap], .slice ro k1 c1, .slice co k2 c2] w fun e w' => (∃ p : Option Addr × Nat, e = .returned (.tuple #[.agg #[.int .i64 (k1 : Int), .int .i64 (k2 : Int), .slice p.1 (k1 * k2) p.2], .int .i64 0]) /\ oz w' p.1 (bQ k2 (c8 m xs rs cs) (k1 * k2)) /\ True /\ ∀ b o, p.1 = some ⟨b, o, none⟩ -> w.heap.size <= b) /\ Below w.heap.size w w' := by
 have hCk : ∀ w', Calls Tryz.prog 7 #[.agg #[.int .i64 (n : Int), .int .i64 (m : Int), .slice ao nm cap]] w' fun e w'' => e = .returned (.int .i64 0) /\ Below w'.heap.size w' w'' := fun w' => by
  have := dX (n : Int) (m : Int) ao nm cap w' (by omega) (by omega);rw [eH (by unfold aX cD; rw [<- hnm, hs]; simp; omega)] at this; exact this
 have kr := fun i (hi : i < k1) q (hq : rs.getD i 0 = q) => jS [] (by rw [hk1]; exact hi) hq;have kc := fun i (hi : i < k2) q (hq : cs.getD i 0 = q) => jS [] (by rw [hk2]; exact hi) hq;simp only [List.append_nil] at kr kc;have HA : Fr (fun _ => False) w w [.rl co (iL cs), .rD ro (iL rs), .ls L ao xs] := (((Fr.nil _ w).l hA (by simp)).yo hR (by simp [En.wr])).rlF hC (by simp [En.wr]);have HP := H5 (fun i j ga gr gc (w' : World) a1 a2 a3 a4 a5 a6 a7 hi hj => yN i j ga gr gc n m nm cap k1 c1 k2 c2 L ao ro co rs cs xs w' a1 a2 a3 a4 a5 a6 a7 hL hk1 hk2 hs hnm hi hj (hr i hi) (hc j hj) hn hm);have HC := H5 hCk;have HK := H5 (And.intro kr (And.intro kc (And.intro hr hc)));clear hCk kr kc hR hC hA hs hnm hr hc hk1 hk2;refine ct (S0 := fun _ => False) Tryz.func26 HA ?_;clear HA;refine ah ?_;refine rW [] ?_;refine aW fun g3 => ?_;refine aW fun g4 => ?_;refine aW fun g5 => ?_;refine aW fun g6 => ?_;refine dW ?_;refine eW ?_;refine ah ?_;refine rW [] ?_;refine dW ?_;refine cV (v := .int .i64 0) (fun w' H => HC.out w') ?_;refine dW ?_;refine eW ?_;refine ah ?_;refine rW [] ?_;refine dW ?_;refine dB false ?_;refine eW ?_;refine ah ?_;refine dR ?_;refine ah ?_;refine rW [] ?_;(iterate 3 refine dW ?_);refine eW ?_;refine ah ?_;refine cF (X := Nat) (fun k => k <= k1) (fun k => k1 - k) (fun k => [(21, .int .i64 (k : Int)), (20, .int .i64 (k1 : Int)), (19, .slice ro k1 c1), (3, .pointer (some ⟨g3, 0, none⟩)), (4, .pointer (some ⟨g4, 0, none⟩)), (5, .pointer (some ⟨g5, 0, none⟩)), (6, .pointer (some ⟨g6, 0, none⟩))])
  (fun _ => [.row g6 24 [.int .i64 0, .int .i64 0, .slice none 0 0], .row g5 34 [.slice co k2 c2], .row g4 34 [.slice ro k1 c1], .row g3 24 [.int .i64 (n : Int), .int .i64 (m : Int), .slice ao nm cap], .rl co (iL cs), .rD ro (iL rs), .ls L ao xs]) 0 (Nat.zero_le _) fun k hk => ?_
 by_cases h : k < k1
 . have h01 : (k : Int) < (k1 : Int) := by omega
   refine ah ?_;refine rW [] ?_;refine dB true ?_;refine eW ?_;refine ah ?_;obtain ⟨q, hq⟩ : ∃ q, rs.getD k 0 = q := ⟨_, rfl⟩;have hqn : q < n := by rw [<- hq]; exact HK.out.2.2.1 k h
   have kr := HK.out.1 k h q hq;clear hq;refine AK (ao := ro) (cs := iL rs) (v := .int .i64 (q : Int)) k (by simp) kr fun rb rof hrb => ?_;subst hrb;have h02 : ¬ (q : Int) < 0 := by omega
   have h03 : ¬ (n : Int) <= (q : Int) := by omega
   refine fv ?_;refine ah ?_;refine rW [] ?_;(iterate 3 refine dW ?_);refine eW ?_;refine ah ?_;refine rW [] ?_;refine dW ?_;refine dB false ?_;refine dW ?_;(iterate 3 refine dG ?_);refine ln false ?_;refine dW ?_;refine eW ?_;refine ah ?_;refine dR ?_;refine ah ?_;refine rW [] ?_;refine dE (dI (a := k) (by omega)) ?_;refine dW ?_;refine eW ?_;refine ah ?_;exact cd (k + 1) ⟨h, by omega⟩
 . obtain rfl : k1 = k := by omega
   refine ah ?_;refine rW [] ?_;refine dB false ?_;refine eW ?_;refine ah ?_;refine dR ?_;refine ah ?_;refine rW [] ?_;(iterate 3 refine dW ?_);refine eW ?_;refine ah ?_;refine cF (X := Nat) (fun k => k <= k2) (fun k => k2 - k) (fun k => [(37, .int .i64 (k : Int)), (36, .int .i64 (k2 : Int)), (35, .slice co k2 c2), (3, .pointer (some ⟨g3, 0, none⟩)), (4, .pointer (some ⟨g4, 0, none⟩)), (5, .pointer (some ⟨g5, 0, none⟩)), (6, .pointer (some ⟨g6, 0, none⟩))])
    (fun _ => [.row g6 24 [.int .i64 0, .int .i64 0, .slice none 0 0], .row g5 34 [.slice co k2 c2], .row g4 34 [.slice ro k1 c1], .row g3 24 [.int .i64 (n : Int), .int .i64 (m : Int), .slice ao nm cap], .rl co (iL cs), .rD ro (iL rs), .ls L ao xs]) 0 (Nat.zero_le _) fun k hk' => ?_
   by_cases h : k < k2
   . have h01 : (k : Int) < (k2 : Int) := by omega
     refine ah ?_;refine rW [] ?_;refine dB true ?_;refine eW ?_;refine ah ?_;obtain ⟨q, hq⟩ : ∃ q, cs.getD k 0 = q := ⟨_, rfl⟩;have hqn : q < m := by rw [<- hq]; exact HK.out.2.2.2 k h
     have kc := HK.out.2.1 k h q hq;clear hq;refine Bb (ao := co) (cs := iL cs) (v := .int .i64 (q : Int)) k (by simp) kc fun cb hcb => ?_;subst hcb;have h02 : ¬ (q : Int) < 0 := by omega
     have h03 : ¬ (m : Int) <= (q : Int) := by omega
     refine fv ?_;refine ah ?_;refine rW [] ?_;(iterate 3 refine dW ?_);refine eW ?_;refine ah ?_;refine rW [] ?_;refine dW ?_;refine dB false ?_;refine dW ?_;(iterate 3 refine dG ?_);refine ln false ?_;refine dW ?_;refine eW ?_;refine ah ?_;refine dR ?_;refine ah ?_;refine rW [] ?_;refine dE (dI (a := k) (by omega)) ?_;refine dW ?_;refine eW ?_;refine ah ?_;exact cd (k + 1) ⟨h, by omega⟩
   . obtain rfl : k2 = k := by omega
     refine ah ?_;refine rW [] ?_;refine dB false ?_;have h04 : ¬ (64 : Int) < (k1 : Int) := by omega
     have h05 : ¬ (64 : Int) < (k2 : Int) := by omega
     refine eW ?_;refine ah ?_;refine dR ?_;refine ah ?_;refine rW [] ?_;refine dW ?_;refine dW ?_;refine dB false ?_;refine dW ?_;refine dG ?_;refine dG ?_;refine ln false ?_;refine dW ?_;refine eW ?_;refine ah ?_;refine dR ?_;refine ah ?_;refine rW [] ?_;(iterate 4 refine dW ?_);refine fW ?_;refine Ae (α := Option Addr × Nat) (mk := fun p => .agg #[.int .i64 (k1 : Int), .int .i64 (k2 : Int), .slice p.1 (k1 * k2) p.2]) (ao := fun p => p.1) (xs := fun _ => bQ k2 (c8 m xs rs cs) (k1 * k2)) (A := fun _ => True) (fun w' H => (vY 57 (fun _ _ => by go_simp) #[.pointer (some ⟨g3, 0, none⟩), .pointer (some ⟨g4, 0, none⟩), .pointer (some ⟨g5, 0, none⟩)] k1 k2 (c8 m xs rs cs) w' h1 h2 (fun i j w2 hi hj hb => by
      have a1 : aa w' g3 24 [.int .i64 (n : Int), .int .i64 (m : Int), .slice ao nm cap] := H.all (.row g3 24 [.int .i64 (n : Int), .int .i64 (m : Int), .slice ao nm cap]) (by simp);have a2 : aa w' g4 34 [.slice ro k1 c1] := H.all (.row g4 34 [.slice ro k1 c1]) (by simp);have a3 : aa w' g5 34 [.slice co k2 c2] := H.all (.row g5 34 [.slice co k2 c2]) (by simp);have a4 : lh ro (iL rs) w' := H.all (.rD ro (iL rs)) (by simp);have a5 : rX co (iL cs) w' := H.all (.rl co (iL cs)) (by simp);have a6 : aT w' L ao xs := H.all (.ls L ao xs) (by simp);exact HP.out i j g3 g4 g5 w2 ((a1.below hb a1.lt).cell 1) ((a1.below hb a1.lt).cell 2) ((a2.below hb a2.lt).cell 0) ((a3.below hb a3.lt).cell 0) (a4.below hb) (a5.below hb) (a6.below hb) hi hj)).mono (by
      rintro e w3 ⟨⟨ao, cap', rfl, hl, _, hS⟩, hb⟩;exact ⟨⟨(ao, cap'), rfl, hl, trivial, hS⟩, hb⟩)) fun q => ?_
     refine sW ?_;refine dW ?_;refine eW ?_;refine ah ?_;refine iP fun w' H => ?_;exact ⟨_, _, vD (H.all (.row g6 24 [.int .i64 (k1 : Int), .int .i64 (k2 : Int), .slice q.1 (k1 * k2) q.2]) (by simp)), eB, ⟨q, rfl, H.m0, trivial, (show True /\ ∀ b o, q.1 = some ⟨b, o, none⟩ -> w.heap.size <= b from H.m1).2⟩, H.below⟩
theorem rX.rD {ao : Option Addr} {cs : List Value} {w : World} (h : rX ao cs w) : lh ao cs w := fun hl => by
 obtain ⟨b, e, hb, hc⟩ := h hl;exact ⟨b, 0, e, hb, fun i v hv => by rw [Nat.zero_add]; exact hc i v hv⟩
theorem ua (n m nm cap k1 c1 k2 c2 L : Nat) (ao ro co : Option Addr) (rs cs : List Nat) (xs : List Int) (w : World) (hR : rX ro (iL rs) w) (hC : rX co (iL cs) w) (hA : aT w L ao xs) (hL : L <= 17592186044415) (hk1 : rs.length = k1) (hk2 : cs.length = k2) (hs : xs.length = n * m) (hnm : xs.length = nm) (hr : ∀ i < k1, rs.getD i 0 < n) (hc : ∀ j < k2, cs.getD j 0 < m) (hn : n <= 64) (hm : m <= 64) (h1 : k1 <= 64) (h2 : k2 <= 64) :
 Calls Tryz.prog 26 #[.agg #[.int .i64 (n : Int), .int .i64 (m : Int), .slice ao nm cap], .slice ro k1 c1, .slice co k2 c2] w fun e w' => (∃ p : Option Addr × Nat, e = .returned (.tuple #[.agg #[.int .i64 (k1 : Int), .int .i64 (k2 : Int), .slice p.1 (k1 * k2) p.2], .int .i64 0]) /\ oz w' p.1 (bQ k2 (c8 m xs rs cs) (k1 * k2)) /\ True /\ ∀ b o, p.1 = some ⟨b, o, none⟩ -> w.heap.size <= b) /\ Below w.heap.size w w' := uv n m nm cap k1 c1 k2 c2 L ao ro co rs cs xs w hR.rD hC hA hL hk1 hk2 hs hnm hr hc hn hm h1 h2
structure jq where
 ro : Option Addr
 rc : Nat
 no : Option Addr
 nc : Nat
 gs : List Nat
 E : List (List Int)
 nu : List Nat
 tn : Bool
 lp : P4
 ls : Int
 tk : Nat
def wI (z : jq) : List Value := [.slice z.ro z.E.length z.rc, .slice z.no z.E.length z.nc, .bool z.tn, .bool z.lp.1, .slice z.lp.2.1 z.lp.2.2.1 z.lp.2.2.2, .int .i64 (z.tk : Int)]
def fB (gs : List Nat) (n : Nat) : Prop := ∀ a b, a < n -> b < n -> gs.getD a 0 = gs.getD b 0 -> a = b
theorem o0 {gs : List Nat} {n g : Nat} (hl : gs.length = n) (h : fB gs n) (hg : ∀ t, t < n -> gs.getD t 0 ≠ g) : fB (gs ++ [g]) (n + 1) := fun a b ha hb e => by
 rw [gO, gO, hl] at e;by_cases h1 : a < n <;> by_cases h2 : b < n
 . rw [if_pos h1, if_pos h2] at e; exact h a b h1 h2 e
 . rw [if_pos h1, if_neg h2, if_pos (by omega)] at e; exact absurd e (hg a h1)
 . rw [if_neg h1, if_pos (by omega), if_pos h2] at e; exact absurd e.symm (hg b h2)
 . omega
abbrev Ba (gF m : Nat) (z : jq) : List En := [.row gF 87 (wI z), .lg 22 1 z.ro z.E.length z.rc (hG m z.gs), .lg 3 1 z.no z.E.length z.nc (iL z.nu), .iY z.E.length z.gs z.E, .num (av z.lp) z.ls]
def fI (gF m : Nat) (z : jq) (w : World) : Prop := (aa w gF 87 (wI z) /\ mj 22 1 z.ro z.E.length z.rc (hG m z.gs) w /\ mj 3 1 z.no z.E.length z.nc (iL z.nu) w /\ yZ z.E.length z.gs z.E w /\ aI w (av z.lp) z.ls) /\ z.gs.length = z.E.length /\ fB z.gs z.E.length
def ft (gF : Nat) (z : jq) (g : Nat) : Prop := g = gF \/ (∃ o, z.ro = some ⟨g, o, none⟩) \/ (∃ o, z.no = some ⟨g, o, none⟩) \/ ∃ t, t < z.E.length /\ t ≠ z.E.length /\ g = z.gs.getD t 0
theorem gh {te : TypeId} {sz : Nat} {ao : Option Addr} {k cap : Nat} {cs : List Value} {w : World} (h : mj te sz ao k cap cs w) {b : Nat} (hb : ∃ o, ao = some ⟨b, o, none⟩) : ∃ tl, aK tl /\ aa w b te (cs ++ tl) := by
 obtain ⟨o, hb⟩ := hb;obtain ⟨_, _, ⟨e, _⟩ | ⟨b', tl, e, hn, hr, _⟩⟩ := h
 . rw [hb] at e; cases e
 . rw [hb] at e; cases e; exact ⟨tl, hn, hr⟩
theorem fI.rows {gF m : Nat} {z : jq} {w : World} (h : fI gF m z w) {g : Nat} (hg : ft gF z g) : ∃ t cs, aa w g t cs /\ aK cs /\ t ≠ 60 := by
 obtain ⟨⟨h1, h2, h3, h4, h5⟩, _⟩ := h;rcases hg with rfl | hg | hg | ⟨t, ht, hx, rfl⟩
 . exact ⟨_, _, h1, aK.slice (aK.slice (aK.bool (aK.bool (aK.slice (aK.i64 aK.nil))))), by decide⟩
 . obtain ⟨tl, hn, hr⟩ := gh h2 hg;exact ⟨_, _, hr, (gL m z.gs).append hn, by decide⟩
 . obtain ⟨tl, hn, hr⟩ := gh h3 hg;exact ⟨_, _, hr, (iN z.nu).append hn, by decide⟩
 . obtain ⟨ps, tl, hn, hr, _⟩ := h4 t ht hx;exact ⟨_, _, hr, aK.rn hn, by decide⟩
abbrev En.rM (gF m : Nat) (z : jq) : En := .fact true true (ft gF z) (fI gF m z) (fun h g hg => by obtain ⟨t, cs, hr, _⟩ := h.rows hg; exact hr.lt)
 (fun {w w' T} ⟨⟨h1, h2, h3, h4, h5⟩, h6, h7⟩ hc hT hs => by
  refine ⟨⟨hc.row h1 (hs _ (.inl rfl)), ?_, ?_, fun t ht hx => ?_, hc.num (hT rfl).bN h5⟩, h6, h7⟩
  . exact ⟨h2.1, h2.2.1, h2.2.2.imp id fun ⟨b, tl, e, hn, hr, hl⟩ => ⟨b, tl, e, hn, hc.row hr (hs _ (.inr (.inl ⟨0, e⟩))), hl⟩⟩
  . exact ⟨h3.1, h3.2.1, h3.2.2.imp id fun ⟨b, tl, e, hn, hr, hl⟩ => ⟨b, tl, e, hn, hc.row hr (hs _ (.inr (.inr (.inl ⟨0, e⟩)))), hl⟩⟩
  . obtain ⟨ps, tl, hn, hr, h1', h2'⟩ := h4 t ht hx;exact ⟨ps, tl, hn, hc.row hr (hs _ (.inr (.inr (.inr ⟨t, ht, hx, rfl⟩)))), h1', fun i a => hc.num (hT rfl).bN (h2' i a)⟩)
theorem Fr.fldO {S0 : Nat -> Prop} {w0 w : World} {es : List En} {gF m : Nat} {z : jq} (h : Fr S0 w0 w (.rM gF m z :: es)) : Fr S0 w0 w (Ba gF m z ++ es) /\ z.gs.length = z.E.length /\ fB z.gs z.E.length := by
 obtain ⟨⟨h1, h2, h3, h4, h5⟩, h6, h7⟩ := (h.m0 : fI gF m z w);have q12 : ∀ b, (∃ o, z.ro = some ⟨b, o, none⟩) -> b ≠ gF := fun b hb e => by
  obtain ⟨tl, _, hr⟩ := gh h2 hb; subst e; exact absurd rfl (hr.ne h1 (by decide))
 have q13 : ∀ b, (∃ o, z.no = some ⟨b, o, none⟩) -> b ≠ gF := fun b hb e => by
  obtain ⟨tl, _, hr⟩ := gh h3 hb; subst e; exact absurd rfl (hr.ne h1 (by decide))
 have q14 : ∀ b, (∃ t, t < z.E.length /\ t ≠ z.E.length /\ b = z.gs.getD t 0) -> b ≠ gF := fun b ⟨t, ht, hx, e'⟩ e => by
  obtain ⟨ps, tl, _, hr, _⟩ := h4 t ht hx; rw [<- e', e] at hr; exact absurd rfl (hr.ne h1 (by decide))
 have q23 : ∀ b, (∃ o, z.ro = some ⟨b, o, none⟩) -> ¬ ∃ o, z.no = some ⟨b, o, none⟩ := fun b hb hb' => by
  obtain ⟨tl, _, hr⟩ := gh h2 hb; obtain ⟨tl', _, hr'⟩ := gh h3 hb'; exact absurd rfl (hr.ne hr' (by decide))
 have q24 : ∀ b, (∃ o, z.ro = some ⟨b, o, none⟩) -> ¬ ∃ t, t < z.E.length /\ t ≠ z.E.length /\ b = z.gs.getD t 0 := fun b hb ⟨t, ht, hx, e'⟩ => by
  obtain ⟨tl, _, hr⟩ := gh h2 hb; obtain ⟨ps, tl', _, hr', _⟩ := h4 t ht hx; rw [<- e'] at hr'; exact absurd rfl (hr.ne hr' (by decide))
 have q34 : ∀ b, (∃ o, z.no = some ⟨b, o, none⟩) -> ¬ ∃ t, t < z.E.length /\ t ≠ z.E.length /\ b = z.gs.getD t 0 := fun b hb ⟨t, ht, hx, e'⟩ => by
  obtain ⟨tl, _, hr⟩ := gh h3 hb; obtain ⟨ps, tl', _, hr', _⟩ := h4 t ht hx; rw [<- e'] at hr'; exact absurd rfl (hr.ne hr' (by decide))
 refine ⟨h.om rfl (fun x hx => ?_) ?_, h6, h7⟩
 . simp only [Ba, List.mem_cons, List.mem_nil_iff, or_false] at hx;rcases hx with rfl | rfl | rfl | rfl | rfl
   . exact ⟨h1, fun b e => .inl e⟩
   . exact ⟨h2, fun b e => .inr (.inl e)⟩
   . exact ⟨h3, fun b e => .inr (.inr (.inl e))⟩
   . exact ⟨h4, fun b e => .inr (.inr (.inr e))⟩
   . exact ⟨h5, fun b e => e.elim⟩
 . refine .cons (fun x hx => ?_) (.cons (fun x hx => ?_) (.cons (fun x hx => ?_) (.cons (fun x hx => ?_) (.cons (fun x hx => (List.not_mem_nil hx).elim) .nil))))
   . simp only [List.mem_cons, List.mem_nil_iff, or_false] at hx;rcases hx with rfl | rfl | rfl | rfl
     . exact ⟨fun _ b hb hb' => q12 b hb' hb, fun _ b hb' hb => q12 b hb' hb⟩
     . exact ⟨fun _ b hb hb' => q13 b hb' hb, fun _ b hb' hb => q13 b hb' hb⟩
     . exact ⟨fun _ b hb hb' => q14 b hb' hb, fun _ b hb' hb => q14 b hb' hb⟩
     . exact ⟨fun _ _ _ h => h, fun q => nomatch q⟩
   . simp only [List.mem_cons, List.mem_nil_iff, or_false] at hx;rcases hx with rfl | rfl | rfl
     . exact ⟨fun _ b hb hb' => q23 b hb hb', fun _ b hb' hb => q23 b hb hb'⟩
     . exact ⟨fun _ b hb hb' => q24 b hb hb', fun _ b hb' hb => q24 b hb hb'⟩
     . exact ⟨fun _ _ _ h => h, fun q => nomatch q⟩
   . simp only [List.mem_cons, List.mem_nil_iff, or_false] at hx;rcases hx with rfl | rfl
     . exact ⟨fun _ b hb hb' => q34 b hb hb', fun _ b hb' hb => q34 b hb hb'⟩
     . exact ⟨fun _ _ _ h => h, fun q => nomatch q⟩
   . simp only [List.mem_cons, List.mem_nil_iff, or_false] at hx;rcases hx with rfl;exact ⟨fun _ _ _ h => h, fun q => nomatch q⟩
def c9 (k c : Nat) (xs : List Int) : List (List Int) := (List.range k).map (rowOf xs c)
theorem dU (k c : Nat) (xs : List Int) : (c9 k c xs).length = k := by simp [c9]
theorem tE (k c : Nat) (xs : List Int) : c9 (k + 1) c xs = c9 k c xs ++ [rowOf xs c k] := by simp [c9, List.range_succ]
theorem factI {l N : Nat} {P : Program} {n : Nat} {S0 : Nat -> Prop} {w0 : World} {c : Code} {Q : Exit -> Act -> World -> Prop} {ls : List (Nat × Value)} {es : List En} {A : Prop} (hA : ∀ w, Fr S0 w0 w es -> A) (k : A -> CI l N P n S0 w0 c Q ls es) : CI l N P n S0 w0 c Q ls es := fun a w ha hw => k (hA w hw) a w ha hw
structure OfX where
 k : Nat
 ro : Option Addr
 rc : Nat
 no : Option Addr
 nc : Nat
 gs : List Nat
structure OfI (k : Nat) (x : OfX) : Prop where
 hk : x.k = k
 hl : x.gs.length = k
 hi : fB x.gs k
theorem Aa (r c nm L cap : Nat) (ao : Option Addr) (xs : List Int) (w : World) (hr : r <= 64) (hc : c <= 64) (hA : aT w L ao xs) (hL : L <= 17592186044415) (hs : xs.length = r * c) (hnm : xs.length = nm) (hb : ∀ x ∈ xs, ag x.natAbs <= 17592186044415) :
 Calls Tryz.prog 59 #[.agg #[.int .i64 (r : Int), .int .i64 (c : Int), .slice ao nm cap]] w fun e w' => ∃ q : Nat × jq, e = .returned (.pointer (some ⟨q.1, 0, none⟩)) /\ Nw w w' [.rM q.1 c q.2] /\ q.2.E = c9 r c xs /\ q.2.ls = 1 /\ q.2.tn = false /\ q.2.tk = 0 /\ q.2.nu.length = r := by
 have cL := fun w' (h : aT w' L ao xs) => qM r c nm ao cap xs w' hr hc (fun hl => by
  obtain ⟨b, o, e, hlt, hc⟩ := h hl;exact ⟨b, o, e, hlt, fun i hi => by obtain ⟨p, h0, h1, hn⟩ := hc i hi; exact ⟨p, h0, h1, hn.mono hL⟩⟩) hs hnm
 have HC := H5 cL;have HS := H5 (And.intro hs (And.intro hnm hb));clear cL hs hnm hb;refine A0 (S0 := fun _ => False) Tryz.func59 ((Fr.nil _ w).l hA (by simp)) ?_;refine ah ?_;refine rW [] ?_;refine aW fun g1 => ?_;refine dW ?_;refine eW ?_;refine ah ?_;refine rW [] ?_;refine cN (fun w' H => kL 1 w' (by omega) (by omega)) fun p6 => ?_;refine dW ?_;refine aW fun g8 => ?_;refine aW fun g3 => ?_;refine sG ?_;refine eW ?_;refine ah ?_;refine rW [] ?_;refine dW ?_;refine cG (α := (Nat × Nat) × List P4 × List Value) (mk := fun q => .func (.func 89) #[] #[.pointer (some ⟨q.1.1, 0, none⟩)]) (ens := fun q => [.row q.1.1 24 [.int .i64 (r : Int), .int .i64 (c : Int), .slice (some ⟨q.1.2, 0, none⟩) nm nm], .row q.1.2 37 (rn q.2.1 q.2.2), .ns q.2.1 xs, .pr (aK q.2.2)]) (fun w' H => HC.out w' (H.all (.ls L ao xs) (by simp))) fun q => ?_;refine eW ?_;refine ah ?_;refine pj (A := aK q.2.2) (by simp) fun hq => ?_;refine yT (te := 22) (sz := 1) ?_;refine yT (te := 3) (sz := 1) ?_;refine Ai ?_;refine ud (X := OfX) (gb := q.1.1) (b := q.1.2) (r := r) (c := c) (m := nm) (ps := q.2.1) (tl := q.2.2) (xs := xs) OfI
  (fun x => [.row g8 87 [.slice x.ro x.k x.rc, .slice x.no x.k x.nc, .bool false, .bool p6.1, .slice p6.2.1 p6.2.2.1 p6.2.2.2, .int .i64 0], .lg 22 1 x.ro x.k x.rc (hG c x.gs), .lg 3 1 x.no x.k x.nc (iL (List.range x.k)), .iY x.k x.gs (c9 x.k c xs), .row g3 84 [.pointer (some ⟨g8, 0, none⟩)], .own w.heap.size (av p6) 1])
  (fun D x => [.row g8 87 [.slice x.ro x.k x.rc, .slice x.no x.k x.nc, .bool false, .bool p6.1, .slice p6.2.1 p6.2.2.1 p6.2.2.2, .int .i64 0], .lg 22 1 x.ro x.k x.rc (hG c x.gs), .lg 3 1 x.no x.k x.nc (iL (List.range x.k)), .iY x.k x.gs (c9 x.k c xs), .row g3 84 [.pointer (some ⟨g8, 0, none⟩)], .own w.heap.size (av p6) 1, .vh w.heap.size D])
  ⟨0, none, 0, none, 0, []⟩ (fun k g => [(4, .int .i64 (k : Int)), (5, .slice (some ⟨g, 0, none⟩) c c), (3, .pointer (some ⟨g3, 0, none⟩))]) hr hc HS.out.1 HS.out.2.1 HS.out.2.2 hq ⟨rfl, rfl, fun a b ha => absurd ha (Nat.not_lt_zero _)⟩ (fun l k g W => ?_) (fun l k x g qs tk S' W hx hk htk => ?_) (fun D x hx => ?_)
  (fun x => .cons .row .row (.cons .lg (.lg (gL _ _)) (.cons .lg (.lg (iN _)) (.cons .iY .iY (.cons .row .row (.cons .own (.no rfl) .nil))))))
 . refine yl ?_;refine rI [] ?_;refine dW ?_;refine eW ?_;refine yl ?_;refine rI [] ?_;refine dW ?_;refine eW ?_;refine yl ?_;exact asgE
 . obtain ⟨k0, ro, rc, no, nc, gs⟩ := x;obtain ⟨hk0, hgl, hgi⟩ := hx;obtain rfl : k0 = k := hk0
   replace hgl : gs.length = k0 := hgl
   replace hgi : fB gs k0 := hgi
   have hk64 : k0 <= 64 := by omega
   have HG := H5 (And.intro hgl hgi);clear hgl hgi;refine yl ?_;refine factI (A := ∀ t, t < k0 -> gs.getD t 0 ≠ g) (fun w' h => by
    have h2 : Fr S' W w' (.row g 37 (rn qs tk) :: .ns qs (rowOf xs c k0) :: .iY k0 gs (c9 k0 c xs) :: []) := h.pick (by repeat (first | exact Pk.n | refine Pk.c (by repeat (first | exact Rm.z | apply Rm.s)) ?_));have h3 := (h2.oQ (x' := k0 + 1) (by rw [dU]; exact HG.out.1) (by rw [dU]; exact Nat.le_refl _) (by rw [dU]; omega) htk).2;rw [dU] at h3; exact h3) fun hne => ?_
   have HN := H5 hne;clear hne;refine rI [[3]] ?_;(iterate 6 refine dH ?_);refine bW (m := 1) fun g19 => ?_;refine zF (k := k0) (cap := rc) (g := g19) (c := 1) (ao := ro) (cs := hG c gs) (v := .slice (some ⟨g, 0, none⟩) c c) Tryz.underlying70 wg rfl (oT (.slice none 0 0) rfl (fun n h => nomatch h)) (by omega) (by omega) rfl ⟨gL c gs, by decide⟩ (by simp) fun u => ?_;refine dH ?_;refine dH ?_;refine sW ?_;refine eW ?_;refine yl ?_;refine rI [[5]] ?_;(iterate 6 refine dH ?_);refine bW (m := 1) fun g29 => ?_;refine zF (k := k0) (cap := nc) (g := g29) (c := 1) (ao := no) (cs := iL (List.range k0)) (v := .int .i64 (k0 : Int)) Tryz.underlying34 tc rfl (oT (.int .i64 0) rfl (fun n h => nomatch h)) (by omega) (by omega) rfl ⟨iN _, by decide⟩ (by simp) fun v => ?_;refine dH ?_;refine dH ?_;refine sW ?_;refine eW ?_;refine yl ?_;exact rdE (⟨k0 + 1, u.1, u.2, v.1, v.2, gs ++ [g]⟩ : OfX) ⟨rfl, by show (gs ++ [g]).length = _; rw [List.length_append, HG.out.1]; rfl, o0 HG.out.1 HG.out.2 HN.out⟩ (he := by
    intro w' h;rw [uq, uh, show List.range k0 ++ [k0] = List.range (k0 + 1) from List.range_succ.symm] at h;have h2 := h.pick (es' := .row g 37 (rn qs tk) :: .ns qs (rowOf xs c k0) :: .iY k0 gs (c9 k0 c xs) :: [.row g8 87 [.slice u.1 (k0 + 1) u.2, .slice v.1 (k0 + 1) v.2, .bool false, .bool p6.1, .slice p6.2.1 p6.2.2.1 p6.2.2.2, .int .i64 0], .lg 22 1 u.1 (k0 + 1) u.2 (hG c (gs ++ [g])), .lg 3 1 v.1 (k0 + 1) v.2 (iL (List.range (k0 + 1))), .row g3 84 [.pointer (some ⟨g8, 0, none⟩)], .own w.heap.size (av p6) 1]) (by repeat (first | exact Pk.n | refine Pk.c (by repeat (first | exact Rm.z | apply Rm.s)) ?_));have h3 := (h2.oQ (x' := k0 + 1) (by rw [dU]; exact HG.out.1) (by rw [dU]; exact Nat.le_refl _) (by rw [dU]; omega) htk).1;rw [<- tE] at h3;exact h3.pick (by repeat (first | exact Pk.n | refine Pk.c (by repeat (first | exact Rm.z | apply Rm.s)) ?_)))
 obtain ⟨k0, ro, rc, no, nc, gs⟩ := x;obtain ⟨hk0, hgl, hgi⟩ := hx;obtain rfl : k0 = r := hk0;have HG : Hid (gs.length = k0 /\ fB gs k0) := H5 ⟨hgl, hgi⟩;clear hgl hgi;refine ah ?_;refine rW [] ?_;refine dW ?_;refine dW ?_;refine eW ?_;refine ah ?_;refine fin1M (D := D) (es' := [.row g8 87 [.slice ro k0 rc, .slice no k0 nc, .bool false, .bool p6.1, .slice p6.2.1 p6.2.2.1 p6.2.2.2, .int .i64 0], .lg 22 1 ro k0 rc (hG c gs), .lg 3 1 no k0 nc (iL (List.range k0)), .iY k0 gs (c9 k0 c xs), .own w.heap.size (av p6) 1]) (fun w' H => ?_) (.cons .row .row (.cons .lg (.lg (gL _ _)) (.cons .lg (.lg (iN _)) (.cons .iY .iY (.cons .own (.no rfl) .nil))))) (by simp);have hE : (c9 k0 c xs).length = k0 := dU ..;have hF : fI g8 c ⟨ro, rc, no, nc, gs, c9 k0 c xs, List.range k0, false, p6, 1, 0⟩ w' := by
  refine ⟨⟨?_, ?_, ?_, ?_, ai.num H.m4⟩, HG.out.1.trans hE.symm, by show fB gs (c9 k0 c xs).length; rw [hE]; exact HG.out.2⟩
  . show aa w' g8 _ [.slice ro (c9 k0 c xs).length rc, .slice no (c9 k0 c xs).length nc, _, _, _, _];rw [hE]; exact H.m0
  . show mj _ 1 ro (c9 k0 c xs).length rc (hG c gs) w';rw [hE]; exact H.m1
  . show mj _ 1 no (c9 k0 c xs).length nc (iL (List.range k0)) w';rw [hE]; exact H.m2
  . show yZ (c9 k0 c xs).length gs _ w';rw [hE]; exact H.m3
 have hS : ∀ b, ft g8 ⟨ro, rc, no, nc, gs, c9 k0 c xs, List.range k0, false, p6, 1, 0⟩ b -> w.heap.size <= b := by
  rintro b (e | e | e | ⟨t, ht, _, e⟩)
  . exact (H.own _ (List.mem_cons_self ..) rfl b e).elim (fun h => h.elim) id
  . exact (H.own _ (List.mem_cons_of_mem _ (List.mem_cons_self ..)) rfl b e).elim (fun h => h.elim) id
  . exact (H.own _ (List.mem_cons_of_mem _ (List.mem_cons_of_mem _ (List.mem_cons_self ..))) rfl b e).elim (fun h => h.elim) id
  . exact (H.own _ (List.mem_cons_of_mem _ (List.mem_cons_of_mem _ (List.mem_cons_of_mem _ (List.mem_cons_self ..)))) rfl b ⟨t, ht, by rw [show t = t from rfl]; have := hE; have h : t < (c9 k0 c xs).length := ht; omega, e⟩).elim (fun h => h.elim) id
 exact ⟨_, eB, (g8, ⟨ro, rc, no, nc, gs, c9 k0 c xs, List.range k0, false, p6, 1, 0⟩), rfl, ⟨H.below, fun e he => by rcases List.mem_singleton.1 he with rfl; exact ⟨hF, hS⟩, List.pairwise_singleton ..⟩, rfl, rfl, rfl, rfl, by simp⟩
section
variable {ops : Array Oper} {Q : Exit -> Act -> World -> Prop} {ds : List Deferred} {S0 : Nat -> Prop} {w0 : World} {E0 : List En} {n j s : Nat} {l : List Nat} {G E : List En} {ls : List (Nat × Value)} {ty : TypeId} {pos : String} {af : Array Edge}
theorem slL {sx sl : Operand} (a : Option Addr) (len cap x : Nat) (v : Value) (hx : x <= len) (hv : sliced a x len cap 1 = v) (k : dv ds ⟨Tryz.prog, ops, Q, S0, w0, E0, []⟩ n l G E ((s, v) :: ls))
 (ho : ops[j]? = some ⟨some s, .slice 70 sx (some sl) none none, ty, pos, af, none⟩ := by rfl) (hk : (bI (.slice 70 sx (some sl) none none) && dL ls (.slice 70 sx (some sl) none none) && Nat.blt s n) = true := by kernel_rfl)
 (h1 : cT ls sx = .slice a len cap := by (simp only [bY, Nat.reduceEqDiff, ↓reduceIte]) <;> rfl) (h2 : cT ls sl = .int .i64 (x : Int) := by (simp only [bY, Nat.reduceEqDiff, ↓reduceIte]) <;> rfl) : dv ds ⟨Tryz.prog, ops, Q, S0, w0, E0, []⟩ n (j :: l) G E ls := by
 refine dW k ho hk fun w _ => ?_;subst hv;have e := run_slice_l (P := Tryz.prog) w 70 a len cap Tryz.underlying70 .i64 (x : Int) (by omega) (by omega);have e2 := run_sliceAt_slice (P := Tryz.prog) w 70 (.slice a len cap) (some (.int .i64 (x : Int))) none none Tryz.underlying70;have e3 : (sizeOf (Tryz.prog.elem 70)).run Tryz.prog w = .ok 1 w := by go_simp <;> rfl
 rw [e3] at e;simp only [Int.toNat_natCast, Result.andThen] at e;simp [execOp, h1, h2, e2, e, Result.andThen]
end
theorem cO {α : Type} {l : List α} {i t : Nat} {x d : α} (hi : i < l.length) : (l.set i x).getD t d = if t = i then x else l.getD t d := by
 by_cases h : t = i
 . subst h; simp [hi]
 . rw [if_neg h]; simp [List.getElem?_set_ne (fun e => h e.symm)]
theorem kH {α : Type} {l : List α} {k p t : Nat} {d : α} (hk : k < l.length) (hp : p < l.length) : (qd l k p d).getD t d = l.getD (lu k p t) d := by
 unfold qd lu;rw [cO (by simpa using hk), cO hp];by_cases h1 : t = k
 . rw [if_pos h1, if_pos h1]
 . rw [if_neg h1, if_neg h1];by_cases h2 : t = p
   . rw [if_pos h2, if_pos h2]
   . rw [if_neg h2, if_neg h2]
theorem uH {α β : Type} (f : α -> β) {l : List α} {k p : Nat} {d : α} (hk : k < l.length) (hp : p < l.length) (tl : List β) : (((l.map f ++ tl).set p (f (l.getD k d))).set k (f (l.getD p d))) = (qd l k p d).map f ++ tl := by
 rw [List.set_append_left _ _ (by simpa using hp), List.set_append_left _ _ (by simpa using hk)];congr 1;unfold qd;rw [List.map_set, List.map_set]
theorem iq {α : Type} {l : List α} {t : Nat} {d : α} (h : t < l.length) : l.set t (l.getD t d) = l := by
 rw [show l.getD t d = l[t] by simp [h]]; exact List.set_getElem_self h
def bH (E : List (List Int)) (i j : Nat) : Int := gi (E.getD i []) j
structure nW (n m mw : Nat) (A : Mx) (c k : Nat) (nu cs : Nat -> Nat) (z : jq) : Prop where
 El : z.E.length = n
 rl : ∀ t < n, (z.E.getD t []).length = m
 nl : z.nu.length = n
 tk : z.tk = k
 br : iu n m A c k nu cs (bH z.E) z.ls
 Ab : ∀ i j, (A i j).natAbs <= W ^ mw
 eb : ∀ t < n, ∀ j, ag (bH z.E t j).natAbs <= 64 * (mw + 1)
 lb : ag z.ls.natAbs <= 64 * (mw + 1)
def xA (n m mw : Nat) (A : Mx) (c k : Nat) (nu cs : Nat -> Nat) (z : jq) (b : Bool) (z' : jq) : Prop :=
 (b = false /\ z' = z /\ nW n m mw A (c + 1) k nu cs z' /\ ∀ i, k <= i -> i < n -> bH z.E i c = 0) \/
 (b = true /\ k < n /\ ∃ nu', nW n m mw A (c + 1) (k + 1) nu' (ma cs k c) z' /\ ((z'.tn = z.tn /\ nu' = nu) \/ (z'.tn = !z.tn /\ ∃ p, k < p /\ p < n /\ nu' = fun i => nu (lu k p i))))
theorem nW.skip {n m mw c k : Nat} {A : Mx} {nu cs : Nat -> Nat} {z : jq} (h : nW n m mw A c k nu cs z) (hc : c < m) (h0 : ∀ i, k <= i -> i < n -> bH z.E i c = 0) : nW n m mw A (c + 1) k nu cs z :=
 ⟨h.El, h.rl, h.nl, h.tk, h.br.skip hc h0, h.Ab, h.eb, h.lb⟩
theorem Fr.fldS {gF m : Nat} {z : jq} {w : World} (h : fI gF m z w) : Fr (ft gF z) w w [.rM gF m z] :=
 ⟨aO.refl _ _, fun e he => by rcases List.mem_singleton.1 he with rfl; exact h, List.pairwise_singleton .., fun e he _ b hb => by rcases List.mem_singleton.1 he with rfl; exact .inl hb⟩
theorem zs0 {x : Int} (h : x = 0) : aN x = 0 := by subst h; rfl
theorem zs1 {x : Int} (h : x ≠ 0) : ¬ aN x = 0 := fun e => h (by unfold aN at e; (repeat' split at e) <;> omega)
theorem zZ (gF m c k mw : Nat) (z : jq) (A : Mx) (nu cs : Nat -> Nat) (w : World) (hc : c < m) (hI : nW 0 m mw A c k nu cs z) (h : fI gF m z w) :
 Calls Tryz.prog 60 #[.pointer (some ⟨gF, 0, none⟩), .int .i64 (c : Int)] w fun e w' => ∃ (b : Bool) (z' : jq), e = .returned (.bool b) /\ aO (ft gF z) w w' /\ fI gF m z' w' /\ (∀ g, ft gF z' g -> ft gF z g \/ w.heap.size <= g) /\ xA 0 m mw A c k nu cs z b z' := by
 have HR : Hid (xA 0 m mw A c k nu cs z false z) := H5 (.inl ⟨rfl, rfl, hI.skip hc fun i _ h => absurd h (Nat.not_lt_zero _), fun i _ h => absurd h (Nat.not_lt_zero _)⟩);have hk : k = 0 := by have := hI.br.kn; omega
 have El := hI.El;have tk := hI.tk;have HF := H5 h;obtain ⟨ro, rc, no, nc, gs, E, nul, tn, lp, ls, tk'⟩ := z
 replace El : E.length = 0 := El
 replace tk : tk' = k := tk
 subst hk tk;have hcl : ∀ i v, (wI ⟨ro, rc, no, nc, gs, E, nul, tn, lp, ls, 0⟩)[i]? = some v -> w.cell? ⟨gF, i, none⟩ = some v := fun i v hv => by rw [h.1.1.cell]; exact hv
 have c0 : w.cell? ⟨gF, 0, none⟩ = some (.slice ro 0 rc) := hcl 0 _ (by show some (Value.slice ro E.length rc) = _; rw [El]);have c5 : w.cell? ⟨gF, 5, none⟩ = some (.int .i64 0) := hcl 5 _ rfl;clear hI h hcl;have HA : Fr (fun _ => False) w w [.cell ⟨gF, 0, none⟩ (.slice ro 0 rc), .cell ⟨gF, 5, none⟩ (.int .i64 0)] := Fr.cl (Fr.cl (Fr.nil _ w) c5 (by simp [En.wr])) c0 (by simp [En.wr]);have fin : ∀ w', Below w.heap.size w w' -> ∃ (z' : jq), aO (ft gF ⟨ro, rc, no, nc, gs, E, nul, tn, lp, ls, 0⟩) w w' /\ fI gF m z' w' /\ (∀ g, ft gF z' g -> ft gF ⟨ro, rc, no, nc, gs, E, nul, tn, lp, ls, 0⟩ g \/ w.heap.size <= g) /\ xA 0 m mw A c 0 nu cs ⟨ro, rc, no, nc, gs, E, nul, tn, lp, ls, 0⟩ false z' := fun w' hb =>
  ⟨_, aO.bb hb, En.gS (e := .rM gF m ⟨ro, rc, no, nc, gs, E, nul, tn, lp, ls, 0⟩) HF.out (aO.bb (S := fun _ => False) hb) (fun _ => Wl.none _) (fun _ _ h => h), fun g h => .inl h, HR.out⟩
 have HN := H5 fin;clear fin c0 c5;refine ct (S0 := fun _ => False) Tryz.func60 HA ?_;clear HA;refine ah ?_;refine rW [] ?_;refine dW ?_;refine eW ?_;refine ah ?_;refine rW [] ?_;(iterate 5 refine dW ?_);refine eW ?_;refine ah ?_;refine rW [] ?_;refine dW ?_;refine dW ?_;refine eW ?_;refine ah ?_;refine cF (X := Unit) (fun _ => True) (fun _ => 0) (fun _ => [(6, .int .i64 0), (5, .int .i64 0), (1, .int .i64 (c : Int)), (0, .pointer (some ⟨gF, 0, none⟩)), (4, .bool false)]) (fun _ => [.cell ⟨gF, 0, none⟩ (.slice ro 0 rc), .cell ⟨gF, 5, none⟩ (.int .i64 0)]) () trivial fun _ _ => ?_;refine ah ?_;refine rW [] ?_;(iterate 6 refine dW ?_);refine dB false ?_;refine dW ?_;(iterate 10 refine uG ?_);refine uC ?_;refine uG ?_;refine dW ?_;refine eW ?_;refine ah ?_;refine dR ?_;refine ah ?_;refine rW [] ?_;(iterate 6 refine dW ?_);refine dB true ?_;refine eW ?_;refine ah ?_;refine fv ?_;refine ah ?_;refine rW [] ?_;refine dW ?_;refine eW ?_;refine ah ?_;refine fA fun w' H => ?_;obtain ⟨z', h1, h2, h3, h4⟩ := HN.out w' H.below;exact ⟨_, eB, false, z', rfl, h1, h2, h3, h4⟩
end Go.Proofs.YtjjlmfmoihooiaaGreat
