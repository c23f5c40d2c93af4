/- Part 6 of 8 of the proof that the law ModhnfRoads returns true for every input of bulk at most 1048576 and leaves its arguments as they were. -/
import Derived.Test.YtjjlmfmoihooiaaGreatRoA
import Derived.Test.YtjjlmfmoihooiaaGreatRoB
import Derived.Test.YtjjlmfmoihooiaaGreatRoC
import Derived.Test.YtjjlmfmoihooiaaGreatRoD
import Derived.Test.YtjjlmfmoihooiaaGreatRoE
set_option linter.all false
set_option maxRecDepth 100000
set_option maxHeartbeats 8000000
namespace Go.Proofs.YtjjlmfmoihooiaaGreat
open Go.RowKit
theorem aN.setV {cs : List Value} (h : aN cs) {i : Nat} {v : Value} (hv : ∀ n, v ≠ .int .u64 n) : aN (cs.set i v) := fun c hc n => by
 rcases EF hc with h' | rfl
 . exact h c h' n
 . exact hv n
structure JcX where
 gs : List Nat
 E : List (List Int)
 nul : List Nat
 tn : Bool
 nu : Nat -> Nat
structure zp (n m mw c k : Nat) (A : Mx) (cs : Nat -> Nat) (ls : Int) (tn0 : Bool) (nu0 : Nat -> Nat) (x : JcX) : Prop where
 gl : x.gs.length = n
 gi_ : fT x.gs n
 El : x.E.length = n
 rl : ∀ t < n, (x.E.getD t []).length = m
 nl : x.nul.length = n
 br : iV n m A c k x.nu cs (bP x.E) ls
 eb : ∀ t < n, ∀ j, ag (bP x.E t j).natAbs <= 64 * (mw + 1)
 p0 : bP x.E k c ≠ 0
 rel : (x.tn = tn0 /\ x.nu = nu0) \/ (x.tn = !tn0 /\ ∃ p, k < p /\ p < n /\ x.nu = fun i => nu0 (mb k p i))
theorem zp.swap {n m mw c k p : Nat} {A : Mx} {nu cs : Nat -> Nat} {z : jo} (hI : oD n m mw A c k nu cs z) (h6 : z.gs.length = n) (h7 : fT z.gs n) (hk : k < p) (hp : p < n) (h0 : bP z.E p c ≠ 0) : zp n m mw c k A cs z.ls z.tn nu ⟨qj z.gs k p 0, qj z.E k p [], qj z.nu k p 0, !z.tn, fun i => nu (mb k p i)⟩ := by
 have hkn : k < n := by omega
 have eE : ∀ t, (qj z.E k p []).getD t [] = z.E.getD (mb k p t) [] := fun t => kQ (by rw [hI.El]; exact hkn) (by rw [hI.El]; exact hp);have eM : ∀ t j, bP (qj z.E k p []) t j = bP z.E (mb k p t) j := fun t j => by unfold bP; rw [eE]
 refine ⟨by rw [mZ, h6], fun a b ha hb e => ?_, by rw [mZ, hI.El], fun t ht => ?_, by rw [mZ, hI.nl], ?_, fun t ht j => ?_, ?_, .inr ⟨rfl, p, hk, hp, rfl⟩⟩
 . rw [kQ (by rw [h6]; exact hkn) (by rw [h6]; exact hp), kQ (by rw [h6]; exact hkn) (by rw [h6]; exact hp)] at e;exact uT (h7 _ _ (ie hkn hp ha) (ie hkn hp hb) e)
 . show ((qj z.E k p []).getD t []).length = m;rw [eE]; exact hI.rl _ (ie hkn hp ht)
 . exact hI.br.swap (Dg hk) hp fun i h1 h2 j _ => eM i j
 . show ag (bP (qj z.E k p []) t j).natAbs <= _;rw [eM]; exact hI.eb _ (ie hkn hp ht) j
 . show bP (qj z.E k p []) k c ≠ 0;rw [eM, show mb k p k = p by unfold mb; rw [if_pos rfl]]; exact h0
theorem zp.stay {n m mw c k : Nat} {A : Mx} {nu cs : Nat -> Nat} {z : jo} (hI : oD n m mw A c k nu cs z) (h6 : z.gs.length = n) (h7 : fT z.gs n) (h0 : bP z.E k c ≠ 0) : zp n m mw c k A cs z.ls z.tn nu ⟨z.gs, z.E, z.nu, z.tn, nu⟩ :=
 ⟨h6, h7, hI.El, hI.rl, hI.nl, hI.br, hI.eb, h0, .inl ⟨rfl, rfl⟩⟩
structure LcX where
 i : Nat
 E : List (List Int)
structure yT (n m c k q : Nat) (A : Mx) (nu cs : Nat -> Nat) (E0 : List (List Int)) (x : LcX) : Prop where
 hi : x.i <= q
 El : x.E.length = n
 old : ∀ t < n, (t <= k \/ k + 1 + x.i <= t) -> x.E.getD t [] = E0.getD t []
 len : ∀ t < n, (x.E.getD t []).length = m
 new : ∀ t < n, k < t -> t < k + 1 + x.i -> ∀ j < m, bP x.E t j = if c < j then mn (k + 1) A nu (mF cs k c) (nu t) j else 0
structure McX where
 j : Nat
 ps : List P4
 xs : List Int
structure McI (m c k t : Nat) (A : Mx) (nu cs : Nat -> Nat) (E0 : List (List Int)) (x : McX) : Prop where
 hj : c + 1 <= x.j /\ x.j <= m
 pl : x.ps.length = m
 xl : x.xs.length = m
 val : ∀ j < m, gi x.xs j = if c < j /\ j < x.j then mn (k + 1) A nu (mF cs k c) (nu t) j else bP E0 t j
theorem yT.next {n m c k q i : Nat} {A : Mx} {nu cs : Nat -> Nat} {E0 E : List (List Int)} {ls : Int} {xs : List Int} (h : yT n m c k q A nu cs E0 ⟨i, E⟩) (br : iV n m A c k nu cs (bP E0) ls) (hc : c < m) (hi : i < q) (hq : k + 1 + q = n) (hl : xs.length = m) (hx : ∀ j < m, gi xs j = if j = c then 0 else if c < j /\ j < m then mn (k + 1) A nu (mF cs k c) (nu (k + 1 + i)) j else bP E0 (k + 1 + i) j) : yT n m c k q A nu cs E0 ⟨i + 1, E.set (k + 1 + i) xs⟩ := by
 have El : E.length = n := h.El;have eg : ∀ t, (E.set (k + 1 + i) xs).getD t [] = if t = k + 1 + i then xs else E.getD t [] := fun t => di Cp;refine ⟨hi, by rw [CL]; exact El, fun t ht ho => ?_, fun t ht => ?_, fun t ht h1 h2 j hj => ?_⟩
 . show (E.set (k + 1 + i) xs).getD t [] = _;rw [eg, if_neg (by have ho : t <= k \/ k + 1 + (i + 1) <= t := ho; omega)];exact h.old t ht (by rcases ho with ho | ho; exact .inl ho; exact .inr (by show k + 1 + i <= t; have ho : k + 1 + (i + 1) <= t := ho; omega))
 . show ((E.set (k + 1 + i) xs).getD t []).length = m;rw [eg]; split; exact hl; exact h.len t ht
 . replace h2 : t < k + 1 + (i + 1) := h2
   show gi ((E.set (k + 1 + i) xs).getD t []) j = _;rw [eg];by_cases e : t = k + 1 + i
   . rw [if_pos e, hx j hj, e];by_cases e1 : j = c
     . rw [if_pos e1, if_neg Cp]
     . rw [if_neg e1];by_cases e2 : c < j
       . rw [if_pos ⟨e2, hj⟩, if_pos e2]
       . rw [if_neg (fun q => e2 q.1), if_neg e2];exact br.z (k + 1 + i) Cp Cp j Cp
   . rw [if_neg e]; exact h.new t ht h1 (by show t < k + 1 + i; omega) j hj
theorem yT.done {n m mw c k q : Nat} {A : Mx} {nu0 nu1 cs : Nat -> Nat} {ls : Int} {tn0 tn1 : Bool} {gs1 nul1 : List Nat} {E1 E2 : List (List Int)} (hJ : zp n m mw c k A cs ls tn0 nu0 ⟨gs1, E1, nul1, tn1, nu1⟩) (hX : yT n m c k q A nu1 cs E1 ⟨q, E2⟩) (hq : k + 1 + q = n) (hn : n <= 64) (hc : c < m) (hA : ∀ i j, (A i j).natAbs <= W ^ mw) (ro no : Option Addr) (rc nc : Nat) (p : P4) :
 oD n m mw A (c + 1) (k + 1) nu1 (mF cs k c) ⟨ro, rc, no, nc, gs1, E2, nul1, tn1, p, bP E1 k c, k + 1⟩ := by
 have hnew : ∀ i, k < i -> i < n -> ∀ j < m, bP E2 i j = if c < j then mn (k + 1) A nu1 (mF cs k c) (nu1 i) j else 0 := fun i h1 h2 j hj => hX.new i h2 h1 (by show i < k + 1 + q; omega) j hj;refine ⟨hX.El, hX.len, hJ.nl, rfl, hJ.br.take hc Cp hJ.p0 hnew, hA, fun t ht j => ?_, hJ.eb k Cp c⟩;show ag (bP E2 t j).natAbs <= _;by_cases h1 : t <= k
 . have : bP E2 t j = bP E1 t j := by unfold bP; rw [show E2.getD t [] = E1.getD t [] from hX.old t ht (.inl h1)]
   rw [this]; exact hJ.eb t ht j
 . by_cases hj : j < m
   . rw [hnew t Cp ht j hj];split
     . exact an (CT (mn_bd hA _ _ _) (sT Cp))
     . simp [bb]
   . have : bP E2 t j = 0 := by
      unfold bP gi;have := hX.len t ht;exact fI _ _ (by have e : (E2.getD t []).length = m := this; omega)
     rw [this]; simp [bb]
theorem Bm {c n rc : Nat} {gs : List Nat} {tl : List Value} (h : (hG c gs ++ tl).length = rc * 1) (hl : gs.length = n) : n <= rc := by
 rw [CQ, iW] at h; omega
theorem yq {rb x n rc q : Nat} (hq : x + q = n) (hn : n <= rc) : ∃ sp cq, sliced (some ⟨rb, 0, none⟩) x n rc 1 = .slice sp q cq /\ (0 < q -> sp = some ⟨rb, x, none⟩) :=
 ⟨if rc = x then some ⟨rb, 0, none⟩ else (some (⟨rb, 0, none⟩ : Addr)).map (·.add (x * 1)), rc - x, by unfold sliced; rw [show n - x = q by omega], fun h => by rw [if_neg Cp, Option.map_some, Go.WideShapes.add_plain, Ee, Db]⟩
theorem fX.of {gF m n rb nb rc nc tk : Nat} {gs nul : List Nat} {E : List (List Int)} {tn : Bool} {lp : P4} {ls : Int} {tl1 tl2 : List Value} {w : World} (El : E.length = n) (gl : gs.length = n) (nl : nul.length = n) (hi : fT gs n) (ht1 : aN tl1) (hl1 : (hG m gs ++ tl1).length = rc * 1) (ht2 : aN tl2) (hl2 : (iL nul ++ tl2).length = nc * 1)
 (h1 : aa w gF 87 [.slice (some ⟨rb, 0, none⟩) n rc, .slice (some ⟨nb, 0, none⟩) n nc, .bool tn, .bool lp.1, .slice lp.2.1 lp.2.2.1 lp.2.2.2, .int .i64 (tk : Int)]) (h2 : aa w rb 22 (hG m gs ++ tl1)) (h3 : aa w nb 3 (iL nul ++ tl2)) (h4 : wQ [] gs E w) (h5 : aL w (av lp) ls) :
 fX gF m ⟨some ⟨rb, 0, none⟩, rc, some ⟨nb, 0, none⟩, nc, gs, E, nul, tn, lp, ls, tk⟩ w := by
 subst El;refine ⟨⟨h1, ⟨by rw [iW, gl, Ee], ?_, .inr ⟨rb, tl1, rfl, ht1, h2, hl1⟩⟩, ⟨by rw [qJ, nl, Ee], ?_, .inr ⟨nb, tl2, rfl, ht2, h3, hl2⟩⟩, fun t ht _ => h4 t ht Cq, h5⟩, gl, hi⟩
 . show E.length <= rc;rw [CQ, iW] at hl1; omega
 . show E.length <= nc;rw [CQ, qJ] at hl2; omega
theorem fK.of {gF rb nb rc nc tk : Nat} {gs nul : List Nat} {E : List (List Int)} {tn : Bool} {lp : P4} {ls : Int} {S : Nat -> Prop} (h1 : S gF) (h2 : S rb) (h3 : S nb) (h4 : ∀ t, t < E.length -> S (gs.getD t 0)) : ∀ g, fK gF ⟨some ⟨rb, 0, none⟩, rc, some ⟨nb, 0, none⟩, nc, gs, E, nul, tn, lp, ls, tk⟩ g -> S g := by
 rintro g (rfl | ⟨o, e⟩ | ⟨o, e⟩ | ⟨t, ht, _, rfl⟩)
 . exact h1
 . cases e; exact h2
 . cases e; exact h3
 . exact h4 t ht
theorem zv (gF n m c k mw : Nat) (z : jo) (A : Mx) (nu cs : Nat -> Nat) (w : World) (hn0 : 0 < n) (hn : n <= 64) (hm : m <= 64) (hc : c < m) (hmw : mw <= 1048577) (hI : oD n m mw A c k nu cs z) (h : fX gF m z w) :
 Calls Tryz.prog 60 #[.pointer (some ⟨gF, 0, none⟩), .int .i64 (c : Int)] w fun e w' => ∃ (b : Bool) (z' : jo), e = .returned (.bool b) /\ aU (fK gF z) w w' /\ fX gF m z' w' /\ (∀ g, fK gF z' g -> fK gF z g \/ w.heap.size <= g) /\ xy n m mw A c k nu cs z b z' := by
 have HI := H5 hI;have hkn := hI.br.kn;have h7 : fT z.gs n := by have := h.2.2; rw [hI.El] at this; exact this
 have h6 : z.gs.length = n := h.2.1.trans hI.El;have hsw := fun p (h1 : k < p) (h2 : p < n) h3 => zp.swap hI h6 h7 h1 h2 h3;have hst := fun h3 => zp.stay hI h6 h7 h3;obtain ⟨B, hB⟩ := Cs (64 * (mw + 1));have hBm : B <= 100000000 := by omega
 have H0 := (Fr.fldS h).fldO.1;obtain ⟨ro, rc, no, nc, gs, E, nul, tn, lp, ls, tk⟩ := z;have El : E.length = n := hI.El;have rl : ∀ t < n, (E.getD t []).length = m := hI.rl;have nl : nul.length = n := hI.nl;obtain rfl : tk = k := hI.tk;have eb : ∀ t < n, ∀ j, ag (bP E t j).natAbs <= B := by rw [<- hB]; exact hI.eb
 have lb : ag ls.natAbs <= B := by rw [<- hB]; exact hI.lb
 have br : iV n m A c tk nu cs (bP E) ls := hI.br
 replace h6 : gs.length = n := h6
 replace h7 : fT gs n := h7
 have H1 : Fr (fK gF ⟨ro, rc, no, nc, gs, E, nul, tn, lp, ls, tk⟩) w w [.lg 22 1 ro n rc (hG m gs), .lg 3 1 no n nc (iL nul), .row gF 87 [.slice ro n rc, .slice no n nc, .bool tn, .bool lp.1, .slice lp.2.1 lp.2.2.1 lp.2.2.2, .int .i64 (tk : Int)], .fh [] gs E, .num (av lp) ls] := by
  have H := H0;simp only [BJ, yE, Dp, Dt] at H;rw [El] at H;have H2 : Fr _ w w (.jm n gs E :: [.lg 22 1 ro n rc (hG m gs), .lg 3 1 no n nc (iL nul), .row gF 87 [.slice ro n rc, .slice no n nc, .bool tn, .bool lp.1, .slice lp.2.1 lp.2.2.1 lp.2.2.2, .int .i64 (tk : Int)], .num (av lp) ls]) := H.pick (by repeat (first | exact Pk.n | refine Pk.c (by repeat (first | exact Rm.z | apply Rm.s)) ?_));exact (H2.BI Cp).pick (by repeat (first | exact Pk.n | refine Pk.c (by repeat (first | exact Rm.z | apply Rm.s)) ?_))
 have HZ := H5 (Cv El (Cv rl (Cv nl (Cv h6 h7))));have HB := H5 (Cv eb (Cv lb (Cv br (Cv hsw hst))));have HBB := H5 hB;clear H0 h hI El rl nl h6 h7 eb lb br hsw hst hB;refine bN (S0 := fK gF ⟨ro, rc, no, nc, gs, E, nul, tn, lp, ls, tk⟩) Tryz.func60 H1 ?_;clear H1;refine jY ?_;refine vd Cp fun rb tl1 e1 ht1 hl1 => ?_;subst e1;refine er (es' := [.lg 3 1 no n nc (iL nul), .row rb 22 (hG m gs ++ tl1), .row gF 87 [.slice (some ⟨rb, 0, none⟩) n rc, .slice no n nc, .bool tn, .bool lp.1, .slice lp.2.1 lp.2.2.1 lp.2.2.2, .int .i64 (tk : Int)], .fh [] gs E, .num (av lp) ls]) ?_;refine vd Cp fun nb tl2 e2 ht2 hl2 => ?_;subst e2;have HT := H5 (Cv ht1 (Cv hl1 (Cv ht2 hl2)));clear ht1 hl1 ht2 hl2;refine rW [] ?_;refine aC ?_;refine rW [] ?_;refine bh ?_;refine aC ?_;refine dO ?_;refine aC ?_;refine cF (X := Nat) (fun p => (tk <= p /\ p <= n) /\ ∀ i, tk <= i -> i < p -> bP E i c = 0) (fun p => n - p) (fun p => [(6, .int .i64 (p : Int)), (5, .int .i64 (tk : Int)), (1, .int .i64 (c : Int)), (0, .pointer (some ⟨gF, 0, none⟩)), (4, .bool false)])
  (fun _ => [.row rb 22 (hG m gs ++ tl1), .row nb 3 (iL nul ++ tl2), .row gF 87 [.slice (some ⟨rb, 0, none⟩) n rc, .slice (some ⟨nb, 0, none⟩) n nc, .bool tn, .bool lp.1, .slice lp.2.1 lp.2.2.1 lp.2.2.2, .int .i64 (tk : Int)], .fh [] gs E, .num (av lp) ls]) tk ⟨⟨Ct _, hkn⟩, fun i h1 h2 => by omega⟩ fun p hp => ?_
 obtain ⟨⟨hp1, hp2⟩, hp3⟩ := hp;have HP := H5 hp3;clear hp3;by_cases h : p < n
 . have h01 : (p : Int) < (n : Int) := by omega
   obtain ⟨bp, hgp⟩ := Cs (gs.getD p 0);have k1 := mz (c := m) tl1 (by rw [HZ.out.2.2.2.1]; exact h) hgp;have HG := H5 hgp;clear hgp;refine jY ?_;refine er (es' := [.fh [] gs E, .row rb 22 (hG m gs ++ tl1), .row nb 3 (iL nul ++ tl2), .row gF 87 [.slice (some ⟨rb, 0, none⟩) n rc, .slice (some ⟨nb, 0, none⟩) n nc, .bool tn, .bool lp.1, .slice lp.2.1 lp.2.2.1 lp.2.2.2, .int .i64 (tk : Int)], .num (av lp) ls]) ?_;refine wE p (by rw [HZ.out.1]; exact h) Cq (by rw [HZ.out.1]; exact HZ.out.2.2.2.2) fun bp' ps tl hg' htl hpl => ?_;obtain rfl : bp = bp' := HG.out.symm.trans hg';rw [HZ.out.2.1 p h] at hpl;have k2 := tu tl (ps := ps) (i := c) Cp;have k3 := tt tl (ps := ps) (i := c) Cp;have HPL := H5 (Cv hpl htl);clear hpl htl hg';refine er (es' := [.row bp 37 (rn ps tl), .row rb 22 (hG m gs ++ tl1), .row nb 3 (iL nul ++ tl2), .row gF 87 [.slice (some ⟨rb, 0, none⟩) n rc, .slice (some ⟨nb, 0, none⟩) n nc, .bool tn, .bool lp.1, .slice lp.2.1 lp.2.2.1 lp.2.2.2, .int .i64 (tk : Int)], .ns ps (E.getD p []), .fh [p] gs E, .num (av lp) ls]) ?_;refine rW [] ?_;refine bh ?_;refine aT ?_;refine dB true ?_;refine dW ?_;(iterate 3 refine oz ?_);refine dG ?_;refine B8 (v := .int .i64 (aV (bP E p c))) (fun w' H => cO (av (gp ps c)) (bP E p c) w' (aL.int ((H.all (.ns ps (E.getD p [])) Cq : bX ..).2 c (by rw [HPL.out.1]; exact hc)) (Cw (HB.out.1 p h c) Cp))) ?_;by_cases hz : bP E p c = 0
   . have hz1 := zs0 hz;refine mQ true ?_;refine aC ?_;refine nM ?_;refine aA ?_;refine dW ?_;refine dE (dL (a := p) Cp) ?_;refine aC ?_;exact cD (p + 1) ⟨⟨⟨by omega, h⟩, fun i h1 h2 => by rcases (by omega : i < p \/ i = p) with q | rfl; exact HP.out i h1 q; exact hz⟩, by show n - (p + 1) < n - p; omega⟩ (he := by
      intro w' h';have h2 : Fr _ w w' (.row bp 37 (rn ps tl) :: .ns ps (E.getD p []) :: .fh [p] gs E :: [.row rb 22 (hG m gs ++ tl1), .row nb 3 (iL nul ++ tl2), .row gF 87 [.slice (some ⟨rb, 0, none⟩) n rc, .slice (some ⟨nb, 0, none⟩) n nc, .bool tn, .bool lp.1, .slice lp.2.1 lp.2.2.1 lp.2.2.2, .int .i64 (tk : Int)], .num (av lp) ls]) := h'.pick (by repeat (first | exact Pk.n | refine Pk.c (by repeat (first | exact Rm.z | apply Rm.s)) ?_));rw [<- HG.out] at h2;have h3 := h2.sD (by rw [HZ.out.1]; exact h) Cq HPL.out.2;rw [iK (by rw [HZ.out.1]; exact h)] at h3;exact h3.pick (by repeat (first | exact Pk.n | refine Pk.c (by repeat (first | exact Rm.z | apply Rm.s)) ?_)))
   . have hz1 := zs1 hz;refine mQ false ?_;have h02 : ¬ (p : Int) = (n : Int) := by omega
     refine aC ?_;refine Ao (es' := [.row rb 22 (hG m gs ++ tl1), .row nb 3 (iL nul ++ tl2), .row gF 87 [.slice (some ⟨rb, 0, none⟩) n rc, .slice (some ⟨nb, 0, none⟩) n nc, .bool tn, .bool lp.1, .slice lp.2.1 lp.2.2.1 lp.2.2.2, .int .i64 (tk : Int)], .num (av lp) ls, .fh [] gs E]) (fun w' h' => by
      have h2 : Fr _ w w' (.row bp 37 (rn ps tl) :: .ns ps (E.getD p []) :: .fh [p] gs E :: [.row rb 22 (hG m gs ++ tl1), .row nb 3 (iL nul ++ tl2), .row gF 87 [.slice (some ⟨rb, 0, none⟩) n rc, .slice (some ⟨nb, 0, none⟩) n nc, .bool tn, .bool lp.1, .slice lp.2.1 lp.2.2.1 lp.2.2.2, .int .i64 (tk : Int)], .num (av lp) ls]) := h'.pick (by repeat (first | exact Pk.n | refine Pk.c (by repeat (first | exact Rm.z | apply Rm.s)) ?_));rw [<- HG.out] at h2;have h3 := h2.sD (by rw [HZ.out.1]; exact h) Cq HPL.out.2;rw [iK (by rw [HZ.out.1]; exact h)] at h3;exact h3.pick (by repeat (first | exact Pk.n | refine Pk.c (by repeat (first | exact Rm.z | apply Rm.s)) ?_))) ?_
     clear k2 k3;refine kf ?_;refine aA ?_;refine bh ?_;refine aT ?_;refine fC ?_;refine AR (yl (Bj (xn (X := JcX) (zp n m mw c tk A cs ls tn nu) (fun _ => [(5, .int .i64 (tk : Int)), (1, .int .i64 (c : Int)), (0, .pointer (some ⟨gF, 0, none⟩)), (4, .bool false)]) (fun x => [.row rb 22 (hG m x.gs ++ tl1), .row nb 3 (iL x.nul ++ tl2), .row gF 87 [.slice (some ⟨rb, 0, none⟩) n rc, .slice (some ⟨nb, 0, none⟩) n nc, .bool x.tn, .bool lp.1, .slice lp.2.1 lp.2.2.1 lp.2.2.2, .int .i64 (tk : Int)], .num (av lp) ls, .fh [] x.gs x.E]) ?_ fun z hz => ?_)))
     . by_cases hpk : p = tk
       . obtain rfl : tk = p := hpk.symm;refine aA ?_;refine aT ?_;refine fC ?_;refine jY ?_;exact oh (⟨gs, E, nul, tn, nu⟩ : JcX) (HB.out.2.2.2.2 hz)
       . have hpk' : ¬ (p : Int) = (tk : Int) := by omega
         have hlt : tk < p := by omega
         have h03 : (tk : Int) < (n : Int) := by omega
         obtain ⟨bk, hbk⟩ := Cs (gs.getD tk 0);have k4 := mz (c := m) tl1 (by rw [HZ.out.2.2.2.1]; omega) hbk;have k5 : ((hG m gs ++ tl1).set p (.slice (some ⟨bk, 0, none⟩) m m))[tk]? = some (.slice (some ⟨bk, 0, none⟩) m m) := by rw [List.getElem?_set_ne hpk]; exact k4
         obtain ⟨xp, hxp⟩ := Cs (nul.getD p 0);obtain ⟨xk, hxk⟩ := Cs (nul.getD tk 0);have k6 := nP tl2 (by rw [HZ.out.2.2.1]; exact h) hxp;have k7 := nP tl2 (by rw [HZ.out.2.2.1]; omega) hxk;have k8 : ((iL nul ++ tl2).set p (.int .i64 (xk : Int)))[tk]? = some (.int .i64 (xk : Int)) := by rw [List.getElem?_set_ne hpk]; exact k7
         have HQ := H5 (Cv hbk (Cv hxp hxk));clear hbk hxp hxk;refine aA ?_;refine aT ?_;refine kq ?_;refine aA ?_;(iterate 6 refine bh ?_);refine dW ?_;refine sW (b := rb) (k := p) (cs := hG m gs ++ tl1) (us := [.slice (some ⟨bk, 0, none⟩) m m]) (hU := rfl) (hu := ⟨(ic m gs).append HT.out.1, by decide⟩) ?_;refine dW ?_;refine sW (b := rb) (k := tk) (cs := (hG m gs ++ tl1).set p (.slice (some ⟨bk, 0, none⟩) m m)) (us := [.slice (some ⟨bp, 0, none⟩) m m]) (hU := rfl) (hu := ⟨aN.setV ((ic m gs).append HT.out.1) (fun _ h => nomatch h), by decide⟩) ?_;refine eW ?_;refine aA ?_;(iterate 6 refine bh ?_);refine dW ?_;refine sW (b := nb) (k := p) (cs := iL nul ++ tl2) (us := [.int .i64 (xk : Int)]) (hU := rfl) (hu := ⟨(iX nul).append HT.out.2.2.1, by decide⟩) ?_;refine dW ?_;refine sW (b := nb) (k := tk) (cs := (iL nul ++ tl2).set p (.int .i64 (xk : Int))) (us := [.int .i64 (xp : Int)]) (hU := rfl) (hu := ⟨aN.setV ((iX nul).append HT.out.2.2.1) (fun _ h => nomatch h), by decide⟩) ?_;refine eW ?_;refine aA ?_;refine bh ?_;refine bh ?_;refine sW ?_;refine eQ ?_;exact oh (⟨qj gs tk p 0, qj E tk p [], qj nul tk p 0, !tn, fun i => nu (mb tk p i)⟩ : JcX) (HB.out.2.2.2.1 p hlt h hz) (he := by
          intro w' h';have a1 := vC (fun g : Nat => Value.slice (some ⟨g, 0, none⟩) m m) (l := gs) (k := tk) (p := p) (d := 0) (by rw [HZ.out.2.2.2.1]; omega) (by rw [HZ.out.2.2.2.1]; exact h) tl1;have a2 := vC (fun x : Nat => Value.int .i64 (x : Int)) (l := nul) (k := tk) (p := p) (d := 0) (by rw [HZ.out.2.2.1]; omega) (by rw [HZ.out.2.2.1]; exact h) tl2;rw [HQ.out.1, HG.out] at a1;rw [HQ.out.2.1, HQ.out.2.2] at a2;have h2 : Fr _ w w' (.fh [] gs E :: [.row rb 22 ((((hG m gs ++ tl1).set p (.slice (some ⟨bk, 0, none⟩) m m)).set tk (.slice (some ⟨bp, 0, none⟩) m m))), .row nb 3 ((((iL nul ++ tl2).set p (.int .i64 (xk : Int))).set tk (.int .i64 (xp : Int)))), .row gF 87 [.slice (some ⟨rb, 0, none⟩) n rc, .slice (some ⟨nb, 0, none⟩) n nc, .bool (!tn), .bool lp.1, .slice lp.2.1 lp.2.2.1 lp.2.2.2, .int .i64 (tk : Int)], .num (av lp) ls]) := h'.pick (by repeat (first | exact Pk.n | refine Pk.c (by repeat (first | exact Rm.z | apply Rm.s)) ?_));have h3 := h2.rwoP (gs' := qj gs tk p 0) (E' := qj E tk p []) (mb tk p) (mZ ..) (fun t ht => by rw [HZ.out.1] at ht |-; exact ie Cp h ht) (fun t _ => kQ (by rw [HZ.out.2.2.2.1]; omega) (by rw [HZ.out.2.2.2.1]; exact h)) (fun t _ => kQ (by rw [HZ.out.1]; omega) (by rw [HZ.out.1]; exact h));unfold hG iL at h3 |-;rw [a1, a2] at h3;exact h3.pick (by repeat (first | exact Pk.n | refine Pk.c (by repeat (first | exact Rm.z | apply Rm.s)) ?_)))
     . obtain ⟨gs1, E1, nul1, tn1, nu1⟩ := z;have HJ : Hid (zp n m mw c tk A cs ls tn nu ⟨gs1, E1, nul1, tn1, nu1⟩) := H5 hz;have gl1 : gs1.length = n := HJ.out.gl;have El1 : E1.length = n := HJ.out.El;have htk : tk < n := by omega
       have h06 : (tk : Int) < (n : Int) := by omega
       have h07 : (c : Int) < (m : Int) := by omega
       obtain ⟨q, hq⟩ : ∃ q, tk + 1 + q = n := ⟨n - (tk + 1), by omega⟩;obtain ⟨sp, cq, hsp, hsp2⟩ := yq (rb := rb) hq (Bm HT.out.2.1 HZ.out.2.2.2.1);have HL1 := H5 (Cv gl1 (Cv El1 (Cv hq (Cv hsp hsp2))));clear hz gl1 El1 hsp hsp2;refine jY ?_;refine er (es' := [.fh [] gs1 E1, .row rb 22 (hG m gs1 ++ tl1), .row nb 3 (iL nul1 ++ tl2), .row gF 87 [.slice (some ⟨rb, 0, none⟩) n rc, .slice (some ⟨nb, 0, none⟩) n nc, .bool tn1, .bool lp.1, .slice lp.2.1 lp.2.2.1 lp.2.2.2, .int .i64 (tk : Int)], .num (av lp) ls]) ?_;refine wE tk (by rw [HL1.out.2.1]; exact htk) Cq (by rw [HL1.out.2.1]; exact HJ.out.gi_) fun bt psT tlT hbt htlT hpT => ?_;obtain ⟨xT, hxT⟩ := Cs (E1.getD tk []);have hxl : xT.length = m := by rw [<- hxT]; exact HJ.out.rl tk htk
       rw [hxT] at hpT |-;rw [hxl] at hpT;have q1 := mz (c := m) tl1 (by rw [HL1.out.1]; exact htk) hbt;have q2 := tu tlT (ps := psT) (i := c) Cp;have q3 := tt tlT (ps := psT) (i := c) Cp;have HTT := H5 (Cv hbt (Cv htlT (Cv hpT (Cv hxT hxl))));clear hbt htlT hpT hxT hxl;refine er (es' := [.row bt 37 (rn psT tlT), .row rb 22 (hG m gs1 ++ tl1), .row nb 3 (iL nul1 ++ tl2), .row gF 87 [.slice (some ⟨rb, 0, none⟩) n rc, .slice (some ⟨nb, 0, none⟩) n nc, .bool tn1, .bool lp.1, .slice lp.2.1 lp.2.2.1 lp.2.2.2, .int .i64 (tk : Int)], .ns psT xT, .num (av lp) ls, .fh [tk] gs1 E1]) ?_;refine rW [] ?_;refine bh ?_;refine bh ?_;refine eW ?_;refine aA ?_;refine bh ?_;refine dW ?_;refine dE (dL (a := tk) Cp) ?_;refine slL (some ⟨rb, 0, none⟩) n rc (tk + 1) (.slice sp q cq) Cp HL1.out.2.2.2.1 ?_;refine dW ?_;refine aC ?_;refine cF (X := LcX) (yT n m c tk q A nu1 cs E1) (fun x => q - x.i) (fun x => [(126, .int .i64 (x.i : Int)), (125, .int .i64 (q : Int)), (124, .slice sp q cq), (7, .slice (some ⟨bt, 0, none⟩) m m), (5, .int .i64 (tk : Int)), (1, .int .i64 (c : Int)), (0, .pointer (some ⟨gF, 0, none⟩)), (4, .bool false)])
        (fun x => [.row bt 37 (rn psT tlT), .row rb 22 (hG m gs1 ++ tl1), .row nb 3 (iL nul1 ++ tl2), .row gF 87 [.slice (some ⟨rb, 0, none⟩) n rc, .slice (some ⟨nb, 0, none⟩) n nc, .bool tn1, .bool lp.1, .slice lp.2.1 lp.2.2.1 lp.2.2.2, .int .i64 (tk : Int)], .ns psT xT, .num (av lp) ls, .fh [tk] gs1 x.E]) ⟨0, E1⟩ ⟨Cx _, HL1.out.2.1, fun _ _ _ => rfl, HJ.out.rl, fun t _ h1 h2 => by have h2 : t < tk + 1 + 0 := h2; omega⟩ fun x hx => ?_
       obtain ⟨i, E2⟩ := x;have HX : Hid (yT n m c tk q A nu1 cs E1 ⟨i, E2⟩) := H5 hx;have hi : i <= q := hx.hi;clear hx;by_cases h2 : i < q
       . have h04 : (i : Int) < (q : Int) := by omega
         obtain rfl : sp = some ⟨rb, tk + 1, none⟩ := HL1.out.2.2.2.2 Cp;obtain ⟨t, ht⟩ := Cs (tk + 1 + i);have htn : t < n := by omega
         have htt : tk < t := by omega
         have El2 : E2.length = n := HX.out.El;have HEl2 := H5 El2;clear El2;refine jY ?_;refine er (es' := [.fh [tk] gs1 E2, .row bt 37 (rn psT tlT), .row rb 22 (hG m gs1 ++ tl1), .row nb 3 (iL nul1 ++ tl2), .row gF 87 [.slice (some ⟨rb, 0, none⟩) n rc, .slice (some ⟨nb, 0, none⟩) n nc, .bool tn1, .bool lp.1, .slice lp.2.1 lp.2.2.1 lp.2.2.2, .int .i64 (tk : Int)], .ns psT xT, .num (av lp) ls]) ?_;refine wE t (by rw [HEl2.out]; exact htn) (by simp; omega) (by rw [HEl2.out]; exact HJ.out.gi_) fun bi psI tlI hbi htlI hpI => ?_;obtain ⟨xI, hxI⟩ := Cs (E2.getD t []);have hxIl : xI.length = m := by rw [<- hxI]; exact HX.out.len t htn
         have hxI1 : ∀ j, gi xI j = bP E1 t j := fun j => by unfold bP; rw [<- hxI, show E2.getD t [] = E1.getD t [] from HX.out.old t htn (.inr (by show tk + 1 + i <= t; omega))]
         rw [hxI] at hpI |-;rw [hxIl] at hpI;have q4 := mz (c := m) tl1 (by rw [HL1.out.1]; exact htn) hbi;rw [<- ht] at q4;have q5 := tu tlI (ps := psI) (i := c) Cp;have q6 := tt tlI (ps := psI) (i := c) Cp;have HII := H5 (Cv hbi (Cv htlI (Cv hpI (Cv hxI (Cv hxIl (Cv hxI1 ht))))));clear hbi htlI hpI hxI hxIl hxI1 ht;refine er (es' := [.row bi 37 (rn psI tlI), .row bt 37 (rn psT tlT), .row rb 22 (hG m gs1 ++ tl1), .row nb 3 (iL nul1 ++ tl2), .row gF 87 [.slice (some ⟨rb, 0, none⟩) n rc, .slice (some ⟨nb, 0, none⟩) n nc, .bool tn1, .bool lp.1, .slice lp.2.1 lp.2.2.1 lp.2.2.2, .int .i64 (tk : Int)], .ns psI xI, .ns psT xT, .num (av lp) ls, .fh [t, tk] gs1 E2]) ?_;refine rW [] ?_;refine kq ?_;refine aA ?_;refine aT ?_;refine aC ?_;refine rW [] ?_;refine bh ?_;refine aW fun g10 => ?_;refine sG ?_;refine eW ?_;refine aA ?_;refine dW ?_;refine dE (dL (a := c) Cp) ?_;refine aC ?_;refine lP (e := .num (av (gp psI c)) (gi xI c)) (fun w' H => (H.all (.ns psI xI) Cq : bX ..).2 c (by rw [HII.out.2.2.1]; exact hc)) ?_;clear q4 q5 q6;refine cF (X := McX) (McI m c tk t A nu1 cs E1) (fun x => m - x.j) (fun x => [(11, .int .i64 (x.j : Int)), (10, .pointer (some ⟨g10, 0, none⟩)), (9, .slice (some ⟨bi, 0, none⟩) m m), (126, .int .i64 (i : Int)), (125, .int .i64 (q : Int)), (124, .slice (some ⟨rb, tk + 1, none⟩) q cq), (7, .slice (some ⟨bt, 0, none⟩) m m), (5, .int .i64 (tk : Int)), (1, .int .i64 (c : Int)), (0, .pointer (some ⟨gF, 0, none⟩)), (4, .bool false)])
          (fun x => [.row bi 37 (rn x.ps tlI), .row bt 37 (rn psT tlT), .row g10 37 [.bool (gp psI c).1, .slice (gp psI c).2.1 (gp psI c).2.2.1 (gp psI c).2.2.2], .row rb 22 (hG m gs1 ++ tl1), .row nb 3 (iL nul1 ++ tl2), .row gF 87 [.slice (some ⟨rb, 0, none⟩) n rc, .slice (some ⟨nb, 0, none⟩) n nc, .bool tn1, .bool lp.1, .slice lp.2.1 lp.2.2.1 lp.2.2.2, .int .i64 (tk : Int)], .ns x.ps x.xs, .ns psT xT, .num (av (gp psI c)) (gi xI c), .num (av lp) ls, .fh [t, tk] gs1 E2]) ⟨c + 1, psI, xI⟩ ⟨⟨Ct _, hc⟩, HII.out.2.2.1, HII.out.2.2.2.2.1, fun j _ => by rw [if_neg (by show ¬ (c < j /\ j < c + 1); omega)]; exact HII.out.2.2.2.2.2.1 j⟩ fun x hx => ?_
         obtain ⟨j, ps2, xs⟩ := x;have HM : Hid (McI m c tk t A nu1 cs E1 ⟨j, ps2, xs⟩) := H5 hx;have hj1 : c + 1 <= j := hx.hj.1;have hj2 : j <= m := hx.hj.2;have hpl2 : ps2.length = m := hx.pl;have hxl2 : xs.length = m := hx.xl;have HPX := H5 (Cv hpl2 hxl2);clear hx;by_cases h3 : j < m
         . have h05 : (j : Int) < (m : Int) := by omega
           have q7 := tu tlI (ps := ps2) (i := j) Cp;have q8 := tt tlI (ps := ps2) (i := j) Cp;have q9 := tu tlT (ps := psT) (i := j) (by rw [HTT.out.2.2.1]; exact h3);have q10 := tt tlT (ps := psT) (i := j) (by rw [HTT.out.2.2.1]; exact h3);have hxj : gi xs j = bP E1 t j := by have := HM.out.val j h3; rw [if_neg (by show ¬ (c < j /\ j < j); omega)] at this; exact this
           have hxt : ∀ j, gi xT j = bP E1 tk j := fun j => by unfold bP; rw [HTT.out.2.2.2.1]
           have hw1 : ag (gi xs j).natAbs <= B := by rw [hxj, <- HBB.out]; exact HJ.out.eb t htn j
           have hw2 : ∀ j, ag (gi xT j).natAbs <= B := fun j => by rw [hxt, <- HBB.out]; exact HJ.out.eb tk htk j
           have hw3 : ag (gi xI c).natAbs <= B := by rw [HII.out.2.2.2.2.2.1, <- HBB.out]; exact HJ.out.eb t htn c
           obtain ⟨y, hy⟩ := Cs (mn (tk + 1) A nu1 (mF cs tk c) (nu1 t) j);have hex : gi xT c * gi xs j - gi xI c * gi xT j = ls * y := by rw [hxt, hxt, hxj, HII.out.2.2.2.2.2.1, <- hy]; exact HJ.out.br.exact hc htt htn h3
           have hwm1 : ag (gi xT c * gi xs j).natAbs <= 17592186044415 := by rw [CP]; have := cT (gi xT c).natAbs (gi xs j).natAbs; have := hw2 c; omega
           have hwm2 : ag (gi xI c * gi xT j).natAbs <= 17592186044415 := by rw [CP]; have := cT (gi xI c).natAbs (gi xT j).natAbs; have := hw2 j; omega
           have hwm3 : ag (gi xT c * gi xs j - gi xI c * gi xT j).natAbs <= 17592186044415 := by
            have e1 := Int.natAbs_sub_le (gi xT c * gi xs j) (gi xI c * gi xT j);have e2 : ag ((gi xT c * gi xs j).natAbs + (gi xI c * gi xT j).natAbs) <= B + B + 1 := by
             have a1 := bF (gi xT c * gi xs j).natAbs;have a2 := bF (gi xI c * gi xT j).natAbs;have b1 : ag (gi xT c * gi xs j).natAbs <= B + B := by rw [CP]; have := cT (gi xT c).natAbs (gi xs j).natAbs; have := hw2 c; omega
             have b2 : ag (gi xI c * gi xT j).natAbs <= B + B := by rw [CP]; have := cT (gi xI c).natAbs (gi xT j).natAbs; have := hw2 j; omega
             have c1 := CU (show 0 < W by unfold W; omega) b1;have c2 := CU (show 0 < W by unfold W; omega) b2;refine an ?_;rw [Dd];have : 2 <= W := by unfold W; omega
             have := CD (W ^ (B + B)) this;omega
            exact Cw (aJ e1) (Cw e2 Cp)
           have hwl : ag ls.natAbs <= B := HB.out.2.1;have hd0 : ls ≠ 0 := HB.out.2.2.1.d0;have hqt : (gi xT c * gi xs j - gi xI c * gi xT j) / ls = y := by rw [hex]; exact DH _ hd0
           have HE := H5 (Cv hw1 (Cv hw2 (Cv hw3 (Cv hwm1 (Cv hwm2 (Cv hwm3 (Cv hwl (Cv hd0 (Cv hqt (Cv hex hy))))))))));clear hxj hxt hw1 hw2 hw3 hy hex hwm1 hwm2 hwm3 hwl hd0 hqt hpl2 hxl2;refine aA ?_;refine aT ?_;refine dW ?_;refine kq ?_;refine aA ?_;refine bh ?_;refine bh ?_;refine cN (x := gi xT c * gi xs j) (fun w' H => ib (av (gp psT c)) (av (gp ps2 j)) (gi xT c) (gi xs j) B B w' (aL.int ((H.all (.ns psT xT) Cq : bX ..).2 c (by rw [HTT.out.2.2.1]; exact hc)) (HE.out.2.1 c)) (aL.int ((H.all (.ns ps2 xs) Cq : bX ..).2 j (by rw [HPX.out.1]; exact h3)) HE.out.1) Cp) fun p1 => ?_;refine bh ?_;refine dW ?_;refine cN (x := gi xI c * gi xT j) (fun w' H => ib (av (gp psI c)) (av (gp psT j)) (gi xI c) (gi xT j) B B w' (aL.int (H.all (.num (av (gp psI c)) (gi xI c)) Cq) HE.out.2.2.1) (aL.int ((H.all (.ns psT xT) Cq : bX ..).2 j (by rw [HTT.out.2.2.1]; exact h3)) (HE.out.2.1 j)) Cp) fun p2 => ?_;refine cN (x := gi xT c * gi xs j - gi xI c * gi xT j) (fun w' H => lL (av p1) (av p2) _ _ w' (ai.int (H.all (.own w.heap.size (av p1) (gi xT c * gi xs j)) (by simp [av])) HE.out.2.2.2.1) (ai.int (H.all (.own w.heap.size (av p2) (gi xI c * gi xT j)) (by simp [av])) HE.out.2.2.2.2.1)) fun p3 => ?_;refine aW fun g12 => ?_;refine sG ?_;refine eW ?_;refine aA ?_;refine bh ?_;refine aT ?_;refine dW ?_;refine uz (x := y) (z := .int .i64 0) (fun w' H => by have := eZ (av p3) (av lp) _ ls w' (ai.int (H.all (.own w.heap.size (av p3) (gi xT c * gi xs j - gi xI c * gi xT j)) (by simp [av])) HE.out.2.2.2.2.2.1) (aL.int (H.all (.num (av lp) ls) Cq) (Cw HE.out.2.2.2.2.2.2.1 Cp)) HE.out.2.2.2.2.2.2.2.1 (by rw [HE.out.2.2.2.2.2.2.2.2.2.1]; exact Int.dvd_mul_right ..); rw [HE.out.2.2.2.2.2.2.2.2.1] at this; exact this) fun p4 => ?_;refine je (e := .ns (ps2.set j p4) (xs.set j y)) (fun w' H => bX.set (H.all (.ns ps2 xs) Cq) j (H.all (.own w.heap.size (av p4) y) (by simp [av]) : ai ..).num) ?_;refine bh ?_;refine sN j p4 (by rw [HPX.out.1]; exact h3) HII.out.2.1 rfl ?_;refine eW ?_;refine aA ?_;refine dW ?_;refine dE (dL (a := j) Cp) ?_;refine aC ?_;exact cD (⟨j + 1, ps2.set j p4, xs.set j y⟩ : McX) ⟨⟨⟨by show c + 1 <= j + 1; omega, h3⟩, by show (ps2.set j p4).length = m; rw [CL]; exact HPX.out.1, by show (xs.set j y).length = m; rw [CL]; exact HPX.out.2, fun j' hj' => by
            show gi (xs.set j y) j' = if c < j' /\ j' < j + 1 then _ else _;rw [gO (by rw [HPX.out.2]; exact h3)];by_cases e : j' = j
            . rw [if_pos e, if_pos Cp, e]; exact HE.out.2.2.2.2.2.2.2.2.2.2.symm
            . rw [if_neg e];have := HM.out.val j' hj';rw [this];show (if c < j' /\ j' < j then _ else _) = _;by_cases e2 : c < j' /\ j' < j
              . rw [if_pos e2, if_pos Cp]
              . rw [if_neg e2, if_neg Cp]⟩, by show m - (j + 1) < m - j; omega⟩
         . obtain rfl : m = j := by omega
           have hxs : ∀ j < m, gi (xs.set c 0) j = if j = c then 0 else if c < j /\ j < m then mn (tk + 1) A nu1 (mF cs tk c) (nu1 (tk + 1 + i)) j else bP E1 (tk + 1 + i) j := fun j hj => by
            rw [gO (by rw [HPX.out.2]; exact hc), HII.out.2.2.2.2.2.2];by_cases e : j = c
            . rw [if_pos e, if_pos e]
            . rw [if_neg e, if_neg e]; exact HM.out.val j hj
           have hnx := yT.next HX.out HJ.out.br hc h2 HL1.out.2.2.1 (xs := xs.set c 0) (by rw [CL]; exact HPX.out.2) hxs;rw [HII.out.2.2.2.2.2.2] at hnx;have HNX := H5 hnx;clear hxs hnx;refine aA ?_;refine aT ?_;refine dW ?_;refine dB false ?_;refine je (e := .ns (ps2.set c p0) (xs.set c 0)) (fun w' H => bX.set (H.all (.ns ps2 xs) Cq) c (aL.zero w')) ?_;refine eQ ?_;refine kf ?_;refine aA ?_;refine bh ?_;refine sN c p0 (by rw [HPX.out.1]; exact hc) HII.out.2.1 rfl ?_;refine eW ?_;refine aA ?_;refine dE (dL (a := i) Cp) ?_;refine aC ?_;exact cD (⟨i + 1, E2.set t (xs.set c 0)⟩ : LcX) ⟨HNX.out, by show q - (i + 1) < q - i; omega⟩ (he := by
            intro w' h';have h8 : Fr _ w w' (.row bi 37 (rn (ps2.set c p0) tlI) :: .ns (ps2.set c p0) (xs.set c 0) :: .fh [t, tk] gs1 E2 :: [.row bt 37 (rn psT tlT), .row rb 22 (hG m gs1 ++ tl1), .row nb 3 (iL nul1 ++ tl2), .row gF 87 [.slice (some ⟨rb, 0, none⟩) n rc, .slice (some ⟨nb, 0, none⟩) n nc, .bool tn1, .bool lp.1, .slice lp.2.1 lp.2.2.1 lp.2.2.2, .int .i64 (tk : Int)], .ns psT xT, .num (av lp) ls]) := h'.pick (by repeat (first | exact Pk.n | refine Pk.c (by repeat (first | exact Rm.z | apply Rm.s)) ?_));rw [<- HII.out.1] at h8;have h9 := h8.sD (by rw [HEl2.out]; exact htn) (by simp; omega) HII.out.2.1;exact h9.pick (by repeat (first | exact Pk.n | refine Pk.c (by repeat (first | exact Rm.z | apply Rm.s)) ?_)))
       . obtain rfl : q = i := by omega
         refine aA ?_;refine fC ?_;refine aA ?_;refine bh ?_;refine aT ?_;refine dW ?_;refine sW ?_;refine eW ?_;refine aA ?_;refine bh ?_;refine dE (dL (a := tk) Cp) ?_;refine aT ?_;refine sW ?_;refine eW ?_;refine aA ?_;refine aC ?_;refine dZ fun w' H => ?_;have El2 : E2.length = n := HX.out.El;have hET : E2.getD tk [] = xT := by rw [<- HTT.out.2.2.2.1]; exact HX.out.old tk htk (.inl (Ct _))
         have hxc : gi xT c = bP E1 tk c := by unfold bP; rw [HTT.out.2.2.2.1]
         have hRow : aa w' gF 87 [.slice (some ⟨rb, 0, none⟩) n rc, .slice (some ⟨nb, 0, none⟩) n nc, .bool tn1, .bool (gp psT c).1, .slice (gp psT c).2.1 (gp psT c).2.2.1 (gp psT c).2.2.2, .int .i64 ((tk + 1 : Nat) : Int)] := H.all (.row gF 87 [.slice (some ⟨rb, 0, none⟩) n rc, .slice (some ⟨nb, 0, none⟩) n nc, .bool tn1, .bool (gp psT c).1, .slice (gp psT c).2.1 (gp psT c).2.2.1 (gp psT c).2.2.2, .int .i64 ((tk + 1 : Nat) : Int)]) Cq;have hrb : aa w' rb 22 (hG m gs1 ++ tl1) := H.all (.row rb 22 (hG m gs1 ++ tl1)) Cq;have hnb : aa w' nb 3 (iL nul1 ++ tl2) := H.all (.row nb 3 (iL nul1 ++ tl2)) Cq;have H3 : Fr _ w w' (.row bt 37 (rn psT tlT) :: .ns psT xT :: .fh [tk] gs1 E2 :: []) := H.pick (by repeat (first | exact Pk.n | refine Pk.c (by repeat (first | exact Rm.z | apply Rm.s)) ?_));have hnum : aL w' (av (gp psT c)) (bP E1 tk c) := by rw [<- hxc]; exact (H3.m1 : bX w' psT xT).2 c (by rw [HTT.out.2.2.1]; exact hc)
         rw [<- HTT.out.1] at H3;have H4 := H3.sD (by rw [El2]; exact htk) Cq HTT.out.2.1;rw [<- hET, iK (by rw [El2]; exact htk)] at H4;have hSt := yT.done HJ.out HX.out HL1.out.2.2.1 hn hc HI.out.Ab (some ⟨rb, 0, none⟩) (some ⟨nb, 0, none⟩) rc nc (gp psT c);have hF := fX.of (tk := tk + 1) El2 HL1.out.1 HJ.out.nl HJ.out.gi_ HT.out.1 (by have := HT.out.2.1; rw [CQ, iW] at this |-; rw [HL1.out.1, <- HZ.out.2.2.2.1]; exact this) HT.out.2.2.1 (by have := HT.out.2.2.2; rw [CQ, qJ] at this |-; rw [show nul1.length = n from HJ.out.nl, <- HZ.out.2.2.1]; exact this) hRow hrb hnb H4.m0 hnum;exact ⟨_, dT, true, _, rfl, H.bs, hF, fK.of (H.own (.row gF 87 [.slice (some ⟨rb, 0, none⟩) n rc, .slice (some ⟨nb, 0, none⟩) n nc, .bool tn1, .bool (gp psT c).1, .slice (gp psT c).2.1 (gp psT c).2.2.1 (gp psT c).2.2.2, .int .i64 ((tk + 1 : Nat) : Int)]) Cq rfl gF rfl) (H.own (.row rb 22 (hG m gs1 ++ tl1)) Cq rfl rb rfl) (H.own (.row nb 3 (iL nul1 ++ tl2)) Cq rfl nb rfl) (fun t ht => H4.own (.fh [] gs1 E2) Cq rfl _ ⟨t, ht, by simp, rfl⟩), .inr ⟨rfl, htk, nu1, hSt, HJ.out.rel⟩⟩
 . obtain rfl : n = p := by omega
   refine aA ?_;refine bh ?_;refine aT ?_;refine dB false ?_;refine dW ?_;refine AP ?_;refine AP ?_;refine uG ?_;refine uG ?_;refine uC ?_;refine uG ?_;refine aC ?_;refine kf ?_;refine aA ?_;refine bh ?_;refine aT ?_;refine kq ?_;refine aA ?_;refine aC ?_;refine dZ fun w' H => ?_;have hF := fX.of (tk := tk) HZ.out.1 HZ.out.2.2.2.1 HZ.out.2.2.1 HZ.out.2.2.2.2 HT.out.1 HT.out.2.1 HT.out.2.2.1 HT.out.2.2.2 (H.all (.row gF 87 [.slice (some ⟨rb, 0, none⟩) n rc, .slice (some ⟨nb, 0, none⟩) n nc, .bool tn, .bool lp.1, .slice lp.2.1 lp.2.2.1 lp.2.2.2, .int .i64 (tk : Int)]) Cq) (H.all (.row rb 22 (hG m gs ++ tl1)) Cq) (H.all (.row nb 3 (iL nul ++ tl2)) Cq) (H.all (.fh [] gs E) Cq) (H.all (.num (av lp) ls) Cq);exact ⟨_, dT, false, _, rfl, H.bs, hF, fun g hg => .inl hg, .inl ⟨rfl, rfl, HI.out.skip hc HP.out, HP.out⟩⟩
end Go.Proofs.YtjjlmfmoihooiaaGreat
