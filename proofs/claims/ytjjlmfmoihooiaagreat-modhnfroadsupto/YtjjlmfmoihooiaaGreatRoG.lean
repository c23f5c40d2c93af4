/- Part 7 of 8 of the proof that the law ModhnfRoads returns true for every input of bulk at most 1048576 and leaves its arguments as they were. -/
import Derived.Test.YtjjlmfmoihooiaaGreatRoA
import Derived.Test.YtjjlmfmoihooiaaGreatRoB
import Derived.Test.YtjjlmfmoihooiaaGreatRoC
import Derived.Test.YtjjlmfmoihooiaaGreatRoD
import Derived.Test.YtjjlmfmoihooiaaGreatRoE
import Derived.Test.YtjjlmfmoihooiaaGreatRoF
set_option linter.all false
set_option maxRecDepth 100000
set_option maxHeartbeats 8000000
namespace Go.Proofs.YtjjlmfmoihooiaaGreat
open Go.RowKit
def ya (c : Nat) (xs : List Int) (i j : Nat) : Int := gi xs (j * c + i)
def kY (r c : Nat) (xs : List Int) : List Int := aF r (ya c xs) (c * r)
theorem nA (r c : Nat) (xs : List Int) : (kY r c xs).length = c * r := aD ..
theorem A9 {r c : Nat} {xs : List Int} (hs : xs.length = r * c) {x : Int} (h : x ∈ kY r c xs) : x ∈ xs := by
 unfold kY aF at h;obtain ⟨q, hq, rfl⟩ := List.mem_map.1 h;have hq := List.mem_range.1 hq;have hr : 0 < r := by
  rcases Dn r with h | h
  . subst h; simp at hq
  . exact h
 refine dP ?_;rw [hs];exact zu (Dm _ hr) (EO (by rw [CE]; exact hq))
theorem y9 (r c i j g : Nat) (ao : Option Addr) (cap L : Nat) (xs : List Int) (w : World) (hr : r <= 64) (hc : c <= 64) (hi : i < c) (hj : j < r) (hg : aa w g 24 [.int .i64 (r : Int), .int .i64 (c : Int), .slice ao xs.length cap]) (hA : aQ w L ao xs) (hL : L <= 17592186044415) (hs : xs.length = r * c) :
 Calls Tryz.prog 101 #[.int .i64 (i : Int), .int .i64 (j : Int), .pointer (some ⟨g, 0, none⟩)] w fun e w' => (∃ v, e = .returned v /\ ai w' w.heap.size v (ya c xs i j)) /\ Below w.heap.size w w' := by
 have hlt := zu (r := r) (c := c) hj hi;have hrc : r * c <= 4096 := Da hr hc;obtain ⟨bx, ox, rfl⟩ := hA.pos (i := j * c + i) (by rw [hs]; exact hlt);obtain ⟨A, hA'⟩ : ∃ A, j * c = A := ⟨_, rfl⟩;obtain ⟨B, hB⟩ := Cs (A + i);have hBl : B < xs.length := by rw [hs, <- hB, <- hA']; exact hlt
 have hBl' : (B : Int) < (xs.length : Int) := by omega
 have hAs : j * c < 9223372036854775808 := by omega
 have hgl : A + i < 9223372036854775807 := by omega
 have e0 : ya c xs i j = gi xs B := by rw [ya, hA', hB]
 rw [e0];have HB : Hid (B < xs.length) := H5 hBl;clear hs hlt hrc e0 hBl;refine bN (S0 := fun _ => False) Tryz.func101 ((((Fr.nil _ w).l hA Cq).cl (hg.cell 2) (by simp [En.wr])).cl (hg.cell 1) (by simp [En.wr])) ?_;refine aA ?_;refine aW fun g5 => ?_;refine eW ?_;refine lE (L := L) (xs := xs) (b := bx) (o := ox) B Cq HB.out fun p => ?_;refine aA ?_;refine bh ?_;refine dW ?_;refine dE ((oI (a := j) (b := c) hAs).trans (by rw [hA'])) ?_;refine dW ?_;refine dE ((sO (a := A) (b := i) hgl).trans (by rw [hB])) ?_;refine aT ?_;refine cN (fun w' H => gz (av p) _ w' (H.m2.mono hL)) fun q => ?_;refine sW ?_;refine eQ ?_;refine dZ fun w' H => ?_;exact ⟨_, jh H.m4, ⟨_, rfl, H.m0⟩, H.below⟩
theorem yv (r c : Nat) (ao : Option Addr) (cap L : Nat) (xs : List Int) (w : World) (hr : r <= 64) (hc : c <= 64) (hA : aQ w L ao xs) (hL : L <= 17592186044415) (hs : xs.length = r * c) :
 Calls Tryz.prog 79 #[.agg #[.int .i64 (r : Int), .int .i64 (c : Int), .slice ao xs.length cap]] w fun e w' => (∃ p : Option Addr × Nat, e = .returned (.tuple #[.agg #[.int .i64 (c : Int), .int .i64 (r : Int), .slice p.1 (c * r) p.2], .int .i64 0]) /\ fq w' p.1 (kY r c xs) /\ True /\ ∀ b o, p.1 = some ⟨b, o, none⟩ -> w.heap.size <= b) /\ Below w.heap.size w w' := by
 have hC : ∀ w', Calls Tryz.prog 7 #[.agg #[.int .i64 (r : Int), .int .i64 (c : Int), .slice ao xs.length cap]] w' fun e w'' => e = .returned (.int .i64 0) /\ Below w'.heap.size w' w'' := fun w' => by
  have := cW (r : Int) (c : Int) ao xs.length cap w' Cp Cp;rw [dv (by unfold ba bL; rw [hs]; simp; omega)] at this; exact this
 have HS : Hid (xs.length = r * c) := H5 hs;clear hs;refine bN (S0 := fun _ => False) Tryz.func79 ((Fr.nil _ w).l hA Cq) ?_;refine aA ?_;refine aW fun g1 => ?_;refine aW fun g2 => ?_;refine aC ?_;refine dO ?_;refine cV (fun w' H => hC w') ?_;refine aC ?_;refine dO ?_;refine aC ?_;refine kf ?_;refine aA ?_;refine bh ?_;refine fW ?_;refine mU (α := Option Addr × Nat) (mk := fun p => .agg #[.int .i64 (c : Int), .int .i64 (r : Int), .slice p.1 (c * r) p.2]) (ao := fun p => p.1) (xs := fun _ => kY r c xs) (A := fun _ => True)
  (fun w' H => (ym 101 (fun _ _ => by go_simp) c r g1 (ya c xs) w' hc hr (fun i j w2 hi hj hb => by
   have h1 : aa w' g1 24 [.int .i64 (r : Int), .int .i64 (c : Int), .slice ao xs.length cap] := H.m1;have h2 : aQ w' L ao xs := H.m2;exact y9 r c i j g1 ao cap L xs w2 hr hc hi hj (h1.below hb h1.lt) (h2.below hb) hL HS.out)).mono (by
    rintro e w3 ⟨⟨ao', cap', rfl, hl, _, hS⟩, hb⟩;exact ⟨⟨(ao', cap'), rfl, hl, trivial, hS⟩, hb⟩)) fun q => ?_
 refine sW ?_;refine aC ?_;refine fk fun w' H => ?_;exact ⟨_, _, o0 H.m2, dT, ⟨q, rfl, H.m0, trivial, (show True /\ ∀ b o, q.1 = some ⟨b, o, none⟩ -> w.heap.size <= b from H.m1).2⟩, H.below⟩
theorem Fr.rep {S0 : Nat -> Prop} {w0 w w' : World} {e : En} {es X : List En} (h : Fr S0 w0 w (e :: es)) (hw : e.wr = true) (hc : aU e.S w w') (hT : Wl e.S w) (hX : ∀ x ∈ X, x.F w' /\ ∀ b, x.S b -> e.S b \/ w.heap.size <= b) (hp : X.Pairwise Ap) : Fr S0 w0 w' (X ++ es) := by
 obtain ⟨e0, he0⟩ : ∃ e0 : En, e0 = .fact false true (fun b => (e.S b \/ w.heap.size <= b) /\ b < w'.heap.size) (fun w'' => w'.heap.size <= w''.heap.size) (fun h b hb => CK hb.2 h) (fun h hc _ _ => Cw h hc.size) := ⟨_, rfl⟩;have h1 : Fr S0 w0 w' (e0 :: es) := h.bU (e' := e0) hw hc (fun _ _ _ => hT) (fun _ h => h) (by subst he0; exact Ct _) (fun b hb => by subst he0; exact hb.1);exact h1.o6 (by subst he0; rfl) (fun x hx => ⟨(hX x hx).1, fun b hb => by subst he0; exact ⟨(hX x hx).2 b hb, En.lt (hX x hx).1 b hb⟩⟩) hp
section
variable {P : Program} {ops : Array Oper} {Q : Exit -> Act -> World -> Prop} {ds : List Deferred} {S0 : Nat -> Prop} {w0 : World} {E0 : List En} {hd : List (List Nat)} {n j s : Nat} {l : List Nat} {G E : List En} {ls : List (Nat × Value)} {op : Op} {ty : TypeId} {pos : String} {af : Array Edge} {f : FuncId} {args : Array Value}
theorem cRep {α : Type} {mk : α -> Value} {e : En} {ens : α -> List En}
 (c : ∀ w, Fr S0 w0 w ((e :: G) ++ E) -> Calls P f args w fun r w' => ∃ p, r = .returned (mk p) /\ aU e.S w w' /\ (∀ x ∈ ens p, x.F w' /\ ∀ b, x.S b -> e.S b \/ w.heap.size <= b) /\ (ens p).Pairwise Ap)
 (hwl : ∀ w, e.F w -> Wl e.S w)
 (k : ∀ p, dY ds ⟨P, ops, Q, S0, w0, E0, hd⟩ n l (ens p ++ G) E ((s, mk p) :: ls))
 (hwr : e.wr = true := by rfl) (hne : Nonempty α := by infer_instance)
 (ho : ops[j]? = some ⟨some s, op, ty, pos, af, none⟩ := by rfl) (hk : (!bY op && !dD op && ew ls op && Nat.blt s n) = true := by kernel_rfl)
 (hr : ∀ w, (execOp (dy ls) ⟨some s, op, ty, pos, af, none⟩).run P w = .ok (.enter f args) w := by intro w; (try simp only [av]); go_simp <;> with_reducible rfl)
 (hst : fU ops hd j [] = true := by kernel_rfl) : dY ds ⟨P, ops, Q, S0, w0, E0, hd⟩ n (j :: l) (e :: G) E ls := fun a ha => by
 simp only [CO, DE] at hk;refine ⟨_, ho, .inr (.inr ⟨hk.1.1.1, hk.1.1.2, α, mk, fun p => ens p ++ G, fun _ => E, [], hne, fun X w hX hw => ?_, hst, fun _ _ _ => rfl, fun p => k p _ (ha.put (CR hk.2) _)⟩)⟩;refine zm rfl ?_;show om P _ ((execOp a.eval _).run P w);rw [ha.exec hk.1.2, hr w];have hw1 : Fr S0 w0 w (e :: (X ++ (G ++ E))) := hw.perm (DP (l₁ := X) (l₂ := G ++ E));refine (c w (hw.sub (DN ..))).mono ?_;rintro r w' ⟨p, rfl, hc, hX', hp⟩;refine ⟨_, rfl, p, rfl, (hw1.rep hwr hc (hwl w hw1.m0) hX' hp).perm ?_⟩;rw [EL];exact EB (ens p) X (G ++ E)
end
theorem fX.wl {gF m : Nat} {z : jo} {w : World} (h : fX gF m z w) : Wl (fK gF z) w := fun _ hg => h.rows hg
theorem uA (gF n m c k mw : Nat) (z : jo) (A : Mx) (nu cs : Nat -> Nat) (w : World) (hn : n <= 64) (hm : m <= 64) (hc : c < m) (hmw : mw <= 1048577) (hI : oD n m mw A c k nu cs z) (h : fX gF m z w) :
 Calls Tryz.prog 60 #[.pointer (some ⟨gF, 0, none⟩), .int .i64 (c : Int)] w fun e w' => ∃ p : Bool × jo, e = .returned (.bool p.1) /\ aU (fK gF z) w w' /\ fX gF m p.2 w' /\ (∀ g, fK gF p.2 g -> fK gF z g \/ w.heap.size <= g) /\ xy n m mw A c k nu cs z p.1 p.2 := by
 rcases Dn n with rfl | h0
 . exact (As gF m c k mw z A nu cs w hc hI h).mono fun e w' ⟨b, z', q⟩ => ⟨(b, z'), q⟩
 . exact (zv gF n m c k mw z A nu cs w h0 hn hm hc hmw hI h).mono fun e w' ⟨b, z', q⟩ => ⟨(b, z'), q⟩
theorem x6 (k c : Nat) (cs : Nat -> Nat) : (List.range (k + 1)).map (mF cs k c) = (List.range k).map cs ++ [c] := by
 rw [Ey, List.map_append];congr 1
 . exact List.map_congr_left fun t ht => eC (List.mem_range.1 ht)
 . simp [kC]
structure RnX where
 c : Nat
 k : Nat
 z : jo
 nu : Nat -> Nat
 cs : Nat -> Nat
 lo : Option Addr
 lc : Nat
structure RnI (n m mw : Nat) (A : Mx) (x : RnX) : Prop where
 hc : x.c <= m
 st : oD n m mw A x.c x.k x.nu x.cs x.z
theorem BW (gF n m mw : Nat) (z : jo) (A : Mx) (nu cs : Nat -> Nat) (w : World) (hn : n <= 64) (hm : m <= 64) (hmw : mw <= 1048577) (hI : oD n m mw A 0 0 nu cs z) (h : fX gF m z w) :
 Calls Tryz.prog 80 #[.pointer (some ⟨gF, 0, none⟩), .int .i64 (m : Int)] w fun e w' => ∃ p : (Option Addr × Nat) × Nat × jo × (Nat -> Nat) × (Nat -> Nat), e = .returned (.slice p.1.1 p.2.1 p.1.2) /\ aU (fK gF z) w w' /\ mL 3 1 p.1.1 p.2.1 p.1.2 (iL ((List.range p.2.1).map p.2.2.2.2)) w' /\ (∀ b o, p.1.1 = some ⟨b, o, none⟩ -> fK gF z b \/ w.heap.size <= b) /\ oD n m mw A m p.2.1 p.2.2.2.1 p.2.2.2.2 p.2.2.1 := by
 have HI := H5 hI;clear hI;refine bN (S0 := fK gF z) Tryz.func80 (Fr.fldS h) ?_;clear h;refine aA ?_;refine aC ?_;refine rW [] ?_;refine aC ?_;refine dO ?_;refine aC ?_;refine zU (te := 3) (sz := 1) ?_;refine cF (X := RnX) (RnI n m mw A) (fun x => m - x.c) (fun x => [(8, .int .i64 (x.c : Int)), (7, .int .i64 (m : Int)), (5, .slice x.lo x.k x.lc), (0, .pointer (some ⟨gF, 0, none⟩))]) (fun x => [.lg 3 1 x.lo x.k x.lc (iL ((List.range x.k).map x.cs)), .sC gF m x.z]) ⟨0, 0, z, nu, cs, none, 0⟩ ⟨Cx _, HI.out⟩ fun x hx => ?_;obtain ⟨c, k, z1, nu1, cs1, lo, lc⟩ := x;have hc : c <= m := hx.hc;have HX : Hid (oD n m mw A c k nu1 cs1 z1) := H5 hx.st;have hk : k <= 64 := by have := hx.st.br.kn; have : k <= n := this; omega
 clear hx;by_cases h : c < m
 . have h01 : (c : Int) < (m : Int) := by omega
   refine aA ?_;refine kq ?_;refine aA ?_;refine dW ?_;refine aC ?_;refine rW [] ?_;refine aT ?_;refine cUp (α := Bool × jo) (mk := fun p => .bool p.1) (e := .sC gF m z1) (e' := fun p => .sC gF m p.2) (ens := fun p => [.pr (xy n m mw A c k nu1 cs1 z1 p.1 p.2)]) (fun w' H => (uA gF n m c k mw z1 A nu1 cs1 w' hn hm h hmw HX.out (H.all (.sC gF m z1) Cq)).mono fun e w'' ⟨p, he, q1, q2, q3, q4⟩ => ⟨p, he, q1, q2, q3, fun x hx => by rcases List.mem_singleton.1 hx with rfl; exact ⟨q4, fun _ h => h⟩⟩) (fun w h => fX.wl h) (hne := ⟨(false, z1)⟩) fun p => ?_;refine eQ ?_;refine r6 (A := xy n m mw A c k nu1 cs1 z1 p.1 p.2) Cq fun hs => ?_;obtain ⟨b, z2⟩ := p
   replace hs : xy n m mw A c k nu1 cs1 z1 b z2 := hs
   by_cases hb : b = true
   . subst hb;have hs2 := hs.resolve_left fun q => nomatch q.1;obtain ⟨_, hkn, nu2, hst, _⟩ := hs2;have HST := H5 hst;clear hst hs;refine jY ?_;refine nM ?_;refine aA ?_;refine aT ?_;refine bW (m := 1) fun g16 => ?_;refine Am (k := k) (cap := lc) (g := g16) (c := 1) (ao := lo) (cs := iL ((List.range k).map cs1)) (v := .int .i64 (c : Int)) Tryz.underlying34 tZ rfl (qn (.int .i64 0) rfl (fun n h => nomatch h)) Cp Cp rfl ⟨iX _, by decide⟩ Cq fun u => ?_;refine aC ?_;refine rW [] ?_;refine dE (dL (a := c) Cp) ?_;refine aC ?_;exact cD (⟨c + 1, k + 1, z2, nu2, mF cs1 k c, u.1, u.2⟩ : RnX) ⟨⟨h, HST.out⟩, by show m - (c + 1) < m - c; omega⟩ (he := by
      intro w' h';rw [uU, <- x6] at h';exact h'.pick (by repeat (first | exact Pk.n | refine Pk.c (by repeat (first | exact Rm.z | apply Rm.s)) ?_)))
   . have hb' : b = false := by simpa using hb
     subst hb';have hs2 := hs.resolve_right fun q => nomatch q.1;obtain ⟨_, _, hst, _⟩ := hs2;have HST := H5 hst;clear hst hs hb;refine jY ?_;refine kf ?_;refine aA ?_;refine dE (dL (a := c) Cp) ?_;refine aC ?_;exact cD (⟨c + 1, k, z2, nu1, cs1, lo, lc⟩ : RnX) ⟨⟨h, HST.out⟩, by show m - (c + 1) < m - c; omega⟩
 . obtain rfl : m = c := by omega
   refine aA ?_;refine fC ?_;refine aA ?_;refine dW ?_;refine aC ?_;refine dZ fun w' H => ?_;exact ⟨_, dT, ((lo, lc), k, z1, nu1, cs1), rfl, H.bs, H.m0, fun b o e => H.own (.lg 3 1 lo k lc (iL ((List.range k).map cs1))) Cq rfl b ⟨o, e⟩, HX.out⟩
theorem nU {n m i : Nat} {xs : List Int} (hi : i < n) : (cM n m xs).getD i [] = rowOf xs m i := by simp [cM, hi]
theorem rU {n m i j : Nat} {xs : List Int} (hi : i < n) (hj : j < m) : bP (cM n m xs) i j = au xs n m i j := by
 unfold bP gi;rw [nU hi, kz _ _ _ _ hj, bE hi hj]
theorem iU {w : World} {ao : Option Addr} {xs : List Int} {B : Nat} (h : aQ w B ao xs) : ∀ x ∈ xs, x.natAbs < W ^ B := fun x hx => by
 obtain ⟨i, hi, rfl⟩ := Dh hx;obtain ⟨b, o, _, _, hc⟩ := h Cp;obtain ⟨q, _, _, hI⟩ := hc i hi;exact CK (bF _) (CU Cr hI.ag)
theorem oD.start {n m mw : Nat} {xs : List Int} {z : jo} (cs : Nat -> Nat) (hs : xs.length = n * m) (hb : ∀ x ∈ xs, x.natAbs < W ^ mw) (h : z.E = cM n m xs /\ z.ls = 1 /\ z.tn = false /\ z.tk = 0 /\ z.nu.length = n) : oD n m mw (au xs n m) 0 0 (fun i => i) cs z := by
 obtain ⟨h1, h2, _, h3, h4⟩ := h;have hA : ∀ i j, (au xs n m i j).natAbs < W ^ mw := fun i j => iS (DF (by unfold W; omega)) hb i j;refine ⟨by rw [h1, ef], fun t ht => by rw [h1, nU ht]; exact eh hs ht, h4, h3, ?_, fun i j => Dg (hA i j), fun t ht j => ?_, ?_⟩
 . rw [h2, h1]; exact iV.start cs fun i hi j hj => rU hi hj
 . rw [h1];by_cases hj : j < m
   . rw [rU ht hj]; exact Cw (an (hA t j)) Cp
   . have : bP (cM n m xs) t j = 0 := by
      unfold bP gi;rw [nU ht]; exact fI _ _ (by rw [eh hs ht]; omega)
     rw [this]; simp [bb]
 . rw [h2]; exact Cw (an (k := 1) (by unfold W; decide)) Cp
def fN (n m : Nat) (A : Mx) (k : Nat) (cs : Nat -> Nat) : Prop := ∃ nu R d, iV n m A m k nu cs R d
theorem xU (n m nm mw cap : Nat) (ao : Option Addr) (xs : List Int) (w : World) (hn : n <= 64) (hm : m <= 64) (hmw : mw <= 1048577) (hA : aQ w mw ao xs) (hs : xs.length = n * m) (hnm : xs.length = nm) :
 Calls Tryz.prog 47 #[.agg #[.int .i64 (n : Int), .int .i64 (m : Int), .slice ao nm cap]] w fun e w' => ∃ p : (Option Addr × Nat) × Nat × (Nat -> Nat), e = .returned (.tuple #[.slice p.1.1 p.2.1 p.1.2, .int .i64 0]) /\ Nw w w' [.lg 3 1 p.1.1 p.2.1 p.1.2 (iL ((List.range p.2.1).map p.2.2)), .pr (fN n m (au xs n m) p.2.1 p.2.2)] := by
 have hxb := iU hA;have hC : ∀ w', Calls Tryz.prog 7 #[.agg #[.int .i64 (n : Int), .int .i64 (m : Int), .slice ao nm cap]] w' fun e w'' => e = .returned (.int .i64 0) /\ Below w'.heap.size w' w'' := fun w' => by
  have := cW (n : Int) (m : Int) ao nm cap w' Cp Cp;rw [dv (by unfold ba bL; rw [<- hnm, hs]; simp; omega)] at this; exact this
 have hO := fun w' (h : aQ w' mw ao xs) => Bb n m nm mw cap ao xs w' hn hm h Cp hs hnm (fun x hx => Cw (an (hxb x hx)) Cp);have hst := fun (z : jo) h => oD.start (n := n) (m := m) (mw := mw) (xs := xs) (z := z) (fun _ => 0) hs hxb h;have HC := H5 (Cv hC (Cv hO hst));clear hC hO hst hxb hs hnm;refine bN (S0 := fun _ => False) Tryz.func47 ((Fr.nil _ w).l hA Cq) ?_;refine aA ?_;refine aW fun g1 => ?_;refine dW ?_;refine aC ?_;refine dO ?_;refine cV (v := .int .i64 0) (fun w' H => HC.out.1 w') ?_;refine aC ?_;refine dO ?_;refine fC ?_;refine aA ?_;refine dW ?_;refine cG (α := Nat × jo) (mk := fun q => .pointer (some ⟨q.1, 0, none⟩)) (ens := fun q => [.sC q.1 m q.2, .pr (q.2.E = cM n m xs /\ q.2.ls = 1 /\ q.2.tn = false /\ q.2.tk = 0 /\ q.2.nu.length = n)]) (hne := ⟨(0, ⟨none, 0, none, 0, [], [], [], false, p0, 0, 0⟩)⟩) (fun w' H => (HC.out.2.1 w' (H.all (.ls mw ao xs) Cq)).mono fun e w'' ⟨q, he, hnw, hq⟩ => ⟨q, he, hnw.1, fun e he => by
  rcases List.mem_cons.1 he with rfl | he
  . exact hnw.2.1 _ (List.mem_singleton.2 rfl)
  . rcases List.mem_singleton.1 he with rfl;exact ⟨hq, fun _ h => h.elim⟩, .cons (fun x hx => by rcases List.mem_singleton.1 hx with rfl; exact ⟨fun _ _ _ h => h, fun q => nomatch q⟩) (CM ..)⟩) fun q => ?_
 refine aT ?_;refine cRep (α := (Option Addr × Nat) × Nat × (Nat -> Nat)) (mk := fun p => .slice p.1.1 p.2.1 p.1.2) (e := .sC q.1 m q.2) (ens := fun p => [.lg 3 1 p.1.1 p.2.1 p.1.2 (iL ((List.range p.2.1).map p.2.2)), .pr (fN n m (au xs n m) p.2.1 p.2.2)]) (hne := ⟨((none, 0), 0, fun _ => 0)⟩) (fun w' H => (BW q.1 n m mw q.2 (au xs n m) _ _ w' hn hm hmw (HC.out.2.2 q.2 H.m1) H.m0).mono fun e w'' ⟨p, he, q1, q2, q3, q4⟩ => ⟨(p.1, p.2.1, p.2.2.2.2), he, q1, fun x hx => by
  rcases List.mem_cons.1 hx with rfl | hx
  . exact ⟨q2, fun b ⟨o, e⟩ => q3 b o e⟩
  . rcases List.mem_singleton.1 hx with rfl;exact ⟨⟨_, _, _, q4.br⟩, fun _ h => h.elim⟩, .cons (fun x hx => by rcases List.mem_singleton.1 hx with rfl; exact ⟨fun _ _ _ h => h, fun q => nomatch q⟩) (CM ..)⟩) (fun w h => fX.wl h) fun p => ?_
 refine dW ?_;refine aC ?_;refine fk fun w' H => ?_;refine ⟨_, _, dT, dT, p, rfl, H.below, fun e he => ?_, .cons (fun x hx => by rcases List.mem_singleton.1 hx with rfl; exact ⟨fun _ _ _ h => h, fun q => nomatch q⟩) (CM ..)⟩;rcases List.mem_cons.1 he with rfl | he
 . exact ⟨H.m0, fun b hb => (H.own _ (CC ..) rfl b hb).elim (fun h => h.elim) id⟩
 . rcases List.mem_singleton.1 he with rfl;exact ⟨H.m1, fun _ h => h.elim⟩
theorem wj (n m nm mw cap : Nat) (ao : Option Addr) (xs : List Int) (w : World) (hn : n <= 64) (hm : m <= 64) (hmw : mw <= 1048577) (hA : aQ w mw ao xs) (hs : xs.length = n * m) (hnm : xs.length = nm) :
 Calls Tryz.prog 46 #[.agg #[.int .i64 (n : Int), .int .i64 (m : Int), .slice ao nm cap]] w fun e w' => ∃ p : (Option Addr × Nat) × Nat × (Nat -> Nat), e = .returned (.tuple #[.slice p.1.1 p.2.1 p.1.2, .int .i64 0]) /\ Nw w w' [.lg 3 1 p.1.1 p.2.1 p.1.2 (iL ((List.range p.2.1).map p.2.2)), .pr (fN m n (au (kY n m xs) m n) p.2.1 p.2.2)] := by
 have hxb := iU hA;have hT := fun w' (h : aQ w' mw ao xs) => by
  have := yv n m ao cap mw xs w' hn hm h Cp hs;rw [hnm] at this; exact this
 have hP := fun p cp w' (h : fq w' p (kY n m xs)) => xU m n (m * n) mw cp p (kY n m xs) w' hm hn hmw (h.iR fun x hx => an (hxb x (A9 hs hx))) (nA ..) (nA ..);have HC := H5 (Cv hT hP);clear hT hP hxb hs hnm;refine bN (S0 := fun _ => False) Tryz.func46 ((Fr.nil _ w).l hA Cq) ?_;refine aA ?_;refine aW fun g1 => ?_;refine dW ?_;refine aC ?_;refine dO ?_;refine mU (α := Option Addr × Nat) (mk := fun p => .tuple #[.agg #[.int .i64 (m : Int), .int .i64 (n : Int), .slice p.1 (m * n) p.2], .int .i64 0]) (ao := fun p => p.1) (xs := fun _ => kY n m xs) (A := fun _ => True) (fun w' H => HC.out.1 w' (H.all (.ls mw ao xs) Cq)) fun t => ?_;refine aT ?_;refine dW ?_;refine aW fun g4 => ?_;refine sG ?_;refine aC ?_;refine dO ?_;refine fC ?_;refine aA ?_;refine dW ?_;refine cG (α := (Option Addr × Nat) × Nat × (Nat -> Nat)) (mk := fun p => .tuple #[.slice p.1.1 p.2.1 p.1.2, .int .i64 0]) (ens := fun p => [.lg 3 1 p.1.1 p.2.1 p.1.2 (iL ((List.range p.2.1).map p.2.2)), .pr (fN m n (au (kY n m xs) m n) p.2.1 p.2.2)]) (hne := ⟨((none, 0), 0, fun _ => 0)⟩) (fun w' H => HC.out.2 t.1 t.2 w' (H.all (.jn t.1 (kY n m xs)) Cq)) fun p => ?_;refine bh ?_;refine eQ ?_;refine fk fun w' H => ?_;refine ⟨_, _, dT, dT, p, rfl, H.below, fun e he => ?_, .cons (fun x hx => by rcases List.mem_singleton.1 hx with rfl; exact ⟨fun _ _ _ h => h, fun q => nomatch q⟩) (CM ..)⟩;rcases List.mem_cons.1 he with rfl | he
 . exact ⟨H.m0, fun b hb => (H.own _ (CC ..) rfl b hb).elim (fun h => h.elim) id⟩
 . rcases List.mem_singleton.1 he with rfl;exact ⟨H.m1, fun _ h => h.elim⟩
def yP (b : Bool) : Int := if b then -1 else 1
structure DeX where
 c : Nat
 z : jo
 nu : Nat -> Nat
 cs : Nat -> Nat
structure DeI (n mw : Nat) (A : Mx) (x : DeX) : Prop where
 hc : x.c <= n
 st : oD n n mw A x.c x.c x.nu x.cs x.z
 sg : aS n (fun a b => A (x.nu a) b) * yP x.z.tn = aS n A
theorem DeI.next {n mw c : Nat} {A : Mx} {nu cs nu' : Nat -> Nat} {z z' : jo} (h : DeI n mw A ⟨c, z, nu, cs⟩) (hc : c < n) (hst : oD n n mw A (c + 1) (c + 1) nu' (mF cs c c) z') (hr : (z'.tn = z.tn /\ nu' = nu) \/ (z'.tn = !z.tn /\ ∃ p, c < p /\ p < n /\ nu' = fun i => nu (mb c p i))) : DeI n mw A ⟨c + 1, z', nu', mF cs c c⟩ := by
 refine ⟨hc, hst, ?_⟩;have h0 : aS n (fun a b => A (nu a) b) * yP z.tn = aS n A := h.sg;show aS n (fun a b => A (nu' a) b) * yP z'.tn = aS n A;rcases hr with ⟨e1, e2⟩ | ⟨e1, p, h1, h2, e2⟩
 . rw [e1, e2]; exact h0
 . rw [e1, e2, <- h0, zM (B := fun a b => A (nu a) b) hc h2 Cp];cases z.tn <;> simp [yP, Du, Ew]
theorem Cd (n nm mw cap : Nat) (ao : Option Addr) (xs : List Int) (w : World) (hn : n <= 64) (hmw : mw <= 1048577) (hA : aQ w mw ao xs) (hs : xs.length = n * n) (hnm : xs.length = nm) :
 Calls Tryz.prog 27 #[.agg #[.int .i64 (n : Int), .int .i64 (n : Int), .slice ao nm cap]] w fun e w' => (∃ v', e = .returned (.tuple #[v', .int .i64 0]) /\ ai w' w.heap.size v' (aS n (au xs n n))) /\ Below w.heap.size w w' := by
 have hxb := iU hA;have hC : ∀ w', Calls Tryz.prog 7 #[.agg #[.int .i64 (n : Int), .int .i64 (n : Int), .slice ao nm cap]] w' fun e w'' => e = .returned (.int .i64 0) /\ Below w'.heap.size w' w'' := fun w' => by
  have := cW (n : Int) (n : Int) ao nm cap w' Cp Cp;rw [dv (by unfold ba bL; rw [<- hnm, hs]; simp; omega)] at this; exact this
 have hO := fun w' (h : aQ w' mw ao xs) => Bb n n nm mw cap ao xs w' hn hn h Cp hs hnm (fun x hx => Cw (an (hxb x hx)) Cp);have hst : ∀ z : jo, (z.E = cM n n xs /\ z.ls = 1 /\ z.tn = false /\ z.tk = 0 /\ z.nu.length = n) -> DeI n mw (au xs n n) ⟨0, z, fun i => i, fun _ => 0⟩ := fun z h => ⟨Cx _, oD.start (fun _ => 0) hs hxb h, by show aS n (fun a b => au xs n n a b) * yP z.tn = _; rw [h.2.2.1]; simp [yP]⟩;have HC := H5 (Cv hC (Cv hO hst));obtain ⟨A, hA'⟩ : ∃ A, au xs n n = A := ⟨_, rfl⟩;rw [hA'] at HC |-;clear hC hO hst hxb hs hnm hA';refine bN (S0 := fun _ => False) Tryz.func27 ((Fr.nil _ w).l hA Cq) ?_;refine aA ?_;refine aW fun g1 => ?_;refine aW fun g2 => ?_;refine aC ?_;refine dO ?_;refine cV (v := .int .i64 0) (fun w' H => HC.out.1 w') ?_;refine aC ?_;refine dO ?_;refine fC ?_;refine aA ?_;refine bh ?_;refine fC ?_;refine aA ?_;refine dW ?_;refine cG (α := Nat × jo) (mk := fun q => .pointer (some ⟨q.1, 0, none⟩)) (ens := fun q => [.sC q.1 n q.2, .pr (q.2.E = cM n n xs /\ q.2.ls = 1 /\ q.2.tn = false /\ q.2.tk = 0 /\ q.2.nu.length = n)]) (hne := ⟨(0, ⟨none, 0, none, 0, [], [], [], false, p0, 0, 0⟩)⟩) (fun w' H => (HC.out.2.1 w' (H.all (.ls mw ao xs) Cq)).mono fun e w'' ⟨q, he, hnw, hq⟩ => ⟨q, he, hnw.1, fun e he => by
  rcases List.mem_cons.1 he with rfl | he
  . exact hnw.2.1 _ (List.mem_singleton.2 rfl)
  . rcases List.mem_singleton.1 he with rfl;exact ⟨hq, fun _ h => h.elim⟩, .cons (fun x hx => by rcases List.mem_singleton.1 hx with rfl; exact ⟨fun _ _ _ h => h, fun q => nomatch q⟩) (CM ..)⟩) fun q => ?_
 refine aC ?_;refine r6 (A := q.2.E = cM n n xs /\ q.2.ls = 1 /\ q.2.tn = false /\ q.2.tk = 0 /\ q.2.nu.length = n) Cq fun hq => ?_;obtain ⟨gF, z⟩ := q;have HD := H5 (HC.out.2.2 z hq);clear hq;refine er (es' := [.row g1 24 [.int .i64 (n : Int), .int .i64 (n : Int), .slice ao nm cap], .row g2 37 [.bool false, .slice none 0 0], .sC gF n z]) ?_;refine rW [] ?_;refine aT ?_;refine aC ?_;refine cF (X := DeX) (DeI n mw A) (fun x => n - x.c) (fun x => [(23, .int .i64 (x.c : Int)), (22, .int .i64 (n : Int)), (5, .pointer (some ⟨gF, 0, none⟩)), (1, .pointer (some ⟨g1, 0, none⟩)), (2, .pointer (some ⟨g2, 0, none⟩)), (3, .int .i64 0)]) (fun x => [.row g1 24 [.int .i64 (n : Int), .int .i64 (n : Int), .slice ao nm cap], .row g2 37 [.bool false, .slice none 0 0], .sC gF n x.z]) ⟨0, z, fun i => i, fun _ => 0⟩ HD.out fun x hx => ?_;obtain ⟨c, z1, nu1, cs1⟩ := x;have hc : c <= n := hx.hc;have HX : Hid (DeI n mw A ⟨c, z1, nu1, cs1⟩) := H5 hx;clear hx;by_cases h : c < n
 . have h01 : (c : Int) < (n : Int) := by omega
   refine aA ?_;refine kq ?_;refine aA ?_;refine dW ?_;refine aC ?_;refine rW [] ?_;refine aT ?_;refine cUp (α := Bool × jo) (mk := fun p => .bool p.1) (e := .sC gF n z1) (e' := fun p => .sC gF n p.2) (ens := fun p => [.pr (xy n n mw A c c nu1 cs1 z1 p.1 p.2)]) (fun w' H => (uA gF n n c c mw z1 A nu1 cs1 w' hn hn h hmw HX.out.st (H.all (.sC gF n z1) Cq)).mono fun e w'' ⟨p, he, q1, q2, q3, q4⟩ => ⟨p, he, q1, q2, q3, fun x hx => by rcases List.mem_singleton.1 hx with rfl; exact ⟨q4, fun _ h => h⟩⟩) (fun w h => fX.wl h) (hne := ⟨(false, z1)⟩) fun p => ?_;refine aC ?_;refine r6 (A := xy n n mw A c c nu1 cs1 z1 p.1 p.2) Cq fun hs => ?_;obtain ⟨b, z2⟩ := p
   replace hs : xy n n mw A c c nu1 cs1 z1 b z2 := hs
   by_cases hb : b = true
   . subst hb;have hs2 := hs.resolve_left fun q => nomatch q.1;obtain ⟨_, hkn, nu2, hst, hrel⟩ := hs2;have HST := H5 (HX.out.next h hst hrel);clear hst hs hrel;refine jY ?_;refine kf ?_;refine aA ?_;refine dE (dL (a := c) Cp) ?_;refine aC ?_;exact cD (⟨c + 1, z2, nu2, mF cs1 c c⟩ : DeX) ⟨HST.out, by show n - (c + 1) < n - c; omega⟩
   . have hb' : b = false := by simpa using hb
     subst hb';have hs2 := hs.resolve_right fun q => nomatch q.1;obtain ⟨_, _, _, h0⟩ := hs2;have hd : aS n A = 0 := by rw [<- HX.out.sg, HX.out.st.br.det0 h h0, De]
     have HDZ := H5 hd;clear hd hs hb h0;refine jY ?_;refine nM ?_;refine aA ?_;refine dW ?_;refine sW ?_;refine aC ?_;refine fk fun w' H => ?_;exact ⟨_, _, jh (H.all (.row g2 37 [.bool false, .slice none 0 0]) Cq), dT, ⟨_, rfl, by rw [HDZ.out]; exact ai.zero _ _⟩, H.below⟩
 . obtain rfl : n = c := by omega
   refine aA ?_;refine dB false ?_;have hdt : z1.ls * yP z1.tn = aS n A := by rw [HX.out.st.br.aS (s := 0)]; exact HX.out.sg
   have hlw : ag z1.ls.natAbs <= 17592186044415 := Cw HX.out.st.lb Cp;have HDT := H5 (Cv hdt hlw);clear hdt hlw;refine eQ ?_;obtain ⟨ro, rc, no, nc, gs, E, nul, tn, lp, ls, tk⟩ := z1;refine Ao (es' := [.cell ⟨gF, 2, none⟩ (.bool tn), .cell ⟨gF, 3, none⟩ (.bool lp.1), .cell ⟨gF, 4, none⟩ (.slice lp.2.1 lp.2.2.1 lp.2.2.2), .num (av lp) ls, .row g1 24 [.int .i64 (n : Int), .int .i64 (n : Int), .slice ao nm cap], .row g2 37 [.bool false, .slice none 0 0]]) (fun w' h' => by
    have h2 : Fr _ w w' (.sC gF n ⟨ro, rc, no, nc, gs, E, nul, tn, lp, ls, tk⟩ :: [.row g1 24 [.int .i64 (n : Int), .int .i64 (n : Int), .slice ao nm cap], .row g2 37 [.bool false, .slice none 0 0]]) := h'.pick (by repeat (first | exact Pk.n | refine Pk.c (by repeat (first | exact Rm.z | apply Rm.s)) ?_));have hF : fX gF n ⟨ro, rc, no, nc, gs, E, nul, tn, lp, ls, tk⟩ w' := h2.m0;have hr : aa w' gF _ (yE ⟨ro, rc, no, nc, gs, E, nul, tn, lp, ls, tk⟩) := hF.1.1;refine h2.o6 (X := [.cell ⟨gF, 2, none⟩ (.bool tn), .cell ⟨gF, 3, none⟩ (.bool lp.1), .cell ⟨gF, 4, none⟩ (.slice lp.2.1 lp.2.2.1 lp.2.2.2), .num (av lp) ls]) rfl (fun x hx => ?_) (List.pairwise_of_forall_mem_list fun a ha b hb => ?_)
    . simp only [Di, CX, or_false] at hx;rcases hx with rfl | rfl | rfl | rfl
      . exact ⟨hr.cell 2, fun b e => .inl e⟩
      . exact ⟨hr.cell 3, fun b e => .inl e⟩
      . exact ⟨hr.cell 4, fun b e => .inl e⟩
      . exact ⟨hF.1.2.2.2.2, fun b e => e.elim⟩
    . have hw : ∀ x ∈ [En.cell ⟨gF, 2, none⟩ (.bool tn), .cell ⟨gF, 3, none⟩ (.bool lp.1), .cell ⟨gF, 4, none⟩ (.slice lp.2.1 lp.2.2.1 lp.2.2.2), .num (av lp) ls], x.wr = false := fun x hx => by
       simp only [Di, CX, or_false] at hx;rcases hx with rfl | rfl | rfl | rfl <;> rfl
      exact ⟨(fun q => by rw [hw a ha] at q; cases q), (fun q => by rw [hw b hb] at q; cases q)⟩) ?_
   replace HDT : Hid (ls * yP tn = aS n A /\ ag ls.natAbs <= 17592186044415) := HDT
   by_cases htn : tn = true
   . subst htn;refine jY ?_;refine kf ?_;refine aA ?_;refine bh ?_;refine eQ ?_;refine nM ?_;refine aA ?_;refine bh ?_;refine cN (x := -ls) (fun w' H => iY (av lp) ls w' (aL.int (H.all (.num (av lp) ls) Cq) HDT.out.2)) fun p => ?_;refine sW ?_;refine aC ?_;refine fk fun w' H => ?_;exact ⟨_, _, jh (H.all (.row g2 37 [.bool p.1, .slice p.2.1 p.2.2.1 p.2.2.2]) Cq), dT, ⟨_, rfl, by have e := HDT.out.1; simp [yP] at e; rw [<- e]; exact H.all (.own w.heap.size (av p) (-ls)) (by simp [av])⟩, H.below⟩
   . have htn' : tn = false := by simpa using htn
     subst htn';clear htn;refine jY ?_;refine kf ?_;refine aA ?_;refine bh ?_;refine eQ ?_;refine kf ?_;refine aA ?_;refine bh ?_;refine cN (x := ls) (fun w' H => gz (av lp) ls w' (aL.int (H.all (.num (av lp) ls) Cq) HDT.out.2)) fun p => ?_;refine sW ?_;refine aC ?_;refine fk fun w' H => ?_;exact ⟨_, _, jh (H.all (.row g2 37 [.bool p.1, .slice p.2.1 p.2.2.1 p.2.2.2]) Cq), dT, ⟨_, rfl, by have e := HDT.out.1; simp [yP] at e; rw [<- e]; exact H.all (.own w.heap.size (av p) ls) (by simp [av])⟩, H.below⟩
section
variable {P : Program} {S0 : Nat -> Prop} {w0 : World} {n : Nat} {ls : List (Nat × Value)} {es : List En} {fn : Func} {R : Ending -> World -> Prop}
theorem fin4 {a b c d : Nat} {ty : TypeId} (k : ∀ w, Fr S0 w0 w es -> ∃ v v' v2 v3, fm P ls w (.tmp a) v /\ fm P ls w (.tmp b) v' /\ fm P ls w (.cell c ty) v2 /\ fm P ls w (.tmp d) v3 /\ R (.returned (.tuple #[v, v', v2, v3])) w) (h : fn.results = #[.tmp a, .tmp b, .cell c ty, .tmp d] := by rfl) : QW n S0 w0 (bodyPost P fn R) .ret ls es := fun a w ha hw => by
 obtain ⟨v, v', v2, v3, h1, h2, h3, h4, hR⟩ := k w hw;refine bodyPost_ret (v := .tuple #[v, v', v2, v3]) ?_ ha.df hR;have e1 := (ha.tmp h1.1).trans (by rw [h1.2]);have e2 := (ha.tmp h2.1).trans (by rw [h2.2]);have e4 := (ha.tmp h4.1).trans (by rw [h4.2]);obtain ⟨h31, ad, h32, h33⟩ := h3;have e3 := (ha.tmp h31).trans (by rw [h32]);simp [results, h, asAddr, *]
theorem fin5 {a b c d e : Nat} {ty ty' : TypeId} (k : ∀ w, Fr S0 w0 w es -> ∃ v v' v2 v3 v4, fm P ls w (.cell a ty') v /\ fm P ls w (.tmp b) v' /\ fm P ls w (.tmp c) v2 /\ fm P ls w (.cell d ty) v3 /\ fm P ls w (.tmp e) v4 /\ R (.returned (.tuple #[v, v', v2, v3, v4])) w) (h : fn.results = #[.cell a ty', .tmp b, .tmp c, .cell d ty, .tmp e] := by rfl) : QW n S0 w0 (bodyPost P fn R) .ret ls es := fun a w ha hw => by
 obtain ⟨v, v', v2, v3, v4, h1, h2, h3, h4, h5, hR⟩ := k w hw;refine bodyPost_ret (v := .tuple #[v, v', v2, v3, v4]) ?_ ha.df hR;have e2 := (ha.tmp h2.1).trans (by rw [h2.2]);have e3 := (ha.tmp h3.1).trans (by rw [h3.2]);have e5 := (ha.tmp h5.1).trans (by rw [h5.2]);obtain ⟨h11, ad1, h12, h13⟩ := h1;have e1 := (ha.tmp h11).trans (by rw [h12]);obtain ⟨h41, ad, h42, h43⟩ := h4;have e4 := (ha.tmp h41).trans (by rw [h42]);simp [results, h, asAddr, *]
end
theorem gW {m K k : Nat} {xs : List Int} {rs cs : List Nat} {L : Nat} (h : ∀ x ∈ xs, ag x.natAbs <= L) : ∀ x ∈ aF k (cC m xs rs cs) K, ag x.natAbs <= L := fun x hx => by
 obtain ⟨q, _, rfl⟩ := List.mem_map.1 hx;unfold cC;by_cases h1 : rs.getD (q / k) 0 * m + cs.getD (q % k) 0 < xs.length
 . exact h _ (dP h1)
 . rw [show gi xs _ = 0 from fI _ _ Cp]; simp [bb]
theorem fN.lt {n m k : Nat} {A : Mx} {cs : Nat -> Nat} (h : fN n m A k cs) : k <= n /\ ∀ t < k, ((List.range k).map cs).getD t 0 < m := by
 obtain ⟨nu, R, d, h⟩ := h;exact ⟨h.kn, fun t ht => by have := h.csl t ht; simp [ht]; exact this⟩
def cH (m : Nat) (xs : List Int) (k : Nat) (c1 c2 : Nat -> Nat) : Int := aS k (au (aF k (cC m xs ((List.range k).map c1) ((List.range k).map c2)) (k * k)) k k)
theorem Az (n m nm mw cap : Nat) (ao : Option Addr) (xs : List Int) (w : World) (hn : n <= 64) (hm : m <= 64) (hmw : mw <= 1048577) (hA : aQ w mw ao xs) (hs : xs.length = n * m) (hnm : xs.length = nm) (hrk : ∀ k1 c1 k2 c2, fN m n (au (kY n m xs) m n) k1 c1 -> fN n m (au xs n m) k2 c2 -> k1 = k2) :
 Calls Tryz.prog 15 #[.agg #[.int .i64 (n : Int), .int .i64 (m : Int), .slice ao nm cap]] w fun e w' => ∃ p : ((Option Addr × Nat) × (Option Addr × Nat)) × (Nat × (Nat -> Nat) × (Nat -> Nat)) × P4, e = .returned (.tuple #[.slice p.1.1.1 p.2.1.1 p.1.1.2, .slice p.1.2.1 p.2.1.1 p.1.2.2, av p.2.2, .int .i64 0]) /\ Nw w w' [.pr (fN m n (au (kY n m xs) m n) p.2.1.1 p.2.1.2.1 /\ fN n m (au xs n m) p.2.1.1 p.2.1.2.2), .lg 3 1 p.1.1.1 p.2.1.1 p.1.1.2 (iL ((List.range p.2.1.1).map p.2.1.2.1)), .lg 3 1 p.1.2.1 p.2.1.1 p.1.2.2 (iL ((List.range p.2.1.1).map p.2.1.2.2)), .own w.heap.size (av p.2.2) (cH m xs p.2.1.1 p.2.1.2.1 p.2.1.2.2)] := by
 have hxb := iU hA;have hwx : ∀ x ∈ xs, ag x.natAbs <= mw := fun x hx => an (hxb x hx);have hR := fun w' (h : aQ w' mw ao xs) => wj n m nm mw cap ao xs w' hn hm hmw h hs hnm;have hP := fun w' (h : aQ w' mw ao xs) => xU n m nm mw cap ao xs w' hn hm hmw h hs hnm;have hK := fun k1 c1 k2 c2 ro co (rs cs : List Nat) w' a1 a2 (a3 : aQ w' mw ao xs) a4 a5 a6 a7 a8 a9 => qd n m nm cap k1 c1 k2 c2 mw ao ro co rs cs xs w' a1 a2 a3 Cp a4 a5 hs hnm a6 a7 hn hm a8 a9;have HC := H5 (Cv hR (Cv hP (Cv hK (Cv hrk hwx))));clear hR hP hK hrk hwx hxb hs hnm;refine bN (S0 := fun _ => False) Tryz.func15 ((Fr.nil _ w).l hA Cq) ?_;clear hA;refine aA ?_;refine aW fun g1 => ?_;refine aT ?_;refine aW fun g4 => ?_;refine aC ?_;refine dO ?_;refine cG (α := (Option Addr × Nat) × Nat × (Nat -> Nat)) (mk := fun p => .tuple #[.slice p.1.1 p.2.1 p.1.2, .int .i64 0]) (ens := fun p => [.lg 3 1 p.1.1 p.2.1 p.1.2 (iL ((List.range p.2.1).map p.2.2)), .pr (fN m n (au (kY n m xs) m n) p.2.1 p.2.2)]) (hne := ⟨((none, 0), 0, fun _ => 0)⟩) (fun w' H => HC.out.1 w' (H.all (.ls mw ao xs) Cq)) fun q1 => ?_;refine bh ?_;refine aC ?_;refine dO ?_;refine fC ?_;refine aA ?_;refine dW ?_;refine cG (α := (Option Addr × Nat) × Nat × (Nat -> Nat)) (mk := fun p => .tuple #[.slice p.1.1 p.2.1 p.1.2, .int .i64 0]) (ens := fun p => [.lg 3 1 p.1.1 p.2.1 p.1.2 (iL ((List.range p.2.1).map p.2.2)), .pr (fN n m (au xs n m) p.2.1 p.2.2)]) (hne := ⟨((none, 0), 0, fun _ => 0)⟩) (fun w' H => HC.out.2.1 w' (H.all (.ls mw ao xs) Cq)) fun q2 => ?_;refine bh ?_;refine eQ ?_;obtain ⟨⟨ro, rc⟩, k, c1⟩ := q1;obtain ⟨⟨co, cc⟩, k2, c2⟩ := q2;refine r6 (A := fN m n (au (kY n m xs) m n) k c1) Cq fun hp1 => ?_;refine r6 (A := fN n m (au xs n m) k2 c2) Cq fun hp2 => ?_;obtain rfl : k = k2 := HC.out.2.2.2.1 k c1 k2 c2 hp1 hp2;have hl1 := fN.lt hp1;have hl2 := fN.lt hp2;have hk64 : k <= 64 := by omega
 have HP := H5 (Cv hp1 (Cv hp2 (Cv hl1.2 hl2.2)));clear hp1 hp2 hl1 hl2;refine rW [] ?_;refine aT ?_;refine dW ?_;refine mU (α := Option Addr × Nat) (mk := fun p => .tuple #[.agg #[.int .i64 (k : Int), .int .i64 (k : Int), .slice p.1 (k * k) p.2], .int .i64 0]) (ao := fun p => p.1) (xs := fun _ => aF k (cC m xs ((List.range k).map c1) ((List.range k).map c2)) (k * k)) (A := fun _ => True) (fun w' H => HC.out.2.2.1 k rc k cc ro co ((List.range k).map c1) ((List.range k).map c2) w' (mL.rl (H.all (.lg 3 1 ro k rc (iL ((List.range k).map c1))) Cq)) (mL.rl (H.all (.lg 3 1 co k cc (iL ((List.range k).map c2))) Cq)) (H.all (.ls mw ao xs) Cq) Cq Cq HP.out.2.2.1 HP.out.2.2.2 hk64 hk64) fun t => ?_;refine aT ?_;refine dW ?_;refine aW fun g6 => ?_;refine sG ?_;refine aC ?_;refine dO ?_;refine uz (x := cH m xs k c1 c2) (z := .int .i64 0) (fun w' H => Cd k (k * k) mw t.2 t.1 _ w' hk64 hmw (fq.iR (H.all (.jn t.1 (aF k (cC m xs ((List.range k).map c1) ((List.range k).map c2)) (k * k))) Cq) (gW HC.out.2.2.2.2)) (aD ..) (aD ..)) fun pd => ?_;refine aT ?_;refine dW ?_;refine sW ?_;refine aC ?_;refine rW [] ?_;refine bh ?_;refine aT ?_;refine sW ?_;refine aC ?_;refine fin4 (fun w' H => ?_);have H2 : Fr _ w w' [.lg 3 1 ro k rc (iL ((List.range k).map c1)), .lg 3 1 co k cc (iL ((List.range k).map c2)), .own w.heap.size (av pd) (cH m xs k c1 c2)] := H.pick (by repeat (first | exact Pk.n | refine Pk.c (by repeat (first | exact Rm.z | apply Rm.s)) ?_));have H3 := H2.pure (e := .pr (fN m n (au (kY n m xs) m n) k c1 /\ fN n m (au xs n m) k c2)) ⟨HP.out.1, HP.out.2.1⟩ (fun _ h => h);refine ⟨_, _, _, _, dT, dT, jh (H.all (.row g4 37 [.bool pd.1, .slice pd.2.1 pd.2.2.1 pd.2.2.2]) Cq), dT, (((ro, rc), (co, cc)), (k, c1, c2), pd), rfl, H.below, fun e he => ⟨H3.all e he, fun b hb => ?_⟩, H3.sep⟩;have he' := he;simp only [Di, CX, or_false] at he';rcases he' with rfl | rfl | rfl | rfl
 . exact hb.elim
 . exact (H3.own _ he rfl b hb).elim (fun h => h.elim) id
 . exact (H3.own _ he rfl b hb).elim (fun h => h.elim) id
 . exact hb.elim
def oG (j : Nat) (x : Int) (vs : List Int) (y : Int) (us : List Int) (d : Int) (k : Nat) : Int := if k < j then 0 else if k = j then x * gi vs k + y * gi us k else (x * gi vs k + y * gi us k) % d
def jl (n j : Nat) (x : Int) (vs : List Int) (y : Int) (us : List Int) (d : Int) : List Int := (List.range n).map (oG j x vs y us d)
theorem fE (n j : Nat) (x : Int) (vs : List Int) (y : Int) (us : List Int) (d : Int) : (jl n j x vs y us d).length = n := by simp [jl]
theorem n4 {n j k : Nat} {x : Int} {vs : List Int} {y : Int} {us : List Int} {d : Int} (h : k < n) : gi (jl n j x vs y us d) k = oG j x vs y us d k := by
 rw [cU (by rw [fE]; exact h)]; simp [jl]
structure MxX where
 k : Nat
 ps : List P4
 zs : List Int
structure MxI (n j : Nat) (x : Int) (vs : List Int) (y : Int) (us : List Int) (d : Int) (z : MxX) : Prop where
 hk : z.k <= n
 pl : z.ps.length = n
 zl : z.zs.length = n
 val : ∀ t < n, gi z.zs t = if t < z.k then oG j x vs y us d t else 0
theorem MxI.next {n j k : Nat} {x y d v : Int} {vs us zs : List Int} {ps ps' : List P4} (h : MxI n j x vs y us d ⟨k, ps, zs⟩) (hk : k < n) (hp : ps'.length = n) (hv : v = oG j x vs y us d k) : MxI n j x vs y us d ⟨k + 1, ps', zs.set k v⟩ := by
 have zl : zs.length = n := h.zl;refine ⟨hk, hp, by show (zs.set k v).length = n; rw [CL]; exact zl, fun t ht => ?_⟩;show gi (zs.set k v) t = if t < k + 1 then _ else _;rw [gO Cp];by_cases e : t = k
 . rw [if_pos e, if_pos Cp, hv, e]
 . rw [if_neg e];have := h.val t ht;rw [this];show (if t < k then _ else _) = _;by_cases e2 : t < k
   . rw [if_pos e2, if_pos Cp]
   . rw [if_neg e2, if_neg Cp]
theorem xP (gB n j L : Nat) (x y d : Int) (px py pd : P4) (va wa : Option Addr) (cv cw : Nat) (vs us : List Int) (w : World) (hn : n <= 64) (hj : j < n) (hL : L <= 1000000000) (hd : d ≠ 0) (hx : ah w L (av px) x) (hy : ah w L (av py) y) (hD : ah w L (av pd) d) (c1 : w.cell? ⟨gB, 1, none⟩ = some (.bool pd.1)) (c2 : w.cell? ⟨gB, 2, none⟩ = some (.slice pd.2.1 pd.2.2.1 pd.2.2.2)) (hv : aQ w L va vs) (hu : aQ w L wa us) (hvl : vs.length = n) (hul : us.length = n) :
 Calls Tryz.prog 92 #[.pointer (some ⟨gB, 0, none⟩), .int .i64 (j : Int), av px, .slice va n cv, av py, .slice wa n cw] w fun e w' => ∃ p : Nat × List P4, e = .returned (.slice (some ⟨p.1, 0, none⟩) n n) /\ Nw w w' [.row p.1 37 (rn p.2 []), .ns p.2 (jl n j x vs y us d), .pr (p.2.length = n)] := by
 have HA : Fr (fun _ => False) w w [.cell ⟨gB, 1, none⟩ (.bool pd.1), .cell ⟨gB, 2, none⟩ (.slice pd.2.1 pd.2.2.1 pd.2.2.2), .ls L va vs, .ls L wa us, .at L (av px) x, .at L (av py) y, .at L (av pd) d] :=
  Fr.cl (Fr.cl (((((Fr.nil _ w).i hD).i hy).i hx |>.l hu (by simp [En.wr, En.at])) |>.l hv (by simp [En.wr, En.at, En.ls])) c2 (by simp [En.wr, En.at, En.ls])) c1 (by simp [En.wr, En.at, En.ls])
 have HN := H5 (Cv hvl hul);obtain ⟨bv, ov, rfl, _⟩ := hv Cp;obtain ⟨bu, ou, rfl, _⟩ := hu Cp;clear hx hy hD c1 c2 hv hu hvl hul;refine bN (S0 := fun _ => False) Tryz.func92 HA ?_;clear HA;refine aA ?_;refine aW fun g8 => ?_;refine aW fun g10 => ?_;refine aC ?_;refine rW [] ?_;refine aT ?_;refine mN n n rfl rfl (Ct _) Cp fun g => ?_;refine aC ?_;refine rW [] ?_;refine aT ?_;refine aC ?_;refine lP (e := .ns (List.replicate n p0) (List.replicate n 0)) (fun w' _ => bX.pJ w' n) ?_;refine cF (X := MxX) (MxI n j x vs y us d) (fun z => n - z.k) (fun z => [(20, .int .i64 (z.k : Int)), (19, .int .i64 (n : Int)), (13, .slice (some ⟨g, 0, none⟩) n n), (0, .pointer (some ⟨gB, 0, none⟩)), (1, .int .i64 (j : Int)), (3, .slice (some ⟨bv, ov, none⟩) n cv), (5, .slice (some ⟨bu, ou, none⟩) n cw), (8, .pointer (some ⟨g8, 0, none⟩)), (10, .pointer (some ⟨g10, 0, none⟩))])
  (fun z => [.row g 37 (rn z.ps []), .row g8 37 [.bool px.1, .slice px.2.1 px.2.2.1 px.2.2.2], .row g10 37 [.bool py.1, .slice py.2.1 py.2.2.1 py.2.2.2], .cell ⟨gB, 1, none⟩ (.bool pd.1), .cell ⟨gB, 2, none⟩ (.slice pd.2.1 pd.2.2.1 pd.2.2.2), .ns z.ps z.zs, .ls L (some ⟨bv, ov, none⟩) vs, .ls L (some ⟨bu, ou, none⟩) us, .at L (av px) x, .at L (av py) y, .at L (av pd) d]) ⟨0, List.replicate n p0, List.replicate n 0⟩ ⟨Cx _, by simp, by simp, fun t ht => by rw [if_neg (by show ¬ t < 0; omega)]; show gi (List.replicate n 0) t = 0; rw [cU (by simpa using ht)]; simp⟩ fun z hz => ?_
 obtain ⟨k, ps, zs⟩ := z;have hk : k <= n := hz.hk;have HM : Hid (MxI n j x vs y us d ⟨k, ps, zs⟩) := H5 hz;clear hz;by_cases h : k < n
 . have h01 : (k : Int) < (n : Int) := by omega
   refine aA ?_;refine dB true ?_;by_cases h2 : k < j
   . have h02 : (k : Int) < (j : Int) := by omega
     refine eQ ?_;refine nM ?_;refine aA ?_;refine dW ?_;refine aC ?_;refine rW [] ?_;refine aT ?_;refine kq ?_;refine aA ?_;refine dE (dL (a := k) Cp) ?_;refine aC ?_;exact cD (⟨k + 1, ps, zs⟩ : MxX) ⟨⟨h, HM.out.pl, HM.out.zl, fun t ht => by
      have := HM.out.val t ht;rw [this];show (if t < k then _ else _) = if t < k + 1 then _ else _;by_cases e : t < k
      . rw [if_pos e, if_pos Cp]
      . rw [if_neg e];by_cases e2 : t = k
        . rw [if_pos Cp, e2]; unfold oG; rw [if_pos h2]
        . rw [if_neg Cp]⟩, by show n - (k + 1) < n - k; omega⟩
   . have h02 : ¬ (k : Int) < (j : Int) := by omega
     refine eQ ?_;refine nM ?_;refine aA ?_;refine dW ?_;refine aC ?_;refine rW [] ?_;refine aT ?_;refine dB false ?_;refine eQ ?_;refine lE (L := L) (xs := vs) (b := bv) (o := ov) k Cq (by rw [HN.out.1]; exact h) fun pv => ?_;refine lE (L := L) (xs := us) (b := bu) (o := ou) k Cq (by rw [HN.out.2]; exact h) fun pu => ?_;refine kf ?_;refine aA ?_;(iterate 3 refine bh ?_);refine cN (x := y * gi us k) (fun w' H => ib (av py) (av pu) y (gi us k) L L w' (H.all (.at L (av py) y) (by simp [av])) (H.all (.at L (av pu) (gi us k)) (by simp [av])) Cp) fun p1 => ?_;refine cN (x := x * gi vs k + y * gi us k) (fun w' H => by
      have a1 : ah w' L (av py) y := H.all (.at L (av py) y) (by simp [av]);have a2 : ah w' L (av pu) (gi us k) := H.all (.at L (av pu) (gi us k)) (by simp [av]);have hw1 : ag (y * gi us k).natAbs <= 17592186044415 := by rw [CP]; have := cT y.natAbs (gi us k).natAbs; have := a1.ag; have := a2.ag; omega
      exact gj (av px) (av pv) (av p1) x (gi vs k) (y * gi us k) L L w' (H.all (.at L (av px) x) (by simp [av])) (H.all (.at L (av pv) (gi vs k)) (by simp [av])) (ai.int (H.all (.own w.heap.size (av p1) (y * gi us k)) (by simp [av])) hw1) Cp) fun p2 => ?_
     refine je (e := .ns (ps.set k p2) (zs.set k (x * gi vs k + y * gi us k))) (fun w' H => bX.set (H.all (.ns ps zs) Cq) k (H.all (.own w.heap.size (av p2) (x * gi vs k + y * gi us k)) (by simp [av]) : ai ..).num) ?_;refine dW ?_;refine sN k p2 (by rw [show ps.length = n from HM.out.pl]; exact h) aN.nil rfl ?_;by_cases h3 : j < k
     . have h03 : (j : Int) < (k : Int) := by omega
       refine eW ?_;refine aA ?_;refine aT ?_;refine dB true ?_;have q1 := tu [] (ps := ps.set k p2) (i := k) (by rw [CL, show ps.length = n from HM.out.pl]; exact h);have q2 := tt [] (ps := ps.set k p2) (i := k) (by rw [CL, show ps.length = n from HM.out.pl]; exact h);rw [show gp (ps.set k p2) k = p2 by rw [iB (by rw [CL, show ps.length = n from HM.out.pl]; exact h)]; simp] at q1 q2;refine eQ ?_;refine nM ?_;refine aA ?_;refine bh ?_;refine bh ?_;refine aT ?_;refine uz (x := (x * gi vs k + y * gi us k) % d) (z := .int .i64 0) (fun w' H => by
        have a1 : ah w' L (av py) y := H.all (.at L (av py) y) (by simp [av]);have a2 : ah w' L (av pu) (gi us k) := H.all (.at L (av pu) (gi us k)) (by simp [av]);have a3 : ah w' L (av px) x := H.all (.at L (av px) x) (by simp [av]);have a4 : ah w' L (av pv) (gi vs k) := H.all (.at L (av pv) (gi vs k)) (by simp [av]);have hw1 : ag (y * gi us k).natAbs <= L + L := by rw [CP]; have := cT y.natAbs (gi us k).natAbs; have := a1.ag; have := a2.ag; omega
        have hw2 : ag (x * gi vs k).natAbs <= L + L := by rw [CP]; have := cT x.natAbs (gi vs k).natAbs; have := a3.ag; have := a4.ag; omega
        have hw3 : ag (x * gi vs k + y * gi us k).natAbs <= 17592186044415 := by
         have e1 := Int.natAbs_add_le (x * gi vs k) (y * gi us k);have b1 := bF (x * gi vs k).natAbs;have b2 := bF (y * gi us k).natAbs;have d1 := CU (show 0 < W by unfold W; omega) hw2;have d2 := CU (show 0 < W by unfold W; omega) hw1;have hlt : (x * gi vs k).natAbs + (y * gi us k).natAbs < W ^ (L + L + 1) := by
          rw [Dd];have : 2 <= W := by unfold W; omega
          have := CD (W ^ (L + L)) this;omega
         exact Cw (aJ e1) (Cw (an hlt) Cp)
        exact uq (av p2) (av pd) _ d w' (ai.int (H.all (.own w.heap.size (av p2) (x * gi vs k + y * gi us k)) (by simp [av])) hw3) ((H.all (.at L (av pd) d) (by simp [av]) : ah ..).mono Cp) hd) fun p3 => ?_
       refine je (e := .ns ((ps.set k p2).set k p3) ((zs.set k (x * gi vs k + y * gi us k)).set k ((x * gi vs k + y * gi us k) % d))) (fun w' H => bX.set (H.all (.ns (ps.set k p2) (zs.set k (x * gi vs k + y * gi us k))) Cq) k (H.all (.own w.heap.size (av p3) ((x * gi vs k + y * gi us k) % d)) (by simp [av]) : ai ..).num) ?_;refine bh ?_;refine sN (ps := ps.set k p2) k p3 (by rw [CL, show ps.length = n from HM.out.pl]; exact h) aN.nil rfl ?_;refine eW ?_;refine aA ?_;refine dE (dL (a := k) Cp) ?_;refine aC ?_;exact cD (⟨k + 1, ps.set k p3, zs.set k ((x * gi vs k + y * gi us k) % d)⟩ : MxX) ⟨HM.out.next h (by rw [CL]; exact HM.out.pl) (by unfold oG; rw [if_neg h2, if_neg Cp]), by show n - (k + 1) < n - k; omega⟩ (he := by
        intro w' h';rw [List.set_set, List.set_set] at h';exact h'.pick (by repeat (first | exact Pk.n | refine Pk.c (by repeat (first | exact Rm.z | apply Rm.s)) ?_)))
     . have h03 : ¬ (j : Int) < (k : Int) := by omega
       refine eW ?_;refine aA ?_;refine aT ?_;refine fC ?_;refine aA ?_;refine dE (dL (a := k) Cp) ?_;refine aC ?_;exact cD (⟨k + 1, ps.set k p2, zs.set k (x * gi vs k + y * gi us k)⟩ : MxX) ⟨HM.out.next h (by rw [CL]; exact HM.out.pl) (by unfold oG; rw [if_neg h2, if_pos Cp]), by show n - (k + 1) < n - k; omega⟩
 . obtain rfl : n = k := by omega
   have hE : zs = jl n j x vs y us d := by
    refine Dx (by rw [fE]; exact HM.out.zl) fun t h1 h2 => ?_;have ht : t < n := by rw [fE] at h2; exact h2
    have := HM.out.val t ht;rw [if_pos (show t < n from ht), cU h1] at this;rw [this, <- n4 ht, cU h2]
   have HE := H5 hE;clear hE;refine aA ?_;refine fC ?_;refine aA ?_;refine dW ?_;refine aC ?_;refine dZ fun w' H => ?_;refine ⟨_, dT, (g, ps), rfl, H.below, fun e he => ?_, ?_⟩
   . simp only [Di, CX, or_false] at he;rcases he with rfl | rfl | rfl
     . exact ⟨H.m0, fun b hb => (H.own _ (CC ..) rfl b hb).elim (fun h => h.elim) id⟩
     . exact ⟨by rw [<- HE.out]; exact H.all (.ns ps zs) Cq, fun _ h => h.elim⟩
     . exact ⟨HM.out.pl, fun _ h => h.elim⟩
   . refine .cons (fun x hx => ?_) (.cons (fun x hx => ?_) (CM ..))
     . simp only [Di, CX, or_false] at hx;rcases hx with rfl | rfl
       . exact ⟨fun _ _ _ h => h, fun q => nomatch q⟩
       . exact ⟨fun _ _ _ h => h, fun q => nomatch q⟩
     . rcases List.mem_singleton.1 hx with rfl;exact ⟨(fun q => nomatch q), (fun q => nomatch q)⟩
end Go.Proofs.YtjjlmfmoihooiaaGreat
namespace Go.Proofs.YtjjlmfmoihooiaaGreat
def Gp (n k : Nat) (E : Mx) (v u : Nat -> Int) : Prop := ∃ (x : Nat -> Int) (c : Int), (∀ t < k, x t = 0) /\ ∀ i, u i = sm n (fun t => x t * E t i) + c * v i
structure Cl (P : (Nat -> Int) -> Prop) : Prop where
 zero : P fun _ => 0
 add : ∀ u w, P u -> P w -> P fun i => u i + w i
 smul : ∀ c u, P u -> P fun i => c * u i
theorem Cl.sm {P : (Nat -> Int) -> Prop} (h : Cl P) (x : Nat -> Int) (F : Mx) : ∀ m, (∀ t < m, x t ≠ 0 -> P (F t)) -> P fun i => sm m fun t => x t * F t i
 | 0, _ => h.zero
 | m + 1, hF => by
  have h1 := Cl.sm h x F m fun t ht => hF t Cp;by_cases hx : x m = 0
  . have e : (fun i => Go.Proofs.YtjjlmfmoihooiaaGreat.sm (m + 1) fun t => x t * F t i) = fun i => Go.Proofs.YtjjlmfmoihooiaaGreat.sm m fun t => x t * F t i := by funext i; rw [Go.Proofs.YtjjlmfmoihooiaaGreat.sm]; simp [hx]
    rw [e]; exact h1
  . exact h.add _ _ h1 (h.smul _ _ (hF m Cp hx))
theorem Gp.cl (n k : Nat) (E : Mx) (v : Nat -> Int) : Cl (Gp n k E v) :=
 ⟨⟨fun _ => 0, 0, fun _ _ => rfl, fun i => by rw [bR fun t _ => De _]; simp⟩,
  fun u w ⟨x, c, h1, h2⟩ ⟨y, e, h3, h4⟩ => ⟨fun t => x t + y t, c + e, fun t ht => by show x t + y t = 0; rw [h1 t ht, h3 t ht]; rfl, fun i => by
   show u i + w i = _;rw [h2, h4, show (fun t => (x t + y t) * E t i) = fun t => x t * E t i + y t * E t i from by funext t; rw [DY], im, DY]; omega⟩,
  fun a u ⟨x, c, h1, h2⟩ => ⟨fun t => a * x t, a * c, fun t ht => by show a * x t = 0; rw [h1 t ht, CS], fun i => by
   show a * u i = _;rw [h2, show (fun t => a * x t * E t i) = fun t => a * (x t * E t i) from by funext t; rw [CH], bQ, DB, CH]⟩⟩
theorem Gp.row {n k t : Nat} {E : Mx} {v : Nat -> Int} (ht : t < n) (hk : k <= t) : Gp n k E v (E t) :=
 ⟨fun s => if s = t then 1 else 0, 0, fun s hs => if_neg Cp, fun i => by
  rw [eH t ht fun s _ h => by show (if s = t then (1 : Int) else 0) * _ = 0; rw [if_neg h, De]];show _ = (if t = t then (1 : Int) else 0) * _ + _;rw [if_pos rfl]; simp⟩
theorem Gp.vec {n k : Nat} {E : Mx} {v : Nat -> Int} : Gp n k E v v :=
 ⟨fun _ => 0, 1, fun _ _ => rfl, fun i => by rw [bR fun t _ => De _]; simp⟩
theorem Gp.least {P : (Nat -> Int) -> Prop} (h : Cl P) {n k : Nat} {E : Mx} {v u : Nat -> Int} (hu : Gp n k E v u) (hE : ∀ t < n, k <= t -> P (E t)) (hv : P v) : P u := by
 obtain ⟨x, c, h1, h2⟩ := hu;have e : u = fun i => Go.Proofs.YtjjlmfmoihooiaaGreat.sm n (fun t => x t * E t i) + c * v i := funext h2;rw [e];refine h.add _ _ (h.sm x E n fun t ht hx => hE t ht ?_) (h.smul c v hv);rcases Nat.lt_or_ge t k with h3 | h3
 . exact absurd (h1 t h3) hx
 . exact h3
theorem Cl.sub {P : (Nat -> Int) -> Prop} (h : Cl P) {u w : Nat -> Int} (hu : P u) (hw : P w) : P fun i => u i - w i := by
 have := h.add _ _ hu (h.smul (-1) w hw);have e : (fun i => u i + -1 * w i) = fun i => u i - w i := by funext i; omega
 rw [e] at this; exact this
def eD (d : Int) (i : Nat) : Nat -> Int := fun k => if k = i then d else 0
theorem Cl.yF {P : (Nat -> Int) -> Prop} (h : Cl P) {d : Int} {n j : Nat} (hd : ∀ i < n, j <= i -> P (eD d i)) {u c : Nat -> Int} (h1 : ∀ i, j <= i -> i < n -> u i = d * c i) (h2 : ∀ i, i < j \/ n <= i -> u i = 0) : P u := by
 have e : u = fun k => Go.Proofs.YtjjlmfmoihooiaaGreat.sm n fun i => (if j <= i then c i else 0) * eD d i k := by
  funext k;by_cases hk : j <= k /\ k < n
  . rw [eH k hk.2 fun t _ ht => by show (if j <= t then c t else 0) * (if k = t then d else 0) = 0; rw [if_neg (c := k = t) (fun e => ht e.symm), CS]];show u k = (if j <= k then c k else 0) * (if k = k then d else 0);rw [if_pos hk.1, if_pos rfl, h1 k hk.1 hk.2, Dc]
  . rw [h2 k Cp];refine (bR fun t ht => ?_).symm;show (if j <= t then c t else 0) * (if k = t then d else 0) = 0;by_cases e : k = t
    . subst e; rw [if_neg Cp, De]
    . rw [if_neg e, CS]
 rw [e];exact h.sm _ _ n fun t ht hx => hd t ht (by
  rcases Nat.lt_or_ge t j with h3 | h3
  . exact absurd (if_neg Cp) hx
  . exact h3)
theorem Gp.mono {n k k' : Nat} {E : Mx} {v u : Nat -> Int} (h : Gp n k E (fun _ => 0) u) (hk : k' <= k) : Gp n k' E v u :=
 h.least (Gp.cl n k' E v) (fun t ht h1 => Gp.row ht Cp) (Gp.cl n k' E v).zero
theorem Gp.other {n k j : Nat} {E : Mx} {R v u : Nat -> Int} (h : Gp n (j + 1) E (fun _ => 0) u) (hk : k <= j) : Gp n k (bU E j R) v u :=
 h.least (Gp.cl n k _ v) (fun t ht h1 => by
  have := Gp.row (n := n) (k := k) (E := bU E j R) (v := v) ht Cp
  rwa [aZ E Cp] at this) (Gp.cl n k _ v).zero
section
variable {n j k : Nat} {d : Int} {E : Mx} {v u : Nat -> Int}
theorem BC {x y p q : Int} {R V D D' : Nat -> Int} (hj : j < n) (hk : k <= j) (hpq : p * x + q * y = 1) (hR : ∀ i, R i = x * E j i + y * v i - D i) (hV : ∀ i, V i = p * v i - q * E j i - D' i)
 (hD : Gp n (j + 1) E (fun _ => 0) D) (hD' : Gp n (j + 1) E (fun _ => 0) D') : Gp n k E v u ↔ Gp n k (bU E j R) V u := by
 have c1 := Gp.cl n k E v;have c2 := Gp.cl n k (bU E j R) V;have r1 : Gp n k E v (E j) := Gp.row hj hk;have r2 : Gp n k (bU E j R) V R := by
  have := Gp.row (n := n) (k := k) (E := bU E j R) (v := V) hj hk
  rwa [bV] at this
 constructor
 . intro h;refine h.least c2 (fun t ht h1 => ?_) ?_
   . by_cases e : t = j
     . subst e;have h2 := c2.add _ _ (c2.sub (c2.smul p _ r2) (c2.smul y _ Gp.vec)) (c2.sub (c2.smul p _ (hD.other hk)) (c2.smul y _ (hD'.other hk)));have e : (fun i => p * R i - y * V i + (p * D i - y * D' i)) = E t := by
        funext i;rw [hR, hV];have : p * (x * E t i + y * v i - D i) - y * (p * v i - q * E t i - D' i) + (p * D i - y * D' i) = (p * x + q * y) * E t i := by
         rw [EM, DB, EM, EM, DY, <- CH, <- CH, <- CH, <- CH, Dc y p, Dc y q]; omega
        rw [this, hpq, Em]
       rw [e] at h2; exact h2
     . have := Gp.row (n := n) (k := k) (E := bU E j R) (v := V) ht h1
       rwa [aZ E e] at this
   . have h2 := c2.add _ _ (c2.add _ _ (c2.smul q _ r2) (c2.smul x _ Gp.vec)) (c2.add _ _ (c2.smul q _ (hD.other hk)) (c2.smul x _ (hD'.other hk)));have e : (fun i => q * R i + x * V i + (q * D i + x * D' i)) = v := by
      funext i;rw [hR, hV];have : q * (x * E j i + y * v i - D i) + x * (p * v i - q * E j i - D' i) + (q * D i + x * D' i) = (p * x + q * y) * v i := by
       rw [EM, DB, EM, EM, DY, <- CH, <- CH, <- CH, <- CH, Dc x p, Dc x q]; omega
      rw [this, hpq, Em]
     rw [e] at h2; exact h2
 . intro h;refine h.least c1 (fun t ht h1 => ?_) ?_
   . by_cases e : t = j
     . subst e;rw [bV];have h2 := c1.sub (c1.add _ _ (c1.smul x _ r1) (c1.smul y _ Gp.vec)) (hD.mono (Nat.le_succ_of_le hk) (v := v));have e : (fun i => x * E t i + y * v i - D i) = R := (funext hR).symm;rw [e] at h2; exact h2
     . rw [aZ E e]; exact Gp.row ht h1
   . have h2 := c1.sub (c1.sub (c1.smul p _ Gp.vec) (c1.smul q _ r1)) (hD'.mono (Nat.le_succ_of_le hk) (v := v));have e : (fun i => p * v i - q * E j i - D' i) = V := (funext hV).symm;rw [e] at h2; exact h2
theorem qb {c : Int} {V : Nat -> Int} (hk : k <= j) (hV : ∀ i, V i = v i - c * eD d j i) (hd : Gp n j E (fun _ => 0) (eD d j)) : Gp n k E v u ↔ Gp n k E V u := by
 have c1 := Gp.cl n k E v;have c2 := Gp.cl n k E V;constructor
 . intro h;refine h.least c2 (fun t ht h1 => Gp.row ht h1) ?_;have h2 := c2.add _ _ Gp.vec (c2.smul c _ (hd.mono hk (v := V)));have e : (fun i => V i + c * eD d j i) = v := by funext i; rw [hV]; omega
   rw [e] at h2; exact h2
 . intro h;refine h.least c1 (fun t ht h1 => Gp.row ht h1) ?_;have h2 := c1.sub Gp.vec (c1.smul c _ (hd.mono hk (v := v)));have e : (fun i => v i - c * eD d j i) = V := (funext hV).symm;rw [e] at h2; exact h2
end
structure Tri (n : Nat) (d : Int) (E : Mx) : Prop where
 low : ∀ t < n, ∀ i < t, E t i = 0
 pos : ∀ t < n, 0 < E t t /\ E t t <= d
 red : ∀ t < n, ∀ i, t < i -> 0 <= E t i /\ E t i < d
structure iu (n : Nat) (d : Int) (E0 : Mx) (v0 : Nat -> Int) (j : Nat) (E : Mx) (v : Nat -> Int) : Prop where
 tri : Tri n d E
 vz : ∀ i < j, v i = 0
 fb : ∀ u, Gp n 0 E0 v0 u ↔ Gp n 0 E v u
 dk : ∀ i < n, j <= i -> Gp n i E (fun _ => 0) (eD d i)
 dk' : ∀ i < n, i < j -> Gp n i E v (eD d i)
section
variable {n j : Nat} {d : Int} {E0 E : Mx} {v0 v : Nat -> Int}
theorem iu.skip {V : Nat -> Int} (h : iu n d E0 v0 j E v) (hj : j < n) (hV : ∀ i, V i = if i = j then v j % d else v i) (h0 : v j % d = 0) : iu n d E0 v0 (j + 1) E V := by
 have hd := h.dk j hj (Ct _);have e : ∀ i, V i = v i - v j / d * eD d j i := fun i => by
  rw [hV]; unfold eD;by_cases q : i = j
  . subst q; rw [if_pos rfl, if_pos rfl];have := Int.ediv_mul_add_emod (v i) d; omega
  . rw [if_neg q, if_neg q, CS, Int.sub_zero]
 refine ⟨h.tri, fun i hi => ?_, fun u => (h.fb u).trans (qb (Cx _) e hd), fun i hi h1 => h.dk i hi Cp, fun i hi h1 => ?_⟩
 . rw [hV];by_cases q : i = j
   . rw [if_pos q]; exact h0
   . rw [if_neg q]; exact h.vz i Cp
 . by_cases q : i = j
   . subst q; exact hd.mono (Ct _)
   . exact (qb (k := i) Cp e hd).1 (h.dk' i hi Cp)
theorem iu.mod {V : Nat -> Int} (h : iu n d E0 v0 j E v) (hj : j < n) (hV : ∀ i, V i = if i = j then v j % d else v i) : iu n d E0 v0 j E V := by
 have hd := h.dk j hj (Ct _);have e : ∀ i, V i = v i - v j / d * eD d j i := fun i => by
  rw [hV]; unfold eD;by_cases q : i = j
  . subst q; rw [if_pos rfl, if_pos rfl];have := Int.ediv_mul_add_emod (v i) d; omega
  . rw [if_neg q, if_neg q, CS, Int.sub_zero]
 refine ⟨h.tri, fun i hi => ?_, fun u => (h.fb u).trans (qb (Cx _) e hd), h.dk, fun i hi h1 => (qb (k := i) Cp e hd).1 (h.dk' i hi h1)⟩;rw [hV, if_neg Cp]; exact h.vz i hi
theorem iu.mix {g x y p q : Int} {R V : Nat -> Int} (h : iu n d E0 v0 j E v) (hj : j < n) (hd0 : 0 < d) (hvn : ∀ i, n <= i -> v i = 0) (hEn : ∀ i, n <= i -> E j i = 0) (hb : 0 < v j) (hE : eU (E j j) (v j) g x y) (hp : E j j = g * p) (hq : v j = g * q)
 (hR : ∀ i, R i = if i < j \/ n <= i then 0 else if i = j then x * E j i + y * v i else (x * E j i + y * v i) % d) (hV : ∀ i, V i = if i < j \/ n <= i then 0 else if i = j then p * v i - q * E j i else (p * v i - q * E j i) % d) :
 iu n d E0 v0 (j + 1) (bU E j R) V := by
 have ha := h.tri.pos j hj;unfold eU at hE;rw [if_neg Cp] at hE;obtain ⟨hg, hx0, hx1, hab⟩ := hE;have hg0 : 0 < g := by
  rcases Fc g 0 with h1 | h1 | h1
  . rw [hg] at h1; omega
  . rw [h1, De] at hp; omega
  . exact h1
 have hpq : p * x + q * y = 1 := by
  have : g * (p * x + q * y) = g * 1 := by rw [DB, <- CH, <- CH, <- hp, <- hq, hab, Eg]
  exact DC Cp this
 have hmul : ∀ f : Nat -> Int, Gp n (j + 1) E (fun _ => 0) fun i => if i < j + 1 \/ n <= i then 0 else d * (f i / d) := fun f =>
  (Gp.cl n (j + 1) E _).yF (d := d) (n := n) (j := j + 1) (c := fun i => f i / d) (fun i hi h1 => (h.dk i hi Cp).least (Gp.cl n (j + 1) E _) (fun t ht h2 => Gp.row ht Cp) (Gp.cl n (j + 1) E _).zero)
   (fun i h1 h2 => if_neg Cp) (fun i h1 => if_pos h1)
 have eR : ∀ i, R i = x * E j i + y * v i - (fun i => if i < j + 1 \/ n <= i then 0 else d * ((x * E j i + y * v i) / d)) i := fun i => by
  show R i = _ - (if i < j + 1 \/ n <= i then 0 else d * ((x * E j i + y * v i) / d));rw [hR];by_cases h1 : i < j
  . rw [if_pos (.inl h1), if_pos (.inl Cp), h.tri.low j hj i h1, h.vz i h1]; simp
  . by_cases h2 : n <= i
    . rw [if_pos (.inr h2), if_pos (.inr h2), hEn i h2, hvn i h2]; simp
    . rw [if_neg Cp];by_cases h3 : i = j
      . rw [if_pos h3, if_pos (.inl Cp)]; omega
      . rw [if_neg h3, if_neg Cp]; have := Int.mul_ediv_add_emod (x * E j i + y * v i) d; omega
 have eV : ∀ i, V i = p * v i - q * E j i - (fun i => if i < j + 1 \/ n <= i then 0 else d * ((p * v i - q * E j i) / d)) i := fun i => by
  show V i = _ - (if i < j + 1 \/ n <= i then 0 else d * ((p * v i - q * E j i) / d));rw [hV];by_cases h1 : i < j
  . rw [if_pos (.inl h1), if_pos (.inl Cp), h.tri.low j hj i h1, h.vz i h1]; simp
  . by_cases h2 : n <= i
    . rw [if_pos (.inr h2), if_pos (.inr h2), hEn i h2, hvn i h2]; simp
    . rw [if_neg Cp];by_cases h3 : i = j
      . rw [if_pos h3, if_pos (.inl Cp)]; omega
      . rw [if_neg h3, if_neg Cp]; have := Int.mul_ediv_add_emod (p * v i - q * E j i) d; omega
 have key : ∀ k, k <= j -> ∀ u, Gp n k E v u ↔ Gp n k (bU E j R) V u := fun k hk u => BC hj hk hpq eR eV (hmul _) (hmul _);have hRj : R j = g := by rw [hR, if_neg Cp, if_pos rfl, Dc x, Dc y]; exact hab
 have hVj : V j = 0 := by
  rw [hV, if_neg Cp, if_pos rfl, hq, hp, <- CH, <- CH, Dc p g, Dc q g, Int.mul_right_comm]; omega
 have hgd : g <= d := by
  have : g <= E j j := Int.le_of_dvd ha.1 ⟨p, hp⟩;omega
 refine ⟨⟨fun t ht i hi => ?_, fun t ht => ?_, fun t ht i hi => ?_⟩, fun i hi => ?_, fun u => (h.fb u).trans (key 0 (Cx _) u), fun i hi h1 => ?_, fun i hi h1 => ?_⟩
 . by_cases e : t = j
   . subst e; rw [bV, hR, if_pos (.inl hi)]
   . rw [aZ E e]; exact h.tri.low t ht i hi
 . by_cases e : t = j
   . subst e; rw [bV, hRj]; exact ⟨hg0, hgd⟩
   . rw [aZ E e]; exact h.tri.pos t ht
 . by_cases e : t = j
   . subst e; rw [bV, hR];by_cases h1 : i < t \/ n <= i
     . rw [if_pos h1]; exact ⟨Int.le_refl _, hd0⟩
     . rw [if_neg h1, if_neg Cp]; exact ⟨DO _ Cp, EY _ hd0⟩
   . rw [aZ E e]; exact h.tri.red t ht i hi
 . by_cases e : i = j
   . rw [e]; exact hVj
   . rw [hV, if_pos (.inl Cp)]
 . refine (h.dk i hi Cp).least (Gp.cl n i _ _) (fun t ht h2 => ?_) (Gp.cl n i _ _).zero;have := Gp.row (n := n) (k := i) (E := bU E j R) (v := fun _ => 0) ht h2
   rwa [aZ E Cp] at this
 . by_cases e : i = j
   . subst e;exact (key i (Ct _) _).1 ((h.dk i hi (Ct _)).mono (Ct _))
   . exact (key i Cp _).1 (h.dk' i hi Cp)
theorem iu.done (h : iu n d E0 v0 n E v) (hvn : ∀ i, n <= i -> v i = 0) : Tri n d E /\ (∀ u, Gp n 0 E0 v0 u ↔ Gp n 0 E (fun _ => 0) u) /\ ∀ i < n, Gp n i E (fun _ => 0) (eD d i) := by
 have hv : v = fun _ => 0 := by
  funext i;rcases Nat.lt_or_ge i n with h1 | h1
  . exact h.vz i h1
  . exact hvn i h1
 have h1 := h.fb;have h2 := h.dk';rw [hv] at h1 h2;exact ⟨h.tri, h1, fun i hi => h2 i hi hi⟩
end
def LD (r : Nat) (A : Mx) (d : Int) (n : Nat) (u : Nat -> Int) : Prop := ∃ x z : Nat -> Int, ∀ i, u i = sm r (fun t => x t * A t i) + if i < n then d * z i else 0
theorem LD.cl (r : Nat) (A : Mx) (d : Int) (n : Nat) : Cl (LD r A d n) :=
 ⟨⟨fun _ => 0, fun _ => 0, fun i => by rw [bR fun t _ => De _]; simp⟩,
  fun u w ⟨x, z, h1⟩ ⟨y, e, h2⟩ => ⟨fun t => x t + y t, fun i => z i + e i, fun i => by
   show u i + w i = _;rw [h1, h2, show (fun t => (x t + y t) * A t i) = fun t => x t * A t i + y t * A t i from by funext t; rw [DY], im];split
   . rw [DB]; omega
   . omega⟩,
  fun c u ⟨x, z, h1⟩ => ⟨fun t => c * x t, fun i => c * z i, fun i => by
   show c * u i = _;rw [h1, show (fun t => c * x t * A t i) = fun t => c * (x t * A t i) from by funext t; rw [CH], bQ, DB];split
   . rw [Dr]
   . rw [CS]⟩⟩
theorem LD.row {r t : Nat} {A : Mx} {d : Int} {n : Nat} (h : t < r) : LD r A d n (A t) :=
 ⟨fun s => if s = t then 1 else 0, fun _ => 0, fun i => by
  rw [eH t h fun s _ h => by show (if s = t then (1 : Int) else 0) * _ = 0; rw [if_neg h, De]];show _ = (if t = t then (1 : Int) else 0) * _ + _;rw [if_pos rfl]; simp⟩
theorem LD.eD {r i : Nat} {A : Mx} {d : Int} {n : Nat} (h : i < n) : LD r A d n (eD d i) :=
 ⟨fun _ => 0, fun k => if k = i then 1 else 0, fun k => by
  rw [bR fun t _ => De _];unfold Go.Proofs.YtjjlmfmoihooiaaGreat.eD;by_cases e : k = i
  . subst e; rw [if_pos rfl, if_pos h]; show d = 0 + d * (if k = k then 1 else 0); rw [if_pos rfl]; omega
  . rw [if_neg e]; simp [e]⟩
theorem LD.least {P : (Nat -> Int) -> Prop} (h : Cl P) {r n : Nat} {A : Mx} {d : Int} {u : Nat -> Int} (hu : LD r A d n u) (hA : ∀ t < r, P (A t)) (hd : ∀ i < n, P (Go.Proofs.YtjjlmfmoihooiaaGreat.eD d i)) : P u := by
 obtain ⟨x, z, h1⟩ := hu;have e : u = fun i => Go.Proofs.YtjjlmfmoihooiaaGreat.sm r (fun t => x t * A t i) + if i < n then d * z i else 0 := funext h1;rw [e];exact h.add _ _ (h.sm x A r fun t ht _ => hA t ht) (h.yF (d := d) (n := n) (j := 0) (c := z) (fun i hi _ => hd i hi) (fun i _ hi => if_pos hi) (fun i hi => if_neg Cp))
structure nO (n : Nat) (d : Int) (A : Mx) (i : Nat) (E : Mx) : Prop where
 tri : Tri n d E
 dk : ∀ k < n, Gp n k E (fun _ => 0) (eD d k)
 lat : ∀ u, Gp n 0 E (fun _ => 0) u ↔ LD i A d n u
theorem nO.start {n : Nat} {d : Int} (hd : 0 < d) (A : Mx) {E : Mx} (hE : ∀ t < n, ∀ i, E t i = if i = t then d else 0) : nO n d A 0 E := by
 have hr : ∀ t, t < n -> E t = eD d t := fun t ht => funext fun i => hE t ht i;refine ⟨⟨fun t ht i hi => by rw [hE t ht, if_neg Cp], fun t ht => by rw [hE t ht, if_pos rfl]; omega, fun t ht i hi => by rw [hE t ht, if_neg Cp]; omega⟩, fun k hk => ?_, fun u => ⟨fun h => ?_, fun h => ?_⟩⟩
 . have := Gp.row (n := n) (k := k) (E := E) (v := fun _ => 0) hk (Ct _)
   rwa [hr k hk] at this
 . exact h.least (LD.cl ..) (fun t ht _ => by rw [hr t ht]; exact LD.eD ht) (LD.cl ..).zero
 . exact h.least (Gp.cl ..) (fun t ht => by omega) fun i hi => by
    have := Gp.row (n := n) (k := 0) (E := E) (v := fun _ => 0) hi (Cx _)
    rwa [hr i hi] at this
theorem nO.open {n i : Nat} {d : Int} {A E : Mx} (h : nO n d A i E) : iu n d E (A i) 0 E (A i) :=
 ⟨h.tri, fun i hi => by omega, fun u => Iff.rfl, fun i hi _ => h.dk i hi, fun i hi h1 => by omega⟩
theorem nO.next {n i : Nat} {d : Int} {A E E' : Mx} {v : Nat -> Int} (h : nO n d A i E) (hp : iu n d E (A i) n E' v) (hvn : ∀ q, n <= q -> v q = 0) : nO n d A (i + 1) E' := by
 obtain ⟨h1, h2, h3⟩ := hp.done hvn;refine ⟨h1, h3, fun u => (h2 u).symm.trans ⟨fun hu => ?_, fun hu => ?_⟩⟩
 . refine hu.least (LD.cl ..) (fun t ht _ => ?_) (LD.row Cp);have := (h.lat (E t)).1 (Gp.row ht (Cx _));exact this.least (LD.cl ..) (fun s hs => LD.row Cp) fun q hq => LD.eD hq
 . refine hu.least (Gp.cl ..) (fun t ht => ?_) fun q hq => (h.dk q hq).mono (Cx _);by_cases e : t = i
   . subst e; exact Gp.vec
   . exact ((h.lat (A t)).2 (LD.row Cp)).mono (Cx _)
structure o3 (n : Nat) (d : Int) (r : Nat) (A : Mx) (i j : Nat) (E : Mx) : Prop where
 low : ∀ t < n, ∀ k < t, E t k = 0
 pos : ∀ t < n, 0 < E t t /\ E t t <= d
 up : ∀ t < i, ∀ k, t < k -> 0 <= E t k /\ E t k < d
 dn : ∀ t < n, i < t -> ∀ k < n, t < k -> 0 <= E t k /\ E t k < E k k
 out : ∀ t < n, ∀ k, n <= k -> E t k = 0
 at_ : i < n -> ∀ k, i < k -> k < j -> k < n -> 0 <= E i k /\ E i k < E k k
 lat : ∀ u, Gp n 0 E (fun _ => 0) u ↔ LD r A d n u
theorem o3.start {n r : Nat} {d : Int} {A E : Mx} (h : nO n d A r E) (hd : 0 < d) (ho : ∀ t < n, ∀ k, n <= k -> E t k = 0) : o3 n d r A n n E :=
 ⟨h.tri.low, h.tri.pos, fun t ht k hk => h.tri.red t ht k hk, fun t ht h1 => by omega, ho, fun h1 => by omega, h.lat⟩
section
variable {n r i j : Nat} {d : Int} {A E : Mx}
theorem o3.above (h : o3 n d r A (i + 1) n E) (hi : i < n) : o3 n d r A i (i + 1) E := by
 refine ⟨h.low, h.pos, fun t ht k hk => h.up t Cp k hk, fun t ht h1 k hk h2 => ?_, h.out, fun _ k h1 h2 => by omega, h.lat⟩;by_cases e : t = i + 1
 . subst e; exact h.at_ ht k h2 hk hk
 . exact h.dn t ht Cp k hk h2
theorem o3.skip (h : o3 n d r A i j E) (hi : i < n) (hj : j < n) (hij : i < j) (h0 : (E i j).fdiv (E j j) = 0) : o3 n d r A i (j + 1) E := by
 refine ⟨h.low, h.pos, h.up, h.dn, h.out, fun hi k h1 h2 h3 => ?_, h.lat⟩;by_cases e : k = j
 . subst e;have hp := h.pos k hj;have h4 := Int.mul_fdiv_add_fmod (E i k) (E k k);rw [h0, CS, Ed] at h4;have h5 := Int.fmod_nonneg_of_pos (E i k) hp.1;have h6 := Int.fmod_lt_of_pos (E i k) hp.1;omega
 . exact h.at_ hi k h1 Cp h3
theorem o3.sub {q : Int} {R : Nat -> Int} (h : o3 n d r A i j E) (hi : i < n) (hj : j < n) (hij : i < j) (hq : q = (E i j).fdiv (E j j)) (hR : ∀ k, R k = if k < j \/ n <= k then E i k else E i k - q * E j k) : o3 n d r A i (j + 1) (bU E i R) := by
 have hR' : ∀ k, R k = E i k - q * E j k := fun k => by
  rw [hR];by_cases h1 : k < j
  . rw [if_pos (.inl h1), h.low j hj k h1]; simp
  . by_cases h2 : n <= k
    . rw [if_pos (.inr h2), h.out j hj k h2]; simp
    . rw [if_neg Cp]
 have hdiag : ∀ t < n, bU E i R t t = E t t := fun t ht => by
  by_cases e : t = i
  . subst e; rw [bV, hR, if_pos (.inl hij)]
  . rw [aZ E e]
 have key : ∀ u, Gp n 0 E (fun _ => 0) u ↔ Gp n 0 (bU E i R) (fun _ => 0) u := fun u => by
  have c1 := Gp.cl n 0 E fun _ => 0;have c2 := Gp.cl n 0 (bU E i R) fun _ => 0;have r0 : ∀ t < n, t ≠ i -> Gp n 0 (bU E i R) (fun _ => 0) (E t) := fun t ht e => by
   have := Gp.row (n := n) (k := 0) (E := bU E i R) (v := fun _ => 0) ht (Cx _)
   rwa [aZ E e] at this
  constructor
  . intro hu;refine hu.least c2 (fun t ht _ => ?_) c2.zero;by_cases e : t = i
    . subst e;have h1 := Gp.row (n := n) (k := 0) (E := bU E t R) (v := fun _ => 0) ht (Cx _);rw [bV] at h1;have h2 := c2.add _ _ h1 (c2.smul q _ (r0 j hj Cp));have e : (fun k => R k + q * E j k) = E t := by funext k; rw [hR']; omega
      rw [e] at h2; exact h2
    . exact r0 t ht e
  . intro hu;refine hu.least c1 (fun t ht _ => ?_) c1.zero;by_cases e : t = i
    . subst e;rw [bV];have h2 := c1.sub (Gp.row (n := n) (k := 0) (E := E) (v := fun _ => 0) ht (Cx _)) (c1.smul q _ (Gp.row (n := n) (k := 0) (E := E) (v := fun _ => 0) hj (Cx _)));have e : (fun k => E t k - q * E j k) = R := by funext k; rw [hR']
      rw [e] at h2; exact h2
    . rw [aZ E e]; exact Gp.row ht (Cx _)
 refine ⟨fun t ht k hk => ?_, fun t ht => by rw [hdiag t ht]; exact h.pos t ht, fun t ht k hk => by rw [aZ E Cp]; exact h.up t ht k hk, fun t ht h1 k hk h2 => by rw [aZ E (by omega : t ≠ i), hdiag k hk]; exact h.dn t ht h1 k hk h2, fun t ht k hk => ?_, fun _ k h1 h2 h3 => ?_, fun u => (key u).symm.trans (h.lat u)⟩
 . by_cases e : t = i
   . subst e; rw [bV, hR, if_pos (.inl Cp)]; exact h.low t ht k hk
   . rw [aZ E e]; exact h.low t ht k hk
 . by_cases e : t = i
   . subst e; rw [bV, hR, if_pos (.inr hk)]; exact h.out t ht k hk
   . rw [aZ E e]; exact h.out t ht k hk
 . rw [bV, hdiag k h3];by_cases e : k = j
   . subst e;have hp := h.pos k hj;have h4 := Int.mul_fdiv_add_fmod (E i k) (E k k);have h5 := Int.fmod_nonneg_of_pos (E i k) hp.1;have h6 := Int.fmod_lt_of_pos (E i k) hp.1;rw [hR', hq, Dc]; omega
   . rw [hR, if_pos (.inl Cp)]; exact h.at_ hi k h1 Cp h3
end
structure Md (n : Nat) (d : Int) (r : Nat) (A E : Mx) : Prop where
 herm : eo n n E fun i => i
 lat : ∀ u, Gp n 0 E (fun _ => 0) u ↔ LD r A d n u
theorem o3.done {n r : Nat} {d : Int} {A E : Mx} (h : o3 n d r A 0 n E) : Md n d r A E := by
 refine ⟨⟨⟨fun i k h1 _ => h1, fun i hi => hi, fun i hi j hj => h.low i hi j hj, fun i hi => (h.pos i hi).1⟩, fun i k h1 h2 => ?_⟩, h.lat⟩;rcases Dn i with e | e
 . subst e; exact h.at_ Cp k h1 h2 h2
 . exact h.dn i Cp e k h2 h1
theorem Gp.sp {n : Nat} {E : Mx} {u : Nat -> Int} : Gp n 0 E (fun _ => 0) u ↔ Sp n E u := by
 constructor
 . rintro ⟨x, c, _, h⟩; exact ⟨x, fun j => by rw [h]; simp⟩
 . rintro ⟨x, h⟩; exact ⟨x, 0, fun t ht => by omega, fun i => by rw [h]; simp⟩
theorem Md.sp {n r : Nat} {d : Int} {A E : Mx} (h : Md n d r A E) (u : Nat -> Int) : Sp n E u ↔ LD r A d n u := Gp.sp.symm.trans (h.lat u)
theorem Md.unique {n r s : Nat} {d e : Int} {A B E F : Mx} (h : Md n d r A E) (k : Md n e s B F) (hL : ∀ u, LD r A d n u ↔ LD s B e n u) : ∀ t, t < n -> ∀ j, E t j = F t j :=
 (h.herm.unique k.herm ⟨fun t ht => (k.sp _).2 ((hL _).1 ((h.sp _).1 (Sp.row E ht))), fun t ht => (h.sp _).2 ((hL _).2 ((k.sp _).1 (Sp.row F ht)))⟩).2.2
theorem AM {n r : Nat} {d : Int} {A E : Mx} (hd : 0 < d) (h : Md n d r A E) (hA : ∀ t < r, ∀ i, d ∣ A t i) (hz : ∀ t < r, ∀ i, n <= i -> A t i = 0) : ∀ t, t < n -> ∀ j, E t j = if t = j then d else 0 := by
 obtain ⟨F, hF⟩ : ∃ F : Mx, ∀ t, F t = eD d t := ⟨fun t => eD d t, fun _ => rfl⟩;have hF' : ∀ t i, F t i = if i = t then d else 0 := fun t i => by rw [hF]; rfl
 have hM : Md n d 0 A F := by
  refine ⟨⟨⟨fun i k h1 _ => h1, fun i hi => hi, fun i hi j hj => by rw [hF', if_neg Cp], fun i hi => by rw [hF', if_pos rfl]; exact hd⟩, fun i k h1 h2 => by rw [hF', hF', if_neg Cp, if_pos rfl]; omega⟩, (nO.start hd A fun t ht i => hF' t i).lat⟩
 intro t ht j;have := h.unique hM (fun u => ⟨fun hu => hu.least (LD.cl ..) (fun s hs => ?_) fun i hi => LD.eD hi, fun hu => hu.least (LD.cl ..) (fun s hs => by omega) fun i hi => LD.eD hi⟩) t ht j
 . rw [this, hF'];by_cases e : t = j
   . subst e; rfl
   . rw [if_neg e, if_neg (fun q => e q.symm)]
 . exact (LD.cl 0 A d n).yF (d := d) (n := n) (j := 0) (c := fun i => A s i / d) (fun i hi _ => LD.eD hi) (fun i _ _ => (EN (hA s hs i)).symm) (fun i hi => hz s hs i Cp)
theorem xo {a e q x d : Int} {M D : Nat} (ha : a.natAbs <= M) (hx : x.natAbs <= M) (he : 0 <= e /\ e <= d) (hb : 0 < x \/ x <= 0) (hq : q.natAbs <= x.natAbs) (hD : d.natAbs + 1 <= D) : (a - q * e).natAbs <= M * D := by
 have h1 : (a - q * e).natAbs <= a.natAbs + (q * e).natAbs := by omega
 have h2 : (q * e).natAbs <= M * d.natAbs := by
  rw [CP]; exact Da (Cw hq hx) Cp
 have h3 := CD M hD;rw [CA, Ee] at h3;omega
theorem pF {a b : Int} (hb : 0 < b) : (a.fdiv b).natAbs <= a.natAbs := by
 have h1 := Int.mul_fdiv_add_fmod a b;have h2 := Int.fmod_nonneg_of_pos a hb;have h3 := Int.fmod_lt_of_pos a hb;rcases Int.lt_or_le (a.fdiv b) 0 with h | h
 . have h4 : b * (a.fdiv b + 1) <= 1 * (a.fdiv b + 1) := Int.mul_le_mul_of_nonpos_right Cp Cp;rw [DB, Eg] at h4; omega
 . have h4 : 1 * a.fdiv b <= b * a.fdiv b := Int.mul_le_mul_of_nonneg_right Cp h;omega
end Go.Proofs.YtjjlmfmoihooiaaGreat
namespace Go.Proofs.YtjjlmfmoihooiaaGreat
open Go.RowKit
structure jL where
 ro : Option Addr
 rc : Nat
 gs : List Nat
 E : List (List Int)
 dp : P4
 d : Int
def qG (z : jL) : List Value := [.slice z.ro z.E.length z.rc, .bool z.dp.1, .slice z.dp.2.1 z.dp.2.2.1 z.dp.2.2.2]
abbrev AD (gB m : Nat) (z : jL) : List En := [.row gB 95 (qG z), .lg 22 1 z.ro z.E.length z.rc (hG m z.gs), .jm z.E.length z.gs z.E, .num (av z.dp) z.d]
def dM (gB m : Nat) (z : jL) (w : World) : Prop := (aa w gB 95 (qG z) /\ mL 22 1 z.ro z.E.length z.rc (hG m z.gs) w /\ Aj z.E.length z.gs z.E w /\ aL w (av z.dp) z.d) /\ z.gs.length = z.E.length /\ fT z.gs z.E.length
def dr (gB : Nat) (z : jL) (g : Nat) : Prop := g = gB \/ (∃ o, z.ro = some ⟨g, o, none⟩) \/ ∃ t, t < z.E.length /\ t ≠ z.E.length /\ g = z.gs.getD t 0
theorem dM.rows {gB m : Nat} {z : jL} {w : World} (h : dM gB m z w) {g : Nat} (hg : dr gB z g) : ∃ t cs, aa w g t cs /\ aN cs /\ t ≠ 60 := by
 obtain ⟨⟨h1, h2, h4, h5⟩, _⟩ := h;rcases hg with rfl | hg | ⟨t, ht, hx, rfl⟩
 . exact ⟨_, _, h1, aN.slice (aN.bool (aN.slice aN.nil)), by decide⟩
 . obtain ⟨tl, hn, hr⟩ := gP h2 hg;exact ⟨_, _, hr, (ic m z.gs).append hn, by decide⟩
 . obtain ⟨ps, tl, hn, hr, _⟩ := h4 t ht hx;exact ⟨_, _, hr, aN.rn hn, by decide⟩
theorem dM.wl {gB m : Nat} {z : jL} {w : World} (h : dM gB m z w) : Wl (dr gB z) w := fun _ hg => h.rows hg
theorem dM.iJ {gB m : Nat} {z : jL} {w w' : World} {T : Nat -> Prop} (h : dM gB m z w) (hc : aU T w w') (hT : Wl T w) (hs : ∀ b, dr gB z b -> ¬ T b) : dM gB m z w' := by
 obtain ⟨⟨h1, h2, h4, h5⟩, h6, h7⟩ := h;refine ⟨⟨hc.row h1 (hs _ (.inl rfl)), ?_, fun t ht hx => ?_, hc.num hT.bZ h5⟩, h6, h7⟩
 . exact ⟨h2.1, h2.2.1, h2.2.2.imp id fun ⟨b, tl, e, hn, hr, hl⟩ => ⟨b, tl, e, hn, hc.row hr (hs _ (.inr (.inl ⟨0, e⟩))), hl⟩⟩
 . obtain ⟨ps, tl, hn, hr, h1', h2'⟩ := h4 t ht hx;exact ⟨ps, tl, hn, hc.row hr (hs _ (.inr (.inr ⟨t, ht, hx, rfl⟩))), h1', fun i a => hc.num hT.bZ (h2' i a)⟩
abbrev En.ly (gB m : Nat) (z : jL) : En := .fact true true (dr gB z) (dM gB m z) (fun h g hg => by obtain ⟨t, cs, hr, _⟩ := h.rows hg; exact hr.lt) (fun h hc hT hs => h.iJ hc (hT rfl) hs)
abbrev En.wS (gB m : Nat) (z : jL) (g : Nat) (ps : List P4) (tl : List Value) (xs : List Int) : En := .fact true true (fun b => dr gB z b \/ b = g) (fun w => dM gB m z w /\ aN tl /\ aa w g 37 (rn ps tl) /\ bX w ps xs /\ ¬ dr gB z g)
 (fun h b hb => hb.elim (fun hb => by obtain ⟨t, cs, hr, _⟩ := h.1.rows hb; exact hr.lt) (fun e => e ▸ h.2.2.1.lt))
 (fun h hc hT hs => ⟨h.1.iJ hc (hT rfl) (fun b hb => hs b (.inl hb)), h.2.1, hc.row h.2.2.1 (hs _ (.inr rfl)), ⟨h.2.2.2.1.1, fun i a => hc.num (hT rfl).bZ (h.2.2.2.1.2 i a)⟩, h.2.2.2.2⟩)
theorem Fr.Ca {S0 : Nat -> Prop} {w0 w : World} {es : List En} {gB m : Nat} {z : jL} (h : Fr S0 w0 w (.ly gB m z :: es)) : Fr S0 w0 w (AD gB m z ++ es) /\ z.gs.length = z.E.length /\ fT z.gs z.E.length := by
 obtain ⟨⟨h1, h2, h4, h5⟩, h6, h7⟩ := (h.m0 : dM gB m z w);have q12 : ∀ b, (∃ o, z.ro = some ⟨b, o, none⟩) -> b ≠ gB := fun b hb e => by
  obtain ⟨tl, _, hr⟩ := gP h2 hb; subst e; exact absurd rfl (hr.ne h1 Cr)
 have q14 : ∀ b, (∃ t, t < z.E.length /\ t ≠ z.E.length /\ b = z.gs.getD t 0) -> b ≠ gB := fun b ⟨t, ht, hx, e'⟩ e => by
  obtain ⟨ps, tl, _, hr, _⟩ := h4 t ht hx; rw [<- e', e] at hr; exact absurd rfl (hr.ne h1 Cr)
 have q24 : ∀ b, (∃ o, z.ro = some ⟨b, o, none⟩) -> ¬ ∃ t, t < z.E.length /\ t ≠ z.E.length /\ b = z.gs.getD t 0 := fun b hb ⟨t, ht, hx, e'⟩ => by
  obtain ⟨tl, _, hr⟩ := gP h2 hb; obtain ⟨ps, tl', _, hr', _⟩ := h4 t ht hx; rw [<- e'] at hr'; exact absurd rfl (hr.ne hr' Cr)
 refine ⟨h.o6 rfl (fun x hx => ?_) ?_, h6, h7⟩
 . simp only [AD, Di, CX, or_false] at hx;rcases hx with rfl | rfl | rfl | rfl
   . exact ⟨h1, fun b e => .inl e⟩
   . exact ⟨h2, fun b e => .inr (.inl e)⟩
   . exact ⟨h4, fun b e => .inr (.inr e)⟩
   . exact ⟨h5, fun b e => e.elim⟩
 . refine .cons (fun x hx => ?_) (.cons (fun x hx => ?_) (.cons (fun x hx => ?_) (.cons (fun x hx => (DQ hx).elim) .nil)))
   . simp only [Di, CX, or_false] at hx;rcases hx with rfl | rfl | rfl
     . exact ⟨fun _ b hb hb' => q12 b hb' hb, fun _ b hb' hb => q12 b hb' hb⟩
     . exact ⟨fun _ b hb hb' => q14 b hb' hb, fun _ b hb' hb => q14 b hb' hb⟩
     . exact ⟨fun _ _ _ h => h, fun q => nomatch q⟩
   . simp only [Di, CX, or_false] at hx;rcases hx with rfl | rfl
     . exact ⟨fun _ b hb hb' => q24 b hb hb', fun _ b hb' hb => q24 b hb hb'⟩
     . exact ⟨fun _ _ _ h => h, fun q => nomatch q⟩
   . simp only [Di, CX, or_false] at hx;rcases hx with rfl;exact ⟨fun _ _ _ h => h, fun q => nomatch q⟩
theorem Fr.basS {gB m : Nat} {z : jL} {w : World} (h : dM gB m z w) : Fr (dr gB z) w w [.ly gB m z] :=
 ⟨aU.refl _ _, fun e he => by rcases List.mem_singleton.1 he with rfl; exact h, CM .., fun e he _ b hb => by rcases List.mem_singleton.1 he with rfl; exact .inl hb⟩
def ma (n : Nat) (d : Int) (k : Nat) : List (List Int) := (List.range k).map fun i => (List.replicate n 0).set i d
theorem fY (n : Nat) (d : Int) (k : Nat) : (ma n d k).length = k := by simp [ma]
theorem xH (n : Nat) (d : Int) (k : Nat) : ma n d (k + 1) = ma n d k ++ [(List.replicate n 0).set k d] := by simp [ma, Ey]
theorem Bq {n i : Nat} {d : Int} (hi : i < n) (j : Nat) : bP (ma n d n) i j = if j = i then d else 0 := by
 unfold bP ma;simp only [List.getD_eq_getElem?_getD, List.getElem?_map, List.getElem?_range hi, Option.map_some, Option.getD_some];rw [gO (by simpa using hi)];by_cases e : j = i
 . rw [if_pos e, if_pos e]
 . rw [if_neg e, if_neg e];by_cases h : j < n
   . rw [cU (by simpa using h)]; simp
   . exact fI _ _ (by simp; omega)
structure MsX where
 k : Nat
 ro : Option Addr
 rc : Nat
 gs : List Nat
structure MsI (n : Nat) (x : MsX) : Prop where
 hk : x.k <= n
 hl : x.gs.length = x.k
 hi : fT x.gs x.k
theorem yy (n : Nat) (d : Int) (pd : P4) (w : World) (hn : n <= 64) (hD : ah w 17592186044415 (av pd) d) :
 Calls Tryz.prog 62 #[.int .i64 (n : Int), av pd] w fun e w' => ∃ q : Nat × jL, e = .returned (.pointer (some ⟨q.1, 0, none⟩)) /\ Nw w w' [.ly q.1 n q.2] /\ q.2.E = ma n ((d.natAbs : Nat) : Int) n /\ q.2.d = ((d.natAbs : Nat) : Int) := by
 refine bN (S0 := fun _ => False) Tryz.func62 ((Fr.nil _ w).i hD) ?_;clear hD;obtain ⟨D, hDe⟩ : ∃ D : Int, ((d.natAbs : Nat) : Int) = D := ⟨_, rfl⟩;rw [hDe];have HD := H5 hDe;clear hDe;refine aA ?_;refine aW fun g3 => ?_;refine aC ?_;refine dO ?_;refine cN (x := D) (fun w' H => by have := lN (av pd) d w' (H.all (.at 17592186044415 (av pd) d) (by simp [av])); rw [HD.out] at this; exact this) fun p9 => ?_;refine dW ?_;refine aW fun g11 => ?_;refine aC ?_;refine dO ?_;refine aC ?_;refine zU (te := 22) (sz := 1) ?_;refine Bc ?_;refine cF (X := MsX) (MsI n) (fun x => n - x.k) (fun x => [(13, .int .i64 (x.k : Int)), (12, .int .i64 (n : Int)), (5, .pointer (some ⟨g11, 0, none⟩)), (3, .pointer (some ⟨g3, 0, none⟩)), (0, .int .i64 (n : Int))])
  (fun x => [.row g11 95 [.slice x.ro x.k x.rc, .bool p9.1, .slice p9.2.1 p9.2.2.1 p9.2.2.2], .row g3 37 [.bool pd.1, .slice pd.2.1 pd.2.2.1 pd.2.2.2], .lg 22 1 x.ro x.k x.rc (hG n x.gs), .own w.heap.size (av p9) D, .at 17592186044415 (av pd) d, .jm x.k x.gs (ma n D x.k)]) ⟨0, none, 0, []⟩ ⟨Cx _, rfl, fun a b ha => absurd ha (Dv _)⟩ fun x hx => ?_
 obtain ⟨k, ro, rc, gs⟩ := x;have hk : k <= n := hx.hk;have HM : Hid (MsI n ⟨k, ro, rc, gs⟩) := H5 hx;clear hx;by_cases h : k < n
 . have h01 : (k : Int) < (n : Int) := by omega
   refine aA ?_;refine kq ?_;refine aA ?_;refine dW ?_;refine aC ?_;refine dO ?_;refine mN n n rfl rfl (Ct _) Cp fun g => ?_;refine aC ?_;refine lP (e := .ns (List.replicate n p0) (List.replicate n 0)) (fun w' _ => bX.pJ w' n) ?_;refine rW [] ?_;refine aT ?_;refine dW ?_;refine cN (x := D) (fun w' H => by have := lN (av pd) d w' (H.all (.at 17592186044415 (av pd) d) (by simp [av])); rw [HD.out] at this; exact this) fun p2 => ?_;refine je (e := .ns ((List.replicate n p0).set k p2) ((List.replicate n 0).set k D)) (fun w' H => bX.set (H.all (.ns (List.replicate n p0) (List.replicate n 0)) Cq) k (H.all (.own w.heap.size (av p2) D) (by simp [av]) : ai ..).num) ?_;refine dW ?_;refine sN (ps := List.replicate n p0) k p2 (by simpa using h) aN.nil rfl ?_;refine eQ ?_;refine xw (A := ∀ t, t < k -> gs.getD t 0 ≠ g) (fun w' h' => by
    have h2 : Fr _ w w' (.row g 37 (rn ((List.replicate n p0).set k p2) []) :: .ns ((List.replicate n p0).set k p2) ((List.replicate n 0).set k D) :: .jm k gs (ma n D k) :: []) := h'.pick (by repeat (first | exact Pk.n | refine Pk.c (by repeat (first | exact Rm.z | apply Rm.s)) ?_));have h3 := (h2.qX (x' := k + 1) (by rw [fY]; exact HM.out.hl) (by rw [fY]; exact Ct _) (by rw [fY]; omega) aN.nil).2;rw [fY] at h3; exact h3) fun hne => ?_
   have HN := H5 hne;clear hne;refine rW [] ?_;refine bh ?_;refine aT ?_;refine bW (m := 1) fun g29 => ?_;refine Am (k := k) (cap := rc) (g := g29) (c := 1) (ao := ro) (cs := hG n gs) (v := .slice (some ⟨g, 0, none⟩) n n) Tryz.underlying70 yz rfl (qn (.slice none 0 0) rfl (fun n h => nomatch h)) Cp Cp rfl ⟨ic n gs, by decide⟩ Cq fun u => ?_;refine aT ?_;refine sW ?_;refine eW ?_;refine aA ?_;refine dE (dL (a := k) Cp) ?_;refine aC ?_;exact cD (⟨k + 1, u.1, u.2, gs ++ [g]⟩ : MsX) ⟨⟨h, by show (gs ++ [g]).length = k + 1; rw [CQ, show gs.length = k from HM.out.hl]; rfl, oT HM.out.hl HM.out.hi HN.out⟩, by show n - (k + 1) < n - k; omega⟩ (he := by
    intro w' h';rw [uJ] at h';have h2 := h'.pick (es' := .row g 37 (rn ((List.replicate n p0).set k p2) []) :: .ns ((List.replicate n p0).set k p2) ((List.replicate n 0).set k D) :: .jm k gs (ma n D k) :: [.row g11 95 [.slice u.1 (k + 1) u.2, .bool p9.1, .slice p9.2.1 p9.2.2.1 p9.2.2.2], .row g3 37 [.bool pd.1, .slice pd.2.1 pd.2.2.1 pd.2.2.2], .lg 22 1 u.1 (k + 1) u.2 (hG n (gs ++ [g])), .own w.heap.size (av p9) D, .at 17592186044415 (av pd) d]) (by repeat (first | exact Pk.n | refine Pk.c (by repeat (first | exact Rm.z | apply Rm.s)) ?_));have h3 := (h2.qX (x' := k + 1) (by rw [fY]; exact HM.out.hl) (by rw [fY]; exact Ct _) (by rw [fY]; omega) aN.nil).1;rw [<- xH] at h3;exact h3.pick (by repeat (first | exact Pk.n | refine Pk.c (by repeat (first | exact Rm.z | apply Rm.s)) ?_)))
 . obtain rfl : n = k := by omega
   refine aA ?_;refine fC ?_;refine aA ?_;refine dW ?_;refine aC ?_;refine dZ fun w' H => ?_;have hE : (ma n D n).length = n := fY ..;have hF : dM g11 n ⟨ro, rc, gs, ma n D n, p9, D⟩ w' := by
    refine ⟨⟨?_, ?_, ?_, ai.num (H.all (.own w.heap.size (av p9) D) (by simp [av]))⟩, by show gs.length = (ma n D n).length; rw [hE]; exact HM.out.hl, by show fT gs (ma n D n).length; rw [hE]; exact HM.out.hi⟩
    . show aa w' g11 _ [.slice ro (ma n D n).length rc, _, _];rw [hE]; exact H.m0
    . show mL _ 1 ro (ma n D n).length rc (hG n gs) w';rw [hE]; exact H.m2
    . show Aj (ma n D n).length gs _ w';rw [hE]; exact H.all (.jm n gs (ma n D n)) Cq
   have hS : ∀ b, dr g11 ⟨ro, rc, gs, ma n D n, p9, D⟩ b -> w.heap.size <= b := by
    rintro b (e | e | ⟨t, ht, _, e⟩)
    . exact (H.own (.row g11 95 [.slice ro n rc, .bool p9.1, .slice p9.2.1 p9.2.2.1 p9.2.2.2]) Cq rfl b e).elim (fun h => h.elim) id
    . exact (H.own (.lg 22 1 ro n rc (hG n gs)) Cq rfl b e).elim (fun h => h.elim) id
    . exact (H.own (.jm n gs (ma n D n)) Cq rfl b ⟨t, ht, by have h : t < (ma n D n).length := ht; omega, e⟩).elim (fun h => h.elim) id
   exact ⟨_, dT, (g11, ⟨ro, rc, gs, ma n D n, p9, D⟩), rfl, ⟨H.below, fun e he => by rcases List.mem_singleton.1 he with rfl; exact ⟨hF, hS⟩, CM ..⟩, rfl, rfl⟩
theorem nF {w : World} {g L : Nat} {ps : List P4} {tl : List Value} {xs : List Int} (hr : aa w g 37 (rn ps tl)) (hns : bX w ps xs) (hb : ∀ x ∈ xs, ag x.natAbs <= L) : aQ w L (some ⟨g, 0, none⟩) xs := fun _ =>
 ⟨g, 0, rfl, hr.lt, fun i hi => ⟨gp ps i, by rw [hr.cell, Db]; exact tu tl (by rw [hns.1]; exact hi), by rw [hr.cell, Db]; exact tt tl (by rw [hns.1]; exact hi), by
  have := (hns.2 i (by rw [hns.1]; exact hi)).int (L := L) (hb _ (dP hi)); rw [cU hi] at this; exact this⟩⟩
theorem vE {P : Program} {S0 : Nat -> Prop} {w0 : World} {n : Nat} {ls : List (Nat × Value)} {es : List En} {fn : Func} {R : Ending -> World -> Prop} (k : ∀ w, Fr S0 w0 w es -> R (.returned (.tuple #[])) w) (h : fn.results = #[] := by rfl) : QW n S0 w0 (bodyPost P fn R) .normal ls es := fun a w ha hw =>
 bodyPost_end (v := .tuple #[]) (by simp [results, h]) ha.df (k w hw)
section
variable {P : Program} {ops : Array Oper} {Q : Exit -> Act -> World -> Prop} {ds : List Deferred} {S0 : Nat -> Prop} {w0 : World} {E0 : List En} {hd : List (List Nat)} {n j s : Nat} {l : List Nat} {G E : List En} {ls : List (Nat × Value)} {op : Op} {ty : TypeId} {pos : String} {af : Array Edge} {f : FuncId} {args : Array Value}
theorem cN3 {x y z : Int} (c : ∀ w, Fr S0 w0 w (G ++ E) -> Calls P f args w fun e w' => (∃ v v' v'', e = .returned (.tuple #[v, v', v'']) /\ ai w' w.heap.size v x /\ ai w' w.heap.size v' y /\ ai w' w.heap.size v'' z) /\ Below w.heap.size w w')
 (k : ∀ p q r : P4, dY ds ⟨P, ops, Q, S0, w0, E0, hd⟩ n l (.own w0.heap.size (av p) x :: .own w0.heap.size (av q) y :: .own w0.heap.size (av r) z :: G) E ((s, .tuple #[.agg #[.bool p.1, .slice p.2.1 p.2.2.1 p.2.2.2], .agg #[.bool q.1, .slice q.2.1 q.2.2.1 q.2.2.2], .agg #[.bool r.1, .slice r.2.1 r.2.2.1 r.2.2.2]]) :: ls))
 (ho : ops[j]? = some ⟨some s, op, ty, pos, af, none⟩ := by rfl) (hk : (!bY op && !dD op && ew ls op && Nat.blt s n) = true := by kernel_rfl)
 (hr : ∀ w, (execOp (dy ls) ⟨some s, op, ty, pos, af, none⟩).run P w = .ok (.enter f args) w := by intro w; (try simp only [av]); go_simp <;> with_reducible rfl)
 (hst : fU ops hd j [] = true := by kernel_rfl) : dY ds ⟨P, ops, Q, S0, w0, E0, hd⟩ n (j :: l) G E ls := by
 refine cG (α := P4 × P4 × P4) (mk := fun p => .tuple #[av p.1, av p.2.1, av p.2.2]) (ens := fun p => [.own w0.heap.size (av p.1) x, .own w0.heap.size (av p.2.1) y, .own w0.heap.size (av p.2.2) z]) (fun w hw => (c w hw).mono ?_) (fun p => k p.1 p.2.1 p.2.2) ho hk hr ⟨(p0, p0, p0)⟩ hst;rintro e w' ⟨⟨v, v', v'', rfl, hv, hv', hv''⟩, hb⟩;obtain ⟨b, ao, l', k', rfl⟩ := ai.parts hv;obtain ⟨b2, ao2, l2, k2, rfl⟩ := ai.parts hv';obtain ⟨b3, ao3, l3, k3, rfl⟩ := ai.parts hv'';exact ⟨((b, ao, l', k'), (b2, ao2, l2, k2), (b3, ao3, l3, k3)), rfl, hb, fun e he => by
  simp only [Di, CX, or_false] at he;rcases he with rfl | rfl | rfl
  . exact ⟨ai.mono hv hw.size, fun _ h => h.elim⟩
  . exact ⟨ai.mono hv' hw.size, fun _ h => h.elim⟩
  . exact ⟨ai.mono hv'' hw.size, fun _ h => h.elim⟩, .cons (fun e he => by
    simp only [Di, CX, or_false] at he;rcases he with rfl | rfl <;> exact ⟨(fun h => nomatch h), (fun h => nomatch h)⟩) (.cons (fun e he => by
    rcases List.mem_singleton.1 he with rfl;exact ⟨(fun h => nomatch h), (fun h => nomatch h)⟩) (CM ..))⟩
end
theorem Bh (v u : Value) (a b : Int) (w : World) (hA : ah w 4398046511103 v a) (hB : ah w 4398046511103 u b) :
 Calls Tryz.prog 91 #[v, u] w fun e w' => (∃ vg vx vy, e = .returned (.tuple #[vg, vx, vy]) /\ ai w' w.heap.size vg (bT a b) /\ ai w' w.heap.size vx (eu a b) /\ ai w' w.heap.size vy (fP a b)) /\ Below w.heap.size w w' :=
 (yt v u a b w hA hB).mono fun e w' ⟨⟨g, x, y, vg, vx, vy, he, hE, h1, h2, h3⟩, hb⟩ => by
  obtain ⟨e1, e2, e3⟩ := hE.unique (j9 a b);subst e1 e2 e3;exact ⟨⟨vg, vx, vy, he, h1, h2, h3⟩, hb⟩
theorem yK {a b d : Int} (ha : 0 < a /\ a <= d) (hb : 0 < b /\ b < d) : 0 < bT a b /\ a = bT a b * (a / bT a b) /\ b = bT a b * (b / bT a b) /\ (bT a b).natAbs <= d.natAbs /\ (eu a b).natAbs <= d.natAbs /\ (fP a b).natAbs <= d.natAbs /\ (a / bT a b).natAbs <= d.natAbs /\ (b / bT a b).natAbs <= d.natAbs := by
 have h := j9 a b;unfold eU at h;rw [if_neg Cp] at h;obtain ⟨h1, h2, h3, h4⟩ := h
 revert h1 h2 h3 h4
 generalize bT a b = g;generalize eu a b = x;generalize fP a b = y;intro h1 h2 h3 h4;have hga : g ∣ a := by rw [h1]; exact Int.gcd_dvd_left ..
 have hgb : g ∣ b := by rw [h1]; exact Fb ..
 have hg0 : 0 < g := by
  rcases Fc g 0 with h5 | h5 | h5
  . rw [h1] at h5; omega
  . rw [h5] at hga; have := Int.zero_dvd.1 hga; omega
  . exact h5
 have hgle : g <= b := Int.le_of_dvd hb.1 hgb;have hxb : x < b := by
  have : x * 1 <= x * g := DM Cp h2;omega
 have hy : y <= 1 /\ -a <= y := by
  constructor
  . by_cases h5 : 1 < y
    . have h6 : b * 2 <= b * y := DM Cp Cp;have h7 : 0 <= a * x := Int.mul_nonneg Cp h2;omega
    . omega
  . by_cases h5 : y < -a
    . have h6 : b * y <= b * (-a - 1) := DM Cp Cp;have h7 : a * x <= a * (b - 1) := DM Cp Cp;rw [EM, Ew, Eg] at h6;rw [EM, Eg, Dc a b] at h7;omega
    . omega
 have ha2 : 0 <= a / g /\ a / g <= a := ⟨Int.ediv_nonneg Cp Cp, Int.ediv_le_self _ Cp⟩;have hb2 : 0 <= b / g /\ b / g <= b := ⟨Int.ediv_nonneg Cp Cp, Int.ediv_le_self _ Cp⟩;refine ⟨hg0, (EN hga).symm, (EN hgb).symm, by omega, by omega, by omega, by omega, by omega⟩
theorem Fr.rwoN {S0 : Nat -> Prop} {w0 w : World} {es : List En} {gs o : List Nat} {E : List (List Int)} {t g : Nat} {ps : List P4} {tl : List Value} {xs : List Int} (ht : t < E.length) (hl : gs.length = E.length) (hn : aN tl)
 (h : Fr S0 w0 w (.row g 37 (rn ps tl) :: .ns ps xs :: .fh (t :: o) gs E :: es)) (hto : t ∉ o) : Fr S0 w0 w (.fh o (gs.set t g) (E.set t xs) :: es) /\ ∀ s, s < E.length -> s ≠ t -> s ∉ o -> gs.getD s 0 ≠ g := by
 have hr : aa w g 37 (rn ps tl) := h.m0;have hns : bX w ps xs := h.m1;have hF : wQ (t :: o) gs E w := h.m2;have hs := List.pairwise_cons.1 h.sep;have eg : ∀ s, (gs.set t g).getD s 0 = if s = t then g else gs.getD s 0 := fun s => di Cp;have eE : ∀ s, (E.set t xs).getD s [] = if s = t then xs else E.getD s [] := fun s => di ht;refine ⟨Fr.uD (X := [.row g 37 (rn ps tl), .ns ps xs, .fh (t :: o) gs E]) h (fun s hs hso => ?_) fun b ⟨s, hs, hso, e⟩ => ?_, fun s h1 h2 h3 e => ?_⟩
 . rw [CL] at hs;rw [eg, eE];by_cases q : s = t
   . rw [if_pos q, if_pos q]; exact ⟨ps, tl, hn, hr, hns⟩
   . rw [if_neg q, if_neg q]; exact hF s hs (by simp [q, hso])
 . rw [CL] at hs;rw [eg] at e;by_cases q : s = t
   . rw [if_pos q] at e; exact ⟨.row g 37 (rn ps tl), by simp, rfl, e⟩
   . rw [if_neg q] at e; exact ⟨.fh (t :: o) gs E, by simp, rfl, s, hs, by simp [q, hso], e⟩
 . exact (hs.1 (.fh (t :: o) gs E) Cq).1 rfl g rfl ⟨s, h1, by simp [h2, h3], e.symm⟩
theorem yb {gs : List Nat} {n t g : Nat} (hl : gs.length = n) (ht : t < n) (h : fT gs n) (hg : ∀ s, s < n -> s ≠ t -> gs.getD s 0 ≠ g) : fT (gs.set t g) n := fun a b ha hb e => by
 rw [di Cp, di Cp] at e;by_cases h1 : a = t <;> by_cases h2 : b = t
 . omega
 . rw [if_pos h1, if_neg h2] at e; exact absurd e.symm (hg b hb h2)
 . rw [if_neg h1, if_pos h2] at e; exact absurd e (hg a ha h1)
 . rw [if_neg h1, if_neg h2] at e; exact h a b ha hb e
theorem qH {E : List (List Int)} {j : Nat} {R : List Int} (hj : j < E.length) : bP (E.set j R) = bU (bP E) j (gi R) := by
 funext t i;unfold bP bU;rw [di hj];split <;> rfl
structure PuX where
 j : Nat
 gs : List Nat
 E : List (List Int)
 bv : Nat
 ps : List P4
 tl : List Value
 xs : List Int
structure xW (n B : Nat) (d : Int) (E0 : Mx) (v0 : Nat -> Int) (x : PuX) : Prop where
 hj : x.j <= n
 gl : x.gs.length = n
 gi_ : fT x.gs n
 El : x.E.length = n
 rl : ∀ t < n, (x.E.getD t []).length = n
 pl : x.ps.length = n
 xl : x.xs.length = n
 pu : iu n d E0 v0 x.j (bP x.E) (gi x.xs)
 wb : ∀ a ∈ x.xs, ag a.natAbs <= B
 nt : aN x.tl
theorem xW.eb {n B : Nat} {d : Int} {E0 : Mx} {v0 : Nat -> Int} {x : PuX} (h : xW n B d E0 v0 x) {t : Nat} (ht : t < n) : ∀ a ∈ x.E.getD t [], ag a.natAbs <= ag d.natAbs := fun a ha => by
 obtain ⟨i, hi, rfl⟩ := Dh ha;rw [<- cU hi];refine aJ ?_;have e : gi (x.E.getD t []) i = bP x.E t i := rfl;rw [e];have h1 := h.pu.tri.low t ht i;have h2 := h.pu.tri.pos t ht;have h3 := h.pu.tri.red t ht i;rcases Dl i t with q | q | q
 . rw [h1 q]; simp
 . rw [q]; omega
 . have := h3 q; omega
theorem qS {x d : Int} (hd : 0 < d) : ag (x % d).natAbs <= ag d.natAbs := aJ (by have := DO x (show d ≠ 0 by omega); have := EY x hd; omega)
theorem lY {xs : List Int} {B j : Nat} {x : Int} (h : ∀ a ∈ xs, ag a.natAbs <= B) (hx : ag x.natAbs <= B) : ∀ a ∈ xs.set j x, ag a.natAbs <= B := fun a ha => by
 rcases EF ha with h1 | rfl
 . exact h a h1
 . exact hx
theorem xW.skip {n B j : Nat} {d : Int} {E0 : Mx} {v0 : Nat -> Int} {gs : List Nat} {E : List (List Int)} {bv : Nat} {ps ps' : List P4} {tl : List Value} {xs : List Int} (h : xW n B d E0 v0 ⟨j, gs, E, bv, ps, tl, xs⟩) (hj : j < n) (hd : 0 < d) (hdB : ag d.natAbs <= B) (hp : ps'.length = n) (h0 : gi xs j % d = 0) : xW n B d E0 v0 ⟨j + 1, gs, E, bv, ps', tl, xs.set j (gi xs j % d)⟩ := by
 have xl : xs.length = n := h.xl;refine ⟨hj, h.gl, h.gi_, h.El, h.rl, hp, by show (xs.set j _).length = n; rw [CL]; exact xl, ?_, lY h.wb (Cw (qS hd) hdB), h.nt⟩;exact h.pu.skip hj (fun i => gO Cp _) h0
theorem xW.mix {n B j : Nat} {d : Int} {E0 : Mx} {v0 : Nat -> Int} {gs : List Nat} {E : List (List Int)} {bv g1 g2 : Nat} {ps ps' : List P4} {tl : List Value} {xs : List Int} (h : xW n B d E0 v0 ⟨j, gs, E, bv, ps, tl, xs⟩) (hj : j < n) (hd : 0 < d) (hdB : ag d.natAbs <= B) (hp : ps'.length = n) (h0 : gi xs j % d ≠ 0)
 {a b : Int} {top xs1 : List Int} (ht : E.getD j [] = top) (ha : gi top j = a) (hb : gi xs j % d = b) (hx1 : xs.set j b = xs1) (hg : ∀ s, s < n -> s ≠ j -> gs.getD s 0 ≠ g1) :
 xW n B d E0 v0 ⟨j + 1, gs.set j g1, E.set j (jl n j (eu a b) top (fP a b) xs1 d), g2, ps', [], jl n j (a / bT a b) xs1 (-(b / bT a b)) top d⟩ := by
 have xl : xs.length = n := h.xl;have El : E.length = n := h.El;have gl : gs.length = n := h.gl;have x1l : xs1.length = n := by rw [<- hx1, CL]; exact xl
 have hm := h.pu.mod (V := gi xs1) hj fun i => by rw [<- hx1, gO Cp, hb]
 have hE : ∀ i, bP E j i = gi top i := fun i => by unfold bP; rw [ht]
 have hb1 : gi xs1 j = b := by rw [<- hx1, gO Cp, if_pos rfl]
 have hb2 : 0 < b /\ b < d := by
  have := DO (gi xs j) (show d ≠ 0 by omega); have := EY (gi xs j) hd; omega
 have ha2 : 0 < a /\ a <= d := by have := hm.tri.pos j hj; rw [hE, ha] at this; exact this
 obtain ⟨e0, e1, e2, _⟩ := yK ha2 hb2;have hout : ∀ l : List Int, l.length = n -> ∀ i, n <= i -> gi l i = 0 := fun l hl i hi => fI _ _ Cp;have htl : top.length = n := by rw [<- ht]; exact h.rl j hj
 have hmx := hm.mix (g := bT a b) (x := eu a b) (y := fP a b) (p := a / bT a b) (q := b / bT a b) (R := gi (jl n j (eu a b) top (fP a b) xs1 d)) (V := gi (jl n j (a / bT a b) xs1 (-(b / bT a b)) top d)) hj hd (hout _ x1l) (fun i hi => by rw [hE]; exact hout _ htl i hi) (by rw [hb1]; exact hb2.1) (by rw [hE, ha, hb1]; exact j9 a b) (by rw [hE, ha]; exact e1) (by rw [hb1]; exact e2)
  (fun i => by
   by_cases hi : i < n
   . rw [n4 hi, hE]; unfold oG;by_cases q : i < j
     . rw [if_pos q, if_pos (.inl q)]
     . rw [if_neg q, if_neg (c := i < j \/ n <= i) Cp]
   . rw [if_pos (.inr Cp)]; exact hout _ (fE ..) i Cp)
  (fun i => by
   by_cases hi : i < n
   . rw [n4 hi, hE]; unfold oG;by_cases q : i < j
     . rw [if_pos q, if_pos (.inl q)]
     . rw [if_neg q, if_neg (c := i < j \/ n <= i) Cp, Du, <- Int.sub_eq_add_neg]
   . rw [if_pos (.inr Cp)]; exact hout _ (fE ..) i Cp)
 refine ⟨hj, by show (gs.set j g1).length = n; rw [CL]; exact gl, yb gl hj h.gi_ hg, by show (E.set j _).length = n; rw [CL]; exact El, fun t htn => ?_, hp, fE .., ?_, fun c hc => ?_, aN.nil⟩
 . show ((E.set j _).getD t []).length = n;rw [di Cp];split
   . exact fE ..
   . exact h.rl t htn
 . show iu n d E0 v0 (j + 1) (bP (E.set j _)) _;rw [qH Cp]; exact hmx
 . obtain ⟨i, hi, rfl⟩ := Dh hc;have hin : i < n := by rw [fE] at hi; exact hi
   rw [<- cU hi];show ag (gi (jl n j _ _ _ _ d) i).natAbs <= B;by_cases q : i < j + 1
   . rw [hmx.vz i q]; simp [bb]
   . rw [n4 hin]; unfold oG;rw [if_neg Cp, if_neg Cp];exact Cw (qS hd) hdB
theorem BM {c j g : Nat} {gs : List Nat} (h : j < gs.length) (tl : List Value) : (hG c gs ++ tl).set j (.slice (some ⟨g, 0, none⟩) c c) = hG c (gs.set j g) ++ tl := by
 rw [DX _ _ (by rw [iW]; exact h)];congr 1;unfold hG;rw [ET]
theorem dM.of {gB m n rb rc : Nat} {gs : List Nat} {E : List (List Int)} {dp : P4} {d : Int} {tl1 : List Value} {w : World} (El : E.length = n) (gl : gs.length = n) (hi : fT gs n) (ht1 : aN tl1) (hl1 : (hG m gs ++ tl1).length = rc * 1)
 (h1 : aa w gB 95 [.slice (some ⟨rb, 0, none⟩) n rc, .bool dp.1, .slice dp.2.1 dp.2.2.1 dp.2.2.2]) (h2 : aa w rb 22 (hG m gs ++ tl1)) (h4 : wQ [] gs E w) (h5 : aL w (av dp) d) :
 dM gB m ⟨some ⟨rb, 0, none⟩, rc, gs, E, dp, d⟩ w := by
 subst El;refine ⟨⟨h1, ⟨by rw [iW, gl, Ee], ?_, .inr ⟨rb, tl1, rfl, ht1, h2, hl1⟩⟩, fun t ht _ => h4 t ht Cq, h5⟩, gl, hi⟩;show E.length <= rc;rw [CQ, iW] at hl1; omega
theorem dr.of {gB rb rc : Nat} {gs : List Nat} {E : List (List Int)} {dp : P4} {d : Int} {S : Nat -> Prop} (h1 : S gB) (h2 : S rb) (h4 : ∀ t, t < E.length -> S (gs.getD t 0)) : ∀ g, dr gB ⟨some ⟨rb, 0, none⟩, rc, gs, E, dp, d⟩ g -> S g := by
 rintro g (rfl | ⟨o, e⟩ | ⟨t, ht, _, rfl⟩)
 . exact h1
 . cases e; exact h2
 . exact h4 t ht
def sM (n : Nat) (z z' : jL) (xs : List Int) : Prop := z'.d = z.d /\ z'.E.length = n /\ (∀ t < n, (z'.E.getD t []).length = n) /\ ∃ V : List Int, V.length = n /\ iu n z.d (bP z.E) (gi xs) n (bP z'.E) (gi V)
theorem Fr.wS {gB m : Nat} {z : jL} {g : Nat} {ps : List P4} {tl : List Value} {xs : List Int} {w : World} (h : (En.wS gB m z g ps tl xs).F w) : Fr (fun b => dr gB z b \/ b = g) w w [.ly gB m z, .row g 37 (rn ps tl), .ns ps xs] := by
 have h0 : Fr (fun b => dr gB z b \/ b = g) w w [.wS gB m z g ps tl xs] := ⟨aU.refl _ _, fun e he => by rcases List.mem_singleton.1 he with rfl; exact h, CM .., fun e he _ b hb => by rcases List.mem_singleton.1 he with rfl; exact .inl hb⟩;obtain ⟨h1, _, h2, h3, h4⟩ := h;refine h0.o6 (X := [.ly gB m z, .row g 37 (rn ps tl), .ns ps xs]) rfl (fun x hx => ?_) ?_
 . simp only [Di, CX, or_false] at hx;rcases hx with rfl | rfl | rfl
   . exact ⟨h1, fun b e => .inl e⟩
   . exact ⟨h2, fun b e => .inr e⟩
   . exact ⟨h3, fun _ h => h.elim⟩
 . refine .cons (fun x hx => ?_) (.cons (fun x hx => ?_) (CM ..))
   . simp only [Di, CX, or_false] at hx;rcases hx with rfl | rfl
     . exact ⟨fun _ b hb e => h4 (e ▸ hb), fun _ b e hb => h4 (e ▸ hb)⟩
     . exact ⟨fun _ _ _ h => h, fun q => nomatch q⟩
   . rcases List.mem_singleton.1 hx with rfl;exact ⟨fun _ _ _ h => h, fun q => nomatch q⟩
theorem Bv (gB g : Nat) (z : jL) (ps : List P4) (tl : List Value) (xs : List Int) (w : World) (hz : z.E.length = 0) (hP : iu 0 z.d (bP z.E) (gi xs) 0 (bP z.E) (gi xs)) (hxl : xs.length = 0) (h : (En.wS gB 0 z g ps tl xs).F w) :
 Calls Tryz.prog 64 #[.pointer (some ⟨gB, 0, none⟩), .slice (some ⟨g, 0, none⟩) 0 0] w fun e w' => ∃ z', e = .returned (.tuple #[]) /\ aU (fun b => dr gB z b \/ b = g) w w' /\ dM gB 0 z' w' /\ (∀ b, dr gB z' b -> (dr gB z b \/ b = g) \/ w.heap.size <= b) /\ sM 0 z z' xs := by
 have HF : Hid (dM gB 0 z w) := H5 h.1;have HR : Hid (sM 0 z z xs) := H5 ⟨rfl, hz, fun t ht => absurd ht (Dv _), xs, hxl, hP⟩;have c0 : w.cell? ⟨gB, 0, none⟩ = some (.slice z.ro 0 z.rc) := by rw [h.1.1.1.cell]; show some (Value.slice z.ro z.E.length z.rc) = _; rw [hz]
 have HA : Fr (fun _ => False) w w [.cell ⟨gB, 0, none⟩ (.slice z.ro 0 z.rc)] := Fr.cl (Fr.nil _ w) c0 Cq;obtain ⟨ro, rc, gs, E, dp, d⟩ := z;have HN := H5 (fun (w' : World) (hb : Below w.heap.size w w') => show aU (fun b => dr gB ⟨ro, rc, gs, E, dp, d⟩ b \/ b = g) w w' /\ dM gB 0 ⟨ro, rc, gs, E, dp, d⟩ w' from ⟨aU.bC hb, HF.out.iJ (aU.bC (S := fun _ => False) hb) (Wl.none _) fun _ _ h => h⟩);clear h hz hP hxl c0;refine bN (S0 := fun _ => False) Tryz.func64 HA ?_;clear HA;refine aA ?_;refine bh ?_;refine dW ?_;refine aC ?_;refine cF (X := Unit) (fun _ => True) (fun _ => 0) (fun _ => [(18, .int .i64 0), (17, .int .i64 0)]) (fun _ => []) () trivial fun _ _ => ?_;refine aA ?_;refine fC ?_;refine jY ?_;refine vE fun w' H => ?_;obtain ⟨h1, h2⟩ := HN.out w' H.below;exact ⟨_, rfl, h1, h2, fun b h => .inl (.inl h), HR.out⟩
theorem Be (gB n B g : Nat) (z : jL) (ps : List P4) (tl : List Value) (xs : List Int) (w : World) (hn0 : 0 < n) (hn : n <= 64) (hB : B <= 1000000000) (hz : z.E.length = n) (hrl : ∀ t < n, (z.E.getD t []).length = n) (hd : 0 < z.d) (hdB : ag z.d.natAbs <= B) (hxl : xs.length = n) (hxb : ∀ a ∈ xs, ag a.natAbs <= B) (hP : iu n z.d (bP z.E) (gi xs) 0 (bP z.E) (gi xs)) (h : (En.wS gB n z g ps tl xs).F w) :
 Calls Tryz.prog 64 #[.pointer (some ⟨gB, 0, none⟩), .slice (some ⟨g, 0, none⟩) n n] w fun e w' => ∃ z', e = .returned (.tuple #[]) /\ aU (fun b => dr gB z b \/ b = g) w w' /\ dM gB n z' w' /\ (∀ b, dr gB z' b -> (dr gB z b \/ b = g) \/ w.heap.size <= b) /\ sM n z z' xs := by
 have H0 := (Fr.wS h).Ca;have hnt : aN tl := h.2.1;have hpl : ps.length = n := h.2.2.2.1.1.trans hxl;obtain ⟨ro, rc, gs, E, dp, d⟩ := z
 replace hz : E.length = n := hz
 obtain ⟨H0, h6, h7⟩ := H0
 replace h6 : gs.length = n := h6.trans hz
 replace h7 : fT gs n := by rw [<- hz]; exact h7
 obtain ⟨E0, hE0⟩ := Cs (bP E);obtain ⟨v0, hv0⟩ := Cs (gi xs);have hI : xW n B d E0 v0 ⟨0, gs, E, g, ps, tl, xs⟩ := ⟨Cx _, h6, h7, hz, hrl, hpl, hxl, by rw [<- hE0, <- hv0]; exact hP, hxb, hnt⟩;have H1 : Fr (fun b => dr gB ⟨ro, rc, gs, E, dp, d⟩ b \/ b = g) w w [.lg 22 1 ro n rc (hG n gs), .row g 37 (rn ps tl), .row gB 95 [.slice ro n rc, .bool dp.1, .slice dp.2.1 dp.2.2.1 dp.2.2.2], .ns ps xs, .num (av dp) d, .fh [] gs E] := by
  have H := H0;simp only [AD, qG, Dp, Dt] at H;rw [hz] at H;have H2 : Fr _ w w (.jm n gs E :: [.lg 22 1 ro n rc (hG n gs), .row g 37 (rn ps tl), .row gB 95 [.slice ro n rc, .bool dp.1, .slice dp.2.1 dp.2.2.1 dp.2.2.2], .ns ps xs, .num (av dp) d]) := H.pick (by repeat (first | exact Pk.n | refine Pk.c (by repeat (first | exact Rm.z | apply Rm.s)) ?_));exact (H2.BI Cp).pick (by repeat (first | exact Pk.n | refine Pk.c (by repeat (first | exact Rm.z | apply Rm.s)) ?_))
 have HD : Hid (0 < d /\ ag d.natAbs <= B) := H5 ⟨hd, hdB⟩;have HI := H5 hI;have HE := H5 (Cv hE0 hv0);have HL := H5 h6;clear H0 h hz hrl hd hdB hxl hxb hP hnt hpl h6 h7 hI hE0 hv0;refine bN (S0 := fun b => dr gB ⟨ro, rc, gs, E, dp, d⟩ b \/ b = g) Tryz.func64 H1 ?_;clear H1;refine jY ?_;refine vd Cp fun rb tl1 e1 ht1 hl1 => ?_;subst e1;have HT := H5 (Cv ht1 hl1);clear ht1 hl1;refine rW [] ?_;refine bh ?_;refine dW ?_;refine aC ?_;refine cF (X := PuX) (xW n B d E0 v0) (fun x => n - x.j) (fun x => [(18, .int .i64 (x.j : Int)), (17, .int .i64 (n : Int)), (16, .slice (some ⟨rb, 0, none⟩) n rc), (1, .slice (some ⟨x.bv, 0, none⟩) n n), (0, .pointer (some ⟨gB, 0, none⟩))])
  (fun x => [.row x.bv 37 (rn x.ps x.tl), .row rb 22 (hG n x.gs ++ tl1), .row gB 95 [.slice (some ⟨rb, 0, none⟩) n rc, .bool dp.1, .slice dp.2.1 dp.2.2.1 dp.2.2.2], .ns x.ps x.xs, .num (av dp) d, .fh [] x.gs x.E]) ⟨0, gs, E, g, ps, tl, xs⟩ HI.out fun x hx => ?_
 obtain ⟨j, gs1, E1, bv, ps1, tlv, xs1⟩ := x;have HM : Hid (xW n B d E0 v0 ⟨j, gs1, E1, bv, ps1, tlv, xs1⟩) := H5 hx;have hj : j <= n := hx.hj;clear hx;by_cases h : j < n
 . have h01 : (j : Int) < (n : Int) := by omega
   obtain ⟨bt, hbt⟩ := Cs (gs1.getD j 0);have k1 := mz (c := n) tl1 (by rw [show gs1.length = n from HM.out.gl]; exact h) hbt;have HG := H5 hbt;clear hbt;have k2 := tu tlv (ps := ps1) (i := j) (by rw [show ps1.length = n from HM.out.pl]; exact h);have k3 := tt tlv (ps := ps1) (i := j) (by rw [show ps1.length = n from HM.out.pl]; exact h);obtain ⟨m, hm⟩ := Cs (gi xs1 j % d);have Hm := H5 hm;clear hm;refine aA ?_;refine kq ?_;refine aA ?_;refine bh ?_;refine aC ?_;refine rW [] ?_;refine bh ?_;refine bh ?_;refine aT ?_;refine uz (x := m) (z := .int .i64 0) (fun w' H => by
    have := uq (av (gp ps1 j)) (av dp) (gi xs1 j) d w' (aL.int ((H.all (.ns ps1 xs1) Cq : bX ..).2 j (by rw [show ps1.length = n from HM.out.pl]; exact h)) (Cw (HM.out.wb _ (dP (by rw [show xs1.length = n from HM.out.xl]; exact h))) Cp)) (aL.int (H.all (.num (av dp) d) Cq) (Cw HD.out.2 Cp)) (by have := HD.out.1; omega);rw [Hm.out] at this; exact this) fun p3 => ?_
   obtain ⟨ps2, hps2⟩ : ∃ l, ps1.set j p3 = l := ⟨_, rfl⟩;obtain ⟨xs2, hxs2⟩ : ∃ l, xs1.set j m = l := ⟨_, rfl⟩;refine je (e := .ns ps2 xs2) (fun w' H => by rw [<- hps2, <- hxs2]; exact bX.set (H.all (.ns ps1 xs1) Cq) j (H.all (.own w.heap.size (av p3) m) (by simp [av]) : ai ..).num) ?_;refine bh ?_;refine sN (ps := ps1) (ps' := ps2) j p3 (by rw [show ps1.length = n from HM.out.pl]; exact h) HM.out.nt hps2 ?_;refine eQ ?_;have hpl2 : ps2.length = n := by rw [<- hps2, CL]; exact HM.out.pl
   have hxl2 : xs2.length = n := by rw [<- hxs2, CL]; exact HM.out.xl
   have hmj : gi xs2 j = m := by rw [<- hxs2, gO (by rw [show xs1.length = n from HM.out.xl]; exact h), if_pos rfl]
   have HX2 := H5 (Cv hps2 (Cv hxs2 (Cv hpl2 (Cv hxl2 hmj))));clear hps2 hxs2 hpl2 hxl2 hmj k2 k3;have k2 := tu tlv (ps := ps2) (i := j) (by rw [HX2.out.2.2.1]; exact h);have k3 := tt tlv (ps := ps2) (i := j) (by rw [HX2.out.2.2.1]; exact h);refine lP (e := .num (av (gp ps2 j)) m) (fun w' H => by have := (H.all (.ns ps2 xs2) Cq : bX ..).2 j (by rw [HX2.out.2.2.1]; exact h); rw [HX2.out.2.2.2.2] at this; exact this) ?_;refine rW [] ?_;refine bh ?_;refine cV (v := .int .i64 (aV m)) (fun w' H => cO (av (gp ps2 j)) m w' (aL.int (H.all (.num (av (gp ps2 j)) m) Cq) (by rw [<- Hm.out]; exact Cw (qS HD.out.1) (Cw HD.out.2 Cp)))) ?_;by_cases hz : m = 0
   . have hz1 := zs0 hz;refine kq ?_;refine aA ?_;refine dE (dL (a := j) Cp) ?_;refine aC ?_;exact cD (⟨j + 1, gs1, E1, bv, ps2, tlv, xs2⟩ : PuX) ⟨by have := HM.out.skip (ps' := ps2) h HD.out.1 HD.out.2 HX2.out.2.2.1 (by rw [Hm.out]; exact hz); rw [Hm.out, HX2.out.2.1] at this; exact this, by show n - (j + 1) < n - j; omega⟩
   . have hz1 := zs1 hz;have Hz := H5 hz;clear hz;refine dB false ?_;refine eQ ?_;refine er (es' := [.fh [] gs1 E1, .row bv 37 (rn ps2 tlv), .row rb 22 (hG n gs1 ++ tl1), .row gB 95 [.slice (some ⟨rb, 0, none⟩) n rc, .bool dp.1, .slice dp.2.1 dp.2.2.1 dp.2.2.2], .num (av (gp ps2 j)) m, .ns ps2 xs2, .num (av dp) d]) ?_;refine wE j (by rw [show E1.length = n from HM.out.El]; exact h) Cq (by rw [show E1.length = n from HM.out.El]; exact HM.out.gi_) fun bt' psT tlT hbt htlT hpT => ?_;obtain rfl : bt = bt' := HG.out.symm.trans hbt;obtain ⟨top, htop⟩ := Cs (E1.getD j []);have htl : top.length = n := by rw [<- htop]; exact HM.out.rl j h
     have htb : ∀ a ∈ top, ag a.natAbs <= B := fun a ha => Cw (HM.out.eb h a (by show a ∈ E1.getD j []; rw [htop]; exact ha)) HD.out.2;rw [htop] at hpT |-;rw [htl] at hpT;have k4 := tu tlT (ps := psT) (i := j) Cp;have k5 := tt tlT (ps := psT) (i := j) Cp;obtain ⟨a, ha⟩ := Cs (gi top j);refine lP (e := .num (av (gp psT j)) a) (fun w' H => by have := (H.all (.ns psT top) Cq : bX ..).2 j Cp; rw [ha] at this; exact this) ?_;have hm2 : 0 < m /\ m < d := by have h1 := Hm.out; have h2 := Hz.out; have h3 := HD.out.1; have := DO (gi xs1 j) (show d ≠ 0 by omega); have := EY (gi xs1 j) h3; omega
     have ha2 : 0 < a /\ a <= d := by have := HM.out.pu.tri.pos j h; unfold bP at this; rw [show E1.getD j [] = top from htop, ha] at this; exact this
     have hex := yK ha2 hm2;have hw : ∀ y : Int, y.natAbs <= d.natAbs -> ag y.natAbs <= B := fun y hy => Cw (aJ hy) HD.out.2;have hwa := hw a Cp;have hwm := hw m Cp;have HW := H5 (Cv hex.1 (Cv hex.2.1 (Cv hex.2.2.1 (Cv (hw _ hex.2.2.2.1) (Cv (hw _ hex.2.2.2.2.1) (Cv (hw _ hex.2.2.2.2.2.1) (Cv (hw _ hex.2.2.2.2.2.2.1) (hw _ hex.2.2.2.2.2.2.2))))))));have HTT := H5 (Cv htlT (Cv hpT (Cv htop (Cv htl (Cv htb ha)))));have HWW := H5 (Cv hwa hwm);clear hbt htlT hpT htop htl htb ha hm2 ha2 hex hw hwa hwm;obtain ⟨eg, heg⟩ : ∃ y, bT a m = y := ⟨_, rfl⟩;obtain ⟨ex, hex⟩ : ∃ y, eu a m = y := ⟨_, rfl⟩;obtain ⟨ey, hey⟩ : ∃ y, fP a m = y := ⟨_, rfl⟩;rw [heg, hex, hey] at HW;have HEX := H5 (Cv heg (Cv hex hey));clear heg hex hey;refine er (es' := [.row bt 37 (rn psT tlT), .row bv 37 (rn ps2 tlv), .row rb 22 (hG n gs1 ++ tl1), .row gB 95 [.slice (some ⟨rb, 0, none⟩) n rc, .bool dp.1, .slice dp.2.1 dp.2.2.1 dp.2.2.2], .num (av (gp ps2 j)) m, .num (av (gp psT j)) a, .ns ps2 xs2, .ns psT top, .num (av dp) d, .fh [j] gs1 E1]) ?_;refine kf ?_;refine aA ?_;refine bh ?_;refine bh ?_;refine cN3 (x := eg) (y := ex) (z := ey) (fun w' H => by
      have := Bh (av (gp psT j)) (av (gp ps2 j)) a m w' (aL.int (H.all (.num (av (gp psT j)) a) Cq) (Cw HWW.out.1 Cp)) (aL.int (H.all (.num (av (gp ps2 j)) m) Cq) (Cw HWW.out.2 Cp));rw [HEX.out.1, HEX.out.2.1, HEX.out.2.2] at this; exact this) fun pg px py => ?_
     refine bh ?_;refine aW fun g6 => ?_;refine aW fun g7 => ?_;refine aW fun g8 => ?_;(iterate 3 refine sG ?_);refine eW ?_;refine aA ?_;refine bh ?_;refine dW ?_;refine uz (x := a / eg) (z := .int .i64 0) (fun w' H => eZ (av (gp psT j)) (av pg) a eg w' (aL.int (H.all (.num (av (gp psT j)) a) Cq) (Cw HWW.out.1 Cp)) (ai.int (H.all (.own w.heap.size (av pg) eg) (by simp [av])) (Cw HW.out.2.2.2.1 Cp)) (by have := HW.out.1; omega) ⟨_, HW.out.2.1⟩) fun pp => ?_;refine aT ?_;refine dW ?_;refine aW fun g9 => ?_;refine sG ?_;refine aC ?_;refine rW [] ?_;refine bh ?_;refine dW ?_;refine uz (x := m / eg) (z := .int .i64 0) (fun w' H => eZ (av (gp ps2 j)) (av pg) m eg w' (aL.int (H.all (.num (av (gp ps2 j)) m) Cq) (Cw HWW.out.2 Cp)) (ai.int (H.all (.own w.heap.size (av pg) eg) (by simp [av])) (Cw HW.out.2.2.2.1 Cp)) (by have := HW.out.1; omega) ⟨_, HW.out.2.2.1⟩) fun pq => ?_;refine aT ?_;refine dW ?_;refine aW fun g11 => ?_;refine sG ?_;refine aC ?_;refine rW [] ?_;refine bh ?_;refine bh ?_;refine aT ?_;refine dW ?_;refine cG (α := Nat × List P4) (mk := fun p => .slice (some ⟨p.1, 0, none⟩) n n) (ens := fun p => [.row p.1 37 (rn p.2 []), .ns p.2 (jl n j ex top ey xs2 d), .pr (p.2.length = n)]) (fun w' H => by
      have hr : aa w' gB 95 [.slice (some ⟨rb, 0, none⟩) n rc, .bool dp.1, .slice dp.2.1 dp.2.2.1 dp.2.2.2] := H.all (.row gB 95 [.slice (some ⟨rb, 0, none⟩) n rc, .bool dp.1, .slice dp.2.1 dp.2.2.1 dp.2.2.2]) Cq;exact xP gB n j B ex ey d px py dp (some ⟨bt, 0, none⟩) (some ⟨bv, 0, none⟩) n n top xs2 w' hn h hB (by have := HD.out.1; omega) (ai.int (H.all (.own w.heap.size (av px) ex) (by simp [av])) HW.out.2.2.2.2.1) (ai.int (H.all (.own w.heap.size (av py) ey) (by simp [av])) HW.out.2.2.2.2.2.1) (aL.int (H.all (.num (av dp) d) Cq) HD.out.2) (by rw [hr.cell]; rfl) (by rw [hr.cell]; rfl)
       (nF (H.all (.row bt 37 (rn psT tlT)) Cq) (H.all (.ns psT top) Cq) HTT.out.2.2.2.2.1) (nF (H.all (.row bv 37 (rn ps2 tlv)) Cq) (H.all (.ns ps2 xs2) Cq) (by rw [<- HX2.out.2.1]; exact lY HM.out.wb HWW.out.2)) HTT.out.2.2.2.1 HX2.out.2.2.2.1) fun q1 => ?_
     refine dW ?_;refine sW (b := rb) (k := j) (cs := hG n gs1 ++ tl1) (us := [.slice (some ⟨q1.1, 0, none⟩) n n]) (hU := rfl) (hu := ⟨(ic n gs1).append HT.out.1, by decide⟩) ?_;refine eW ?_;refine aA ?_;refine bh ?_;refine dW ?_;refine cN (x := -(m / eg)) (fun w' H => iY (av pq) (m / eg) w' (ai.int (H.all (.own w.heap.size (av pq) (m / eg)) (by simp [av])) (Cw HW.out.2.2.2.2.2.2.2 Cp))) fun pn => ?_;refine dW ?_;refine cG (α := Nat × List P4) (mk := fun p => .slice (some ⟨p.1, 0, none⟩) n n) (ens := fun p => [.row p.1 37 (rn p.2 []), .ns p.2 (jl n j (a / eg) xs2 (-(m / eg)) top d), .pr (p.2.length = n)]) (fun w' H => by
      have hr : aa w' gB 95 [.slice (some ⟨rb, 0, none⟩) n rc, .bool dp.1, .slice dp.2.1 dp.2.2.1 dp.2.2.2] := H.all (.row gB 95 [.slice (some ⟨rb, 0, none⟩) n rc, .bool dp.1, .slice dp.2.1 dp.2.2.1 dp.2.2.2]) Cq;exact xP gB n j B (a / eg) (-(m / eg)) d pp pn dp (some ⟨bv, 0, none⟩) (some ⟨bt, 0, none⟩) n n xs2 top w' hn h hB (by have := HD.out.1; omega) (ai.int (H.all (.own w.heap.size (av pp) (a / eg)) (by simp [av])) HW.out.2.2.2.2.2.2.1) (ai.int (H.all (.own w.heap.size (av pn) (-(m / eg))) (by simp [av])) (by rw [DK]; exact HW.out.2.2.2.2.2.2.2)) (aL.int (H.all (.num (av dp) d) Cq) HD.out.2) (by rw [hr.cell]; rfl) (by rw [hr.cell]; rfl)
       (nF (H.all (.row bv 37 (rn ps2 tlv)) Cq) (H.all (.ns ps2 xs2) Cq) (by rw [<- HX2.out.2.1]; exact lY HM.out.wb HWW.out.2)) (nF (H.all (.row bt 37 (rn psT tlT)) Cq) (H.all (.ns psT top) Cq) HTT.out.2.2.2.2.1) HX2.out.2.2.2.1 HTT.out.2.2.2.1) fun q2 => ?_
     refine aC ?_;refine r6 (A := q2.2.length = n) Cq fun hq2 => ?_;refine xw (A := ∀ s, s < n -> s ≠ j -> gs1.getD s 0 ≠ q1.1) (fun w' h' => by
      have h2 : Fr _ w w' (.row q1.1 37 (rn q1.2 []) :: .ns q1.2 (jl n j ex top ey xs2 d) :: .fh [j] gs1 E1 :: []) := h'.pick (by repeat (first | exact Pk.n | refine Pk.c (by repeat (first | exact Rm.z | apply Rm.s)) ?_));have h3 := (h2.rwoN (by rw [show E1.length = n from HM.out.El]; exact h) (by rw [show E1.length = n from HM.out.El]; exact HM.out.gl) aN.nil Cq).2;intro s h4 h5; exact h3 s (by rw [show E1.length = n from HM.out.El]; exact h4) h5 Cq) fun hne => ?_
     have HN := H5 (Cv hq2 hne);clear hq2 hne;refine rW [] ?_;refine dE (dL (a := j) Cp) ?_;refine aC ?_;exact cD (⟨j + 1, gs1.set j q1.1, E1.set j (jl n j ex top ey xs2 d), q2.1, q2.2, [], jl n j (a / eg) xs2 (-(m / eg)) top d⟩ : PuX) ⟨by have := HM.out.mix (g1 := q1.1) (g2 := q2.1) (ps' := q2.2) h HD.out.1 HD.out.2 HN.out.1 (by rw [Hm.out]; exact Hz.out) HTT.out.2.2.1 HTT.out.2.2.2.2.2 Hm.out HX2.out.2.1 HN.out.2; rw [HEX.out.1, HEX.out.2.1, HEX.out.2.2] at this; exact this, by show n - (j + 1) < n - j; omega⟩ (he := by
      intro w' h';have h2 : Fr _ w w' (.row q1.1 37 (rn q1.2 []) :: .ns q1.2 (jl n j ex top ey xs2 d) :: .fh [j] gs1 E1 :: [.row q2.1 37 (rn q2.2 []), .row rb 22 ((hG n gs1 ++ tl1).set j (.slice (some ⟨q1.1, 0, none⟩) n n)), .row gB 95 [.slice (some ⟨rb, 0, none⟩) n rc, .bool dp.1, .slice dp.2.1 dp.2.2.1 dp.2.2.2], .ns q2.2 (jl n j (a / eg) xs2 (-(m / eg)) top d), .num (av dp) d]) := h'.pick (by repeat (first | exact Pk.n | refine Pk.c (by repeat (first | exact Rm.z | apply Rm.s)) ?_));have h3 := (h2.rwoN (by rw [show E1.length = n from HM.out.El]; exact h) (by rw [show E1.length = n from HM.out.El]; exact HM.out.gl) aN.nil Cq).1;rw [BM (by rw [show gs1.length = n from HM.out.gl]; exact h)] at h3;exact h3.pick (by repeat (first | exact Pk.n | refine Pk.c (by repeat (first | exact Rm.z | apply Rm.s)) ?_)))
 . obtain rfl : n = j := by omega
   refine aA ?_;refine fC ?_;refine jY ?_;refine vE fun w' H => ?_;have gl : gs1.length = n := HM.out.gl;have El : E1.length = n := HM.out.El;have hF := dM.of (dp := dp) (d := d) El gl HM.out.gi_ HT.out.1 (by have := HT.out.2; rw [CQ, iW] at this |-; rw [gl, <- HL.out]; exact this) (H.all (.row gB 95 [.slice (some ⟨rb, 0, none⟩) n rc, .bool dp.1, .slice dp.2.1 dp.2.2.1 dp.2.2.2]) Cq) (H.all (.row rb 22 (hG n gs1 ++ tl1)) Cq) (H.all (.fh [] gs1 E1) Cq) (H.all (.num (av dp) d) Cq);refine ⟨_, rfl, H.bs, hF, dr.of (H.own (.row gB 95 [.slice (some ⟨rb, 0, none⟩) n rc, .bool dp.1, .slice dp.2.1 dp.2.2.1 dp.2.2.2]) Cq rfl gB rfl) (H.own (.row rb 22 (hG n gs1 ++ tl1)) Cq rfl rb rfl) (fun t ht => H.own (.fh [] gs1 E1) Cq rfl _ ⟨t, ht, by simp, rfl⟩), rfl, El, HM.out.rl, xs1, HM.out.xl, ?_⟩;show iu n d (bP E) (gi xs) n (bP E1) (gi xs1);rw [HE.out.1, HE.out.2]; exact HM.out.pu
theorem Ck (gB n B g : Nat) (z : jL) (ps : List P4) (tl : List Value) (xs : List Int) (w : World) (hn : n <= 64) (hB : B <= 1000000000) (hz : z.E.length = n) (hrl : ∀ t < n, (z.E.getD t []).length = n) (hd : 0 < z.d) (hdB : ag z.d.natAbs <= B) (hxl : xs.length = n) (hxb : ∀ a ∈ xs, ag a.natAbs <= B) (hP : iu n z.d (bP z.E) (gi xs) 0 (bP z.E) (gi xs)) (h : (En.wS gB n z g ps tl xs).F w) :
 Calls Tryz.prog 64 #[.pointer (some ⟨gB, 0, none⟩), .slice (some ⟨g, 0, none⟩) n n] w fun e w' => ∃ z', e = .returned (.tuple #[]) /\ aU (fun b => dr gB z b \/ b = g) w w' /\ dM gB n z' w' /\ (∀ b, dr gB z' b -> (dr gB z b \/ b = g) \/ w.heap.size <= b) /\ sM n z z' xs := by
 rcases Dn n with rfl | h0
 . exact Bv gB g z ps tl xs w hz hP hxl h
 . exact Be gB n B g z ps tl xs w h0 hn hB hz hrl hd hdB hxl hxb hP h
theorem o3.le {n r i : Nat} {d : Int} {A E : Mx} (h : o3 n d r A i n E) {t : Nat} (ht : t < n) (k : Nat) : (E t k).natAbs <= d.natAbs := by
 rcases Dl k t with q | q | q
 . rw [h.low t ht k q]; simp
 . have := h.pos t ht; rw [q]; omega
 . rcases Nat.lt_or_ge k n with hk | hk
   . have hp := h.pos k hk;rcases Dl t i with q2 | q2 | q2
     . have := h.up t q2 k q; omega
     . subst q2; have := h.at_ ht k q hk hk; omega
     . have := h.dn t ht q2 k hk q; omega
   . rw [h.out t ht k hk]; simp
structure TyX where
 j : Nat
 E : List (List Int)
structure vY (n r : Nat) (d : Int) (A : Mx) (i : Nat) (x : TyX) : Prop where
 hj : i < x.j /\ x.j <= n
 El : x.E.length = n
 rl : ∀ t < n, (x.E.getD t []).length = n
 td : o3 n d r A i x.j (bP x.E)
 bd : ∀ t < n, ∀ k, (bP x.E t k).natAbs <= (d.natAbs + 1) ^ (if t = i then x.j - i else 1)
section
variable {n r i j : Nat} {d : Int} {A : Mx} {E : List (List Int)}
theorem vY.open (h : o3 n d r A (i + 1) n (bP E)) (hi : i < n) (El : E.length = n) (rl : ∀ t < n, (E.getD t []).length = n) : vY n r d A i ⟨i + 1, E⟩ :=
 ⟨⟨Dw _, hi⟩, El, rl, h.above hi, fun t ht k => by
  have h1 := h.le ht k;have e : (if t = i then i + 1 - i else 1) = 1 := by split <;> omega
  show (bP E t k).natAbs <= (d.natAbs + 1) ^ (if t = i then i + 1 - i else 1);have h1 : (bP E t k).natAbs <= d.natAbs := h1;rw [e, Nat.pow_one]; omega⟩
theorem qR {d : Int} {i j t : Nat} : (d.natAbs + 1) ^ (if t = i then j - i else 1) <= (d.natAbs + 1) ^ (if t = i then j + 1 - i else 1) := CU Cp (by split <;> omega)
theorem vY.skip (h : vY n r d A i ⟨j, E⟩) (hi : i < n) (hj : j < n) (h0 : (bP E i j).fdiv (bP E j j) = 0) : vY n r d A i ⟨j + 1, E⟩ :=
 ⟨⟨Nat.lt_succ_of_lt h.hj.1, hj⟩, h.El, h.rl, h.td.skip hi hj h.hj.1 h0, fun t ht k => Cw (h.bd t ht k) qR⟩
theorem vY.sub {q : Int} {xs : List Int} (h : vY n r d A i ⟨j, E⟩) (hi : i < n) (hj : j < n) (hq : q = (bP E i j).fdiv (bP E j j)) (hl : xs.length = n) (hx : ∀ k < n, gi xs k = if j <= k then -q * bP E j k + bP E i k else bP E i k) : vY n r d A i ⟨j + 1, E.set i xs⟩ := by
 have El : E.length = n := h.El;have hij : i < j := h.hj.1;have hR : ∀ k, gi xs k = if k < j \/ n <= k then bP E i k else bP E i k - q * bP E j k := fun k => by
  by_cases h1 : k < n
  . rw [hx k h1];by_cases h2 : j <= k
    . rw [if_pos h2, if_neg Cp, Du]; omega
    . rw [if_neg h2, if_pos (.inl Cp)]
  . rw [if_pos (.inr Cp), h.td.out i hi k Cp]; exact fI _ _ Cp
 refine ⟨⟨Nat.lt_succ_of_lt hij, hj⟩, by show (E.set i xs).length = n; rw [CL]; exact El, fun t ht => ?_, ?_, fun t ht k => ?_⟩
 . show ((E.set i xs).getD t []).length = n;rw [di Cp]; split
   . exact hl
   . exact h.rl t ht
 . show o3 n d r A i (j + 1) (bP (E.set i xs));rw [qH Cp]; exact h.td.sub hi hj hij hq hR
 . show (bP (E.set i xs) t k).natAbs <= (d.natAbs + 1) ^ (if t = i then j + 1 - i else 1);rw [qH Cp];by_cases e : t = i
   . subst e;rw [bV, hR];have hb := h.bd t ht;rw [if_pos rfl] at hb;by_cases h1 : k < j \/ n <= k
     . rw [if_pos h1]; exact Cw (h.bd t ht k) qR
     . rw [if_neg h1, if_pos rfl];have hp : 0 < bP E j j /\ bP E j j <= d := h.td.pos j hj;have he : 0 <= bP E j k /\ bP E j k <= d := by
        by_cases h2 : k = j
        . subst h2; omega
        . have h3 := h.td.dn j hj hij k Cp Cp;have h4 := h.td.pos k Cp;have h3 : 0 <= bP E j k /\ bP E j k < bP E k k := h3;have h4 : 0 < bP E k k /\ bP E k k <= d := h4;omega
       have := xo (a := bP E t k) (e := bP E j k) (q := q) (x := bP E t j) (d := d) (M := (d.natAbs + 1) ^ (j - t)) (D := d.natAbs + 1) (hb k) (hb j) he Cp (by rw [hq]; exact pF hp.1) (Ct _);rw [<- Dd] at this;rw [show j + 1 - t = (j - t).succ by omega]; exact this
   . rw [aZ _ e]; exact Cw (h.bd t ht k) qR
theorem ty_wl {x d : Int} {e : Nat} (h : x.natAbs <= (d.natAbs + 1) ^ e) (he : e <= 64) : ag x.natAbs <= 64 * ag d.natAbs + 1 := by
 have h1 : d.natAbs + 1 <= W ^ ag d.natAbs := bF _;have h2 := Nat.pow_le_pow_left h1 e;rw [<- Nat.pow_mul] at h2;have h3 : ag d.natAbs * e <= ag d.natAbs * 64 := CD _ he;have h4 : W ^ (ag d.natAbs * e) < W ^ (64 * ag d.natAbs + 1) := Nat.pow_lt_pow_right (by unfold W; omega) Cp;exact an Cp
theorem vY.wl (h : vY n r d A i ⟨j, E⟩) (hn : n <= 64) {t : Nat} (ht : t < n) (k : Nat) : ag (bP E t k).natAbs <= 64 * ag d.natAbs + 1 := by
 refine ty_wl (h.bd t ht k) ?_;have := h.hj.2;have : j <= n := this;show (if t = i then j - i else 1) <= 64;split <;> omega
end
structure TzX where
 k : Nat
 ps : List P4
 xs : List Int
structure TzI (n i j : Nat) (q : Int) (E : List (List Int)) (x : TzX) : Prop where
 hk : j <= x.k /\ x.k <= n
 pl : x.ps.length = n
 xl : x.xs.length = n
 val : ∀ k < n, gi x.xs k = if j <= k /\ k < x.k then -q * bP E j k + bP E i k else bP E i k
structure ToX where
 m : Nat
 v : Int
 E : List (List Int)
structure ToI (n r : Nat) (d : Int) (A : Mx) (x : ToX) : Prop where
 hm : x.m <= n
 hv : x.v = (x.m : Int) - 1
 El : x.E.length = n
 rl : ∀ t < n, (x.E.getD t []).length = n
 td : o3 n d r A x.m n (bP x.E)
theorem BF {a : Int} (h : -9223372036854775800 < a) (h2 : a < 9223372036854775807) : Value.int .i64 (IntKind.i64.wrap (a - 1)) = .int .i64 (a - 1) := by
 simp only [IntKind.wrap, IntKind.signed, IntKind.bits];congr 1;simp; omega
def TdR (n r : Nat) (A : Mx) (z z' : jL) : Prop := z'.d = z.d /\ z'.E.length = n /\ (∀ t < n, (z'.E.getD t []).length = n) /\ Md n z.d r A (bP z'.E) /\ ∀ t < n, ∀ k, (bP z'.E t k).natAbs <= z.d.natAbs
theorem Aw (gB r : Nat) (A : Mx) (z : jL) (w : World) (hz : z.E.length = 0) (hT : o3 0 z.d r A 0 0 (bP z.E)) (h : dM gB 0 z w) :
 Calls Tryz.prog 65 #[.pointer (some ⟨gB, 0, none⟩)] w fun e w' => ∃ z', e = .returned (.tuple #[]) /\ aU (dr gB z) w w' /\ dM gB 0 z' w' /\ (∀ b, dr gB z' b -> dr gB z b \/ w.heap.size <= b) /\ TdR 0 r A z z' := by
 have HF : Hid (dM gB 0 z w) := H5 h;have HR : Hid (TdR 0 r A z z) := H5 ⟨rfl, hz, fun t ht => absurd ht (Dv _), hT.done, fun t ht => absurd ht (Dv _)⟩;have c0 : w.cell? ⟨gB, 0, none⟩ = some (.slice z.ro 0 z.rc) := by rw [h.1.1.cell]; show some (Value.slice z.ro z.E.length z.rc) = _; rw [hz]
 have HA : Fr (fun _ => False) w w [.cell ⟨gB, 0, none⟩ (.slice z.ro 0 z.rc)] := Fr.cl (Fr.nil _ w) c0 Cq;obtain ⟨ro, rc, gs, E, dp, d⟩ := z;have HN := H5 (fun (w' : World) (hb : Below w.heap.size w w') => show aU (dr gB ⟨ro, rc, gs, E, dp, d⟩) w w' /\ dM gB 0 ⟨ro, rc, gs, E, dp, d⟩ w' from ⟨aU.bC hb, HF.out.iJ (aU.bC (S := fun _ => False) hb) (Wl.none _) fun _ _ h => h⟩);clear h hz hT c0;refine bN (S0 := fun _ => False) Tryz.func65 HA ?_;clear HA;refine aA ?_;refine bh ?_;refine dW ?_;refine dE (v := .int .i64 (-1)) (BF (a := 0) Cp Cp) ?_;refine aC ?_;refine cF (X := Unit) (fun _ => True) (fun _ => 0) (fun _ => [(2, .int .i64 (-1))]) (fun _ => []) () trivial fun _ _ => ?_;refine aA ?_;refine dW ?_;refine fC ?_;refine jY ?_;refine vE fun w' H => ?_;obtain ⟨h1, h2⟩ := HN.out w' H.below;exact ⟨_, rfl, h1, h2, fun b h => .inl h, HR.out⟩
theorem yZ (gB n r B : Nat) (A : Mx) (z : jL) (w : World) (hn0 : 0 < n) (hn : n <= 64) (hB : B <= 1000000000) (hz : z.E.length = n) (hrl : ∀ t < n, (z.E.getD t []).length = n) (hdB : ag z.d.natAbs <= B) (hT : o3 n z.d r A n n (bP z.E)) (h : dM gB n z w) :
 Calls Tryz.prog 65 #[.pointer (some ⟨gB, 0, none⟩)] w fun e w' => ∃ z', e = .returned (.tuple #[]) /\ aU (dr gB z) w w' /\ dM gB n z' w' /\ (∀ b, dr gB z' b -> dr gB z b \/ w.heap.size <= b) /\ TdR n r A z z' := by
 have H0 := (Fr.basS h).Ca;obtain ⟨ro, rc, gs, E, dp, d⟩ := z
 replace hz : E.length = n := hz
 obtain ⟨H0, h6, h7⟩ := H0
 replace h6 : gs.length = n := h6.trans hz
 replace h7 : fT gs n := by rw [<- hz]; exact h7
 have hI : ToI n r d A ⟨n, (n : Int) - 1, E⟩ := ⟨Ct _, rfl, hz, hrl, hT⟩;have H1 : Fr (dr gB ⟨ro, rc, gs, E, dp, d⟩) w w [.lg 22 1 ro n rc (hG n gs), .row gB 95 [.slice ro n rc, .bool dp.1, .slice dp.2.1 dp.2.2.1 dp.2.2.2], .num (av dp) d, .fh [] gs E] := by
  have H := H0;simp only [AD, qG, Dp, Dt] at H;rw [hz] at H;have H2 : Fr _ w w (.jm n gs E :: [.lg 22 1 ro n rc (hG n gs), .row gB 95 [.slice ro n rc, .bool dp.1, .slice dp.2.1 dp.2.2.1 dp.2.2.2], .num (av dp) d]) := H.pick (by repeat (first | exact Pk.n | refine Pk.c (by repeat (first | exact Rm.z | apply Rm.s)) ?_));exact (H2.BI Cp).pick (by repeat (first | exact Pk.n | refine Pk.c (by repeat (first | exact Rm.z | apply Rm.s)) ?_))
 have HI := H5 hI;have HL := H5 (Cv h6 h7);obtain ⟨B2, hB2⟩ := Cs (64 * ag d.natAbs + 1);have hBm : B2 <= 64000000001 := by have hdB : ag d.natAbs <= B := hdB; omega
 have HB := H5 hB2;clear H0 h hz hrl hdB hT h6 h7 hI hB2;refine bN (S0 := dr gB ⟨ro, rc, gs, E, dp, d⟩) Tryz.func65 H1 ?_;clear H1;refine jY ?_;refine vd Cp fun rb tl1 e1 ht1 hl1 => ?_;subst e1;have HT := H5 (Cv ht1 hl1);clear ht1 hl1;refine rW [] ?_;refine bh ?_;refine dW ?_;refine dE (BF (a := (n : Int)) Cp Cp) ?_;refine aC ?_;refine cF (X := ToX) (ToI n r d A) (fun x => x.m) (fun x => [(2, .int .i64 x.v), (0, .pointer (some ⟨gB, 0, none⟩))])
  (fun x => [.row rb 22 (hG n gs ++ tl1), .row gB 95 [.slice (some ⟨rb, 0, none⟩) n rc, .bool dp.1, .slice dp.2.1 dp.2.2.1 dp.2.2.2], .num (av dp) d, .fh [] gs x.E]) ⟨n, (n : Int) - 1, E⟩ HI.out fun x hx => ?_
 obtain ⟨m, v, E1⟩ := x;have hm : m <= n := hx.hm;have hv : v = (m : Int) - 1 := hx.hv;have HM : Hid (ToI n r d A ⟨m, v, E1⟩) := H5 hx;clear hx;by_cases h : 0 < m
 . obtain ⟨i, rfl⟩ : ∃ i, m = i + 1 := ⟨m - 1, by omega⟩;obtain rfl : v = (i : Int) := by omega
   clear hv;have hi : i < n := by omega
   have h01 : (0 : Int) <= (i : Int) := by omega
   obtain ⟨bi, hbi⟩ := Cs (gs.getD i 0);have k1 := mz (c := n) tl1 (by rw [HL.out.1]; exact hi) hbi;have Hbi := H5 hbi;clear hbi;refine aA ?_;refine dW ?_;refine kq ?_;refine aA ?_;refine dW ?_;refine dE (dL (a := i) Cp) ?_;refine aC ?_;refine cF (X := TyX) (vY n r d A i) (fun x => n - x.j) (fun x => [(3, .int .i64 (x.j : Int)), (2, .int .i64 (i : Int)), (0, .pointer (some ⟨gB, 0, none⟩))])
    (fun x => [.row rb 22 (hG n gs ++ tl1), .row gB 95 [.slice (some ⟨rb, 0, none⟩) n rc, .bool dp.1, .slice dp.2.1 dp.2.2.1 dp.2.2.2], .num (av dp) d, .fh [] gs x.E]) ⟨i + 1, E1⟩ (vY.open HM.out.td hi HM.out.El HM.out.rl) fun x hx => ?_
   obtain ⟨j, E2⟩ := x;have hij : i < j := hx.hj.1;have hjn : j <= n := hx.hj.2;have HY : Hid (vY n r d A i ⟨j, E2⟩) := H5 hx;clear hx;by_cases h2 : j < n
   . have h02 : (j : Int) < (n : Int) := by omega
     refine aA ?_;refine bh ?_;refine aT ?_;refine dB true ?_;obtain ⟨bj, hbj⟩ := Cs (gs.getD j 0);have k2 := mz (c := n) tl1 (by rw [HL.out.1]; exact h2) hbj;have Hbj := H5 hbj;clear hbj;refine eQ ?_;refine er (es' := [.fh [] gs E2, .row rb 22 (hG n gs ++ tl1), .row gB 95 [.slice (some ⟨rb, 0, none⟩) n rc, .bool dp.1, .slice dp.2.1 dp.2.2.1 dp.2.2.2], .num (av dp) d]) ?_;refine wE i (by rw [show E2.length = n from HY.out.El]; exact hi) Cq (by rw [show E2.length = n from HY.out.El]; exact HL.out.2) fun bi' psI tlI hbi htlI hpI => ?_;obtain rfl : bi = bi' := Hbi.out.symm.trans hbi;refine er (es' := [.fh [i] gs E2, .row bi 37 (rn psI tlI), .row rb 22 (hG n gs ++ tl1), .row gB 95 [.slice (some ⟨rb, 0, none⟩) n rc, .bool dp.1, .slice dp.2.1 dp.2.2.1 dp.2.2.2], .ns psI (E2.getD i []), .num (av dp) d]) ?_;refine wE j (by rw [show E2.length = n from HY.out.El]; exact h2) (by simp; omega) (by rw [show E2.length = n from HY.out.El]; exact HL.out.2) fun bj' psJ tlJ hbj htlJ hpJ => ?_;obtain rfl : bj = bj' := Hbj.out.symm.trans hbj;obtain ⟨xI, hxI⟩ : ∃ x, E2.getD i [] = x := ⟨_, rfl⟩;obtain ⟨xJ, hxJ⟩ : ∃ x, E2.getD j [] = x := ⟨_, rfl⟩;have hlI : xI.length = n := by rw [<- hxI]; exact HY.out.rl i hi
     have hlJ : xJ.length = n := by rw [<- hxJ]; exact HY.out.rl j h2
     have hgI : ∀ k, gi xI k = bP E2 i k := fun k => by unfold bP; rw [hxI]
     have hgJ : ∀ k, gi xJ k = bP E2 j k := fun k => by unfold bP; rw [hxJ]
     rw [hxI] at hpI |-;rw [hxJ] at hpJ |-;rw [hlI] at hpI;rw [hlJ] at hpJ;have k3 := tu tlI (ps := psI) (i := j) Cp;have k4 := tt tlI (ps := psI) (i := j) Cp;have k5 := tu tlJ (ps := psJ) (i := j) Cp;have k6 := tt tlJ (ps := psJ) (i := j) Cp;have hwI : ∀ k, ag (bP E2 i k).natAbs <= B2 := fun k => by rw [<- HB.out]; exact HY.out.wl hn hi k
     have hwJ : ∀ k, ag (gi xJ k).natAbs <= B2 := fun k => by rw [hgJ, <- HB.out]; exact HY.out.wl hn h2 k
     obtain ⟨a, ha⟩ := Cs (gi xI j);obtain ⟨b, hb⟩ := Cs (gi xJ j);have hwa : ag a.natAbs <= B2 := by rw [<- ha, hgI]; exact hwI j
     have hwb : ag b.natAbs <= B2 := by rw [<- hb]; exact hwJ j
     have hb0 : 0 < b := by rw [<- hb, hgJ]; exact (HY.out.td.pos j h2).1
     obtain ⟨q, hq⟩ := Cs (a.fdiv b);have hwq : ag q.natAbs <= B2 := by rw [<- hq]; exact Cw (aJ (pF hb0)) hwa
     have hqe : q = (bP E2 i j).fdiv (bP E2 j j) := by rw [<- hq, <- ha, <- hb, hgI, hgJ]
     refine lP (e := .num (av (gp psI j)) a) (fun w' H => by have := (H.all (.ns psI xI) Cq : bX ..).2 j Cp; rw [ha] at this; exact this) ?_;refine lP (e := .num (av (gp psJ j)) b) (fun w' H => by have := (H.all (.ns psJ xJ) Cq : bX ..).2 j Cp; rw [hb] at this; exact this) ?_;have HII := H5 (Cv htlI (Cv hpI (Cv hxI (Cv hlI hgI))));have HJJ := H5 (Cv htlJ (Cv hpJ (Cv hxJ (Cv hlJ hgJ))));have HW := H5 (Cv hwI (Cv hwJ (Cv hwa (Cv hwb (Cv hwq (Cv hb0 (Cv hq hqe)))))));clear hbi hbj htlI htlJ hpI hpJ hxI hxJ hlI hlJ hgI hgJ hwI hwJ hwa hwb hwq hb0 hq hqe ha hb;refine er (es' := [.row bi 37 (rn psI tlI), .row bj 37 (rn psJ tlJ), .row rb 22 (hG n gs ++ tl1), .row gB 95 [.slice (some ⟨rb, 0, none⟩) n rc, .bool dp.1, .slice dp.2.1 dp.2.2.1 dp.2.2.2], .num (av (gp psI j)) a, .num (av (gp psJ j)) b, .ns psI xI, .ns psJ xJ, .num (av dp) d, .fh [j, i] gs E2]) ?_;refine nM ?_;refine aA ?_;(iterate 5 refine bh ?_);refine cN2 (x := q) (y := a.fmod b) (z := .int .i64 0) (fun w' H => by
      have := nh (av (gp psI j)) (av (gp psJ j)) a b w' (aL.int (H.all (.num (av (gp psI j)) a) Cq) (Cw HW.out.2.2.1 Cp)) (aL.int (H.all (.num (av (gp psJ j)) b) Cq) (Cw HW.out.2.2.2.1 Cp)) (by have := HW.out.2.2.2.2.2.1; omega);rw [HW.out.2.2.2.2.2.2.1] at this; exact this) fun pq pf => ?_
     refine bh ?_;refine aW fun g4 => ?_;refine aW fun g5 => ?_;refine sG ?_;refine sG ?_;refine aC ?_;refine dO ?_;refine cV (v := .int .i64 (aV q)) (fun w' H => cO (av pq) q w' (ai.int (H.all (.own w.heap.size (av pq) q) (by simp [av])) (Cw HW.out.2.2.2.2.1 Cp))) ?_;by_cases hz : q = 0
     . have hz1 := zs0 hz;refine kq ?_;refine aA ?_;refine dW ?_;refine dE (dL (a := j) Cp) ?_;refine aC ?_;exact cD (⟨j + 1, E2⟩ : TyX) ⟨HY.out.skip hi h2 (by rw [<- HW.out.2.2.2.2.2.2.2]; exact hz), by show n - (j + 1) < n - j; omega⟩ (he := by
        intro w' h';have h3 : Fr _ w w' (.row bj 37 (rn psJ tlJ) :: .ns psJ xJ :: .fh [j, i] gs E2 :: [.row bi 37 (rn psI tlI), .ns psI xI, .row rb 22 (hG n gs ++ tl1), .row gB 95 [.slice (some ⟨rb, 0, none⟩) n rc, .bool dp.1, .slice dp.2.1 dp.2.2.1 dp.2.2.2], .num (av dp) d]) := h'.pick (by repeat (first | exact Pk.n | refine Pk.c (by repeat (first | exact Rm.z | apply Rm.s)) ?_));rw [<- Hbj.out] at h3;have h4 := h3.sD (by rw [show E2.length = n from HY.out.El]; exact h2) (by simp; omega) HJJ.out.1;rw [<- HJJ.out.2.2.1, iK (by rw [show E2.length = n from HY.out.El]; exact h2)] at h4;have h5 : Fr _ w w' (.row bi 37 (rn psI tlI) :: .ns psI xI :: .fh [i] gs E2 :: [.row rb 22 (hG n gs ++ tl1), .row gB 95 [.slice (some ⟨rb, 0, none⟩) n rc, .bool dp.1, .slice dp.2.1 dp.2.2.1 dp.2.2.2], .num (av dp) d]) := h4.pick (by repeat (first | exact Pk.n | refine Pk.c (by repeat (first | exact Rm.z | apply Rm.s)) ?_));rw [<- Hbi.out] at h5;have h6 := h5.sD (by rw [show E2.length = n from HY.out.El]; exact hi) Cq HII.out.1;rw [<- HII.out.2.2.1, iK (by rw [show E2.length = n from HY.out.El]; exact hi)] at h6;exact h6.pick (by repeat (first | exact Pk.n | refine Pk.c (by repeat (first | exact Rm.z | apply Rm.s)) ?_)))
     . have hz1 := zs1 hz;clear hz;refine fC ?_;refine aA ?_;refine dW ?_;refine cN (x := -q) (fun w' H => iY (av pq) q w' (ai.int (H.all (.own w.heap.size (av pq) q) (by simp [av])) (Cw HW.out.2.2.2.2.1 Cp))) fun pn => ?_;refine sW ?_;refine eW ?_;refine aA ?_;refine dW ?_;refine aC ?_;clear k3 k4 k5 k6 hz1;refine cF (X := TzX) (TzI n i j q E2) (fun x => n - x.k) (fun x => [(7, .int .i64 (x.k : Int)), (4, .pointer (some ⟨g4, 0, none⟩)), (3, .int .i64 (j : Int)), (2, .int .i64 (i : Int)), (0, .pointer (some ⟨gB, 0, none⟩))])
        (fun x => [.row bi 37 (rn x.ps tlI), .row bj 37 (rn psJ tlJ), .row g4 37 [.bool pn.1, .slice pn.2.1 pn.2.2.1 pn.2.2.2], .row rb 22 (hG n gs ++ tl1), .row gB 95 [.slice (some ⟨rb, 0, none⟩) n rc, .bool dp.1, .slice dp.2.1 dp.2.2.1 dp.2.2.2], .own w.heap.size (av pn) (-q), .ns x.ps x.xs, .ns psJ xJ, .num (av dp) d, .fh [j, i] gs E2]) ⟨j, psI, xI⟩ ⟨⟨Ct _, hjn⟩, HII.out.2.1, HII.out.2.2.2.1, fun k hk => by
         rw [if_neg (by show ¬ (j <= k /\ k < j); omega)]; exact HII.out.2.2.2.2 k⟩ fun x hx => ?_
       obtain ⟨k, ps3, xs3⟩ := x;have hk1 : j <= k := hx.hk.1;have hk2 : k <= n := hx.hk.2;have hpl : ps3.length = n := hx.pl;have hxl : xs3.length = n := hx.xl;have HZ : Hid (TzI n i j q E2 ⟨k, ps3, xs3⟩) := H5 hx;have HPX := H5 (Cv hpl hxl);clear hx;by_cases h3 : k < n
       . have h03 : (k : Int) < (n : Int) := by omega
         have k3 := tu tlI (ps := ps3) (i := k) Cp;have k4 := tt tlI (ps := ps3) (i := k) Cp;have k5 := tu tlJ (ps := psJ) (i := k) (by rw [HJJ.out.2.1]; exact h3);have k6 := tt tlJ (ps := psJ) (i := k) (by rw [HJJ.out.2.1]; exact h3);have hxk : gi xs3 k = bP E2 i k := by have := HZ.out.val k h3; rw [if_neg (by show ¬ (j <= k /\ k < k); omega)] at this; exact this
         have Hxk := H5 hxk;clear hxk hpl hxl;refine aA ?_;refine bh ?_;refine aT ?_;refine kq ?_;refine aA ?_;(iterate 7 refine bh ?_);refine dW ?_;refine cN (x := -q * gi xJ k + gi xs3 k) (fun w' H => gj (av pn) (av (gp psJ k)) (av (gp ps3 k)) (-q) (gi xJ k) (gi xs3 k) B2 B2 w' (ai.int (H.all (.own w.heap.size (av pn) (-q)) (by simp [av])) (by rw [DK]; exact HW.out.2.2.2.2.1)) (aL.int ((H.all (.ns psJ xJ) Cq : bX ..).2 k (by rw [HJJ.out.2.1]; exact h3)) (HW.out.2.1 k)) (aL.int ((H.all (.ns ps3 xs3) Cq : bX ..).2 k (by rw [HPX.out.1]; exact h3)) (by rw [Hxk.out]; exact Cw (HW.out.1 k) Cp)) Cp) fun p4 => ?_;refine je (e := .ns (ps3.set k p4) (xs3.set k (-q * gi xJ k + gi xs3 k))) (fun w' H => bX.set (H.all (.ns ps3 xs3) Cq) k (H.all (.own w.heap.size (av p4) (-q * gi xJ k + gi xs3 k)) (by simp [av]) : ai ..).num) ?_;refine dW ?_;refine sN (ps := ps3) k p4 (by rw [HPX.out.1]; exact h3) HII.out.1 rfl ?_;refine eW ?_;refine aA ?_;refine dW ?_;refine dE (dL (a := k) Cp) ?_;refine aC ?_;exact cD (⟨k + 1, ps3.set k p4, xs3.set k (-q * gi xJ k + gi xs3 k)⟩ : TzX) ⟨⟨⟨by show j <= k + 1; omega, h3⟩, by show (ps3.set k p4).length = n; rw [CL]; exact HPX.out.1, by show (xs3.set k _).length = n; rw [CL]; exact HPX.out.2, fun t ht => by
          show gi (xs3.set k _) t = if j <= t /\ t < k + 1 then _ else _;rw [gO (by rw [HPX.out.2]; exact h3)];by_cases e : t = k
          . rw [if_pos e, if_pos Cp, e, Hxk.out, HJJ.out.2.2.2.2]
          . rw [if_neg e];have := HZ.out.val t ht;rw [this];show (if j <= t /\ t < k then _ else _) = _;by_cases e2 : j <= t /\ t < k
            . rw [if_pos e2, if_pos Cp]
            . rw [if_neg e2, if_neg Cp]⟩, by show n - (k + 1) < n - k; omega⟩
       . obtain rfl : n = k := by omega
         refine aA ?_;refine bh ?_;refine aT ?_;refine fC ?_;refine aA ?_;refine dW ?_;refine dE (dL (a := j) Cp) ?_;refine aC ?_;exact cD (⟨j + 1, E2.set i xs3⟩ : TyX) ⟨HY.out.sub hi h2 HW.out.2.2.2.2.2.2.2 HPX.out.2 (fun k hk => by have := HZ.out.val k hk; rw [this]; by_cases e : j <= k; rw [if_pos e, if_pos ⟨e, hk⟩]; rw [if_neg e, if_neg (fun q => e q.1)]), by show n - (j + 1) < n - j; omega⟩ (he := by
          intro w' h';have h3 : Fr _ w w' (.row bj 37 (rn psJ tlJ) :: .ns psJ xJ :: .fh [j, i] gs E2 :: [.row bi 37 (rn ps3 tlI), .ns ps3 xs3, .row rb 22 (hG n gs ++ tl1), .row gB 95 [.slice (some ⟨rb, 0, none⟩) n rc, .bool dp.1, .slice dp.2.1 dp.2.2.1 dp.2.2.2], .num (av dp) d]) := h'.pick (by repeat (first | exact Pk.n | refine Pk.c (by repeat (first | exact Rm.z | apply Rm.s)) ?_));rw [<- Hbj.out] at h3;have h4 := h3.sD (by rw [show E2.length = n from HY.out.El]; exact h2) (by simp; omega) HJJ.out.1;rw [<- HJJ.out.2.2.1, iK (by rw [show E2.length = n from HY.out.El]; exact h2)] at h4;have h5 : Fr _ w w' (.row bi 37 (rn ps3 tlI) :: .ns ps3 xs3 :: .fh [i] gs E2 :: [.row rb 22 (hG n gs ++ tl1), .row gB 95 [.slice (some ⟨rb, 0, none⟩) n rc, .bool dp.1, .slice dp.2.1 dp.2.2.1 dp.2.2.2], .num (av dp) d]) := h4.pick (by repeat (first | exact Pk.n | refine Pk.c (by repeat (first | exact Rm.z | apply Rm.s)) ?_));rw [<- Hbi.out] at h5;have h6 := h5.sD (by rw [show E2.length = n from HY.out.El]; exact hi) Cq HII.out.1;exact h6.pick (by repeat (first | exact Pk.n | refine Pk.c (by repeat (first | exact Rm.z | apply Rm.s)) ?_)))
   . obtain rfl : n = j := by omega
     refine aA ?_;refine bh ?_;refine aT ?_;refine fC ?_;refine aA ?_;refine dW ?_;refine dE (BF (a := (i : Int)) Cp Cp) ?_;refine aC ?_;exact cD (⟨i, (i : Int) - 1, E2⟩ : ToX) ⟨⟨by show i <= n; omega, rfl, HY.out.El, HY.out.rl, HY.out.td⟩, Dw _⟩
 . obtain rfl : m = 0 := by omega
   obtain rfl : v = -1 := by omega
   clear hv;refine aA ?_;refine dW ?_;refine fC ?_;refine jY ?_;refine vE fun w' H => ?_;have El : E1.length = n := HM.out.El;have hF := dM.of (dp := dp) (d := d) El HL.out.1 HL.out.2 HT.out.1 HT.out.2 (H.all (.row gB 95 [.slice (some ⟨rb, 0, none⟩) n rc, .bool dp.1, .slice dp.2.1 dp.2.2.1 dp.2.2.2]) Cq) (H.all (.row rb 22 (hG n gs ++ tl1)) Cq) (H.all (.fh [] gs E1) Cq) (H.all (.num (av dp) d) Cq);exact ⟨_, rfl, H.bs, hF, dr.of (H.own (.row gB 95 [.slice (some ⟨rb, 0, none⟩) n rc, .bool dp.1, .slice dp.2.1 dp.2.2.1 dp.2.2.2]) Cq rfl gB rfl) (H.own (.row rb 22 (hG n gs ++ tl1)) Cq rfl rb rfl) (fun t ht => H.own (.fh [] gs E1) Cq rfl _ ⟨t, ht, by simp, rfl⟩), rfl, El, HM.out.rl, HM.out.td.done, fun t ht k => HM.out.td.le ht k⟩
theorem zf (gB n r B : Nat) (A : Mx) (z : jL) (w : World) (hn : n <= 64) (hB : B <= 1000000000) (hz : z.E.length = n) (hrl : ∀ t < n, (z.E.getD t []).length = n) (hdB : ag z.d.natAbs <= B) (hT : o3 n z.d r A n n (bP z.E)) (h : dM gB n z w) :
 Calls Tryz.prog 65 #[.pointer (some ⟨gB, 0, none⟩)] w fun e w' => ∃ z', e = .returned (.tuple #[]) /\ aU (dr gB z) w w' /\ dM gB n z' w' /\ (∀ b, dr gB z' b -> dr gB z b \/ w.heap.size <= b) /\ TdR n r A z z' := by
 rcases Dn n with rfl | h0
 . exact Aw gB r A z w hz hT h
 . exact yZ gB n r B A z w h0 hn hB hz hrl hdB hT h
theorem dM.wu {gB m : Nat} {z : jL} {w : World} {l : Nat} {o o' : Obj} (hl : w.heap[l]? = some o) (hn : o.isCells = false) (h : dM gB m z w) : dM gB m z (w.putObj l o') := by
 obtain ⟨⟨h1, h2, h4, h5⟩, h6, h7⟩ := h;refine ⟨⟨iA hl hn h1, ?_, fun t ht hx => ?_, kM hl hn h5⟩, h6, h7⟩
 . exact Pz.lg (te := 22) (sz := 1) (ao := z.ro) (k := z.E.length) (cap := z.rc) (cs := hG m z.gs) w l o o' hl hn h2
 . exact Pz.jm (x := z.E.length) (gs := z.gs) (E := z.E) w l o o' hl hn h4 t ht hx
theorem Pz.ly {gB m : Nat} {z : jL} : Pz (.ly gB m z) := fun _ _ _ _ hl hn h => dM.wu hl hn h
theorem Cz.ly {gB m : Nat} {z : jL} : Cz (.ly gB m z) := fun w h _ g hg => by
 obtain ⟨t, cs, hr, hn, _⟩ := dM.rows (h : dM gB m z w) hg;exact ⟨t, cs, hr, hn⟩
theorem chgI {l N : Nat} {P : Program} {n : Nat} {S0 : Nat -> Prop} {w0 : World} {c : Code} {Q : Exit -> Act -> World -> Prop} {ls : List (Nat × Value)} {es es' : List En} (h : ∀ w, Fr S0 w0 w es -> Fr S0 w0 w es') (k : CI l N P n S0 w0 c Q ls es') : CI l N P n S0 w0 c Q ls es := fun a w ha hw => k a w ha (h w hw)
theorem Fr.bavI {S0 : Nat -> Prop} {w0 w : World} {es : List En} {gB m : Nat} {z : jL} {g : Nat} {ps : List P4} {tl : List Value} {xs : List Int} (hn : aN tl) (h : Fr S0 w0 w (.row g 37 (rn ps tl) :: .ns ps xs :: .ly gB m z :: es)) : Fr S0 w0 w (.wS gB m z g ps tl xs :: es) := by
 have hs := List.pairwise_cons.1 h.sep;refine Fr.uD (X := [.row g 37 (rn ps tl), .ns ps xs, .ly gB m z]) h ⟨h.m2, hn, h.m0, h.m1, fun hb => ?_⟩ fun b hb => ?_
 . exact (hs.1 (.ly gB m z) Cq).1 rfl g rfl hb
 . rcases hb with hb | hb
   . exact ⟨.ly gB m z, by simp, rfl, hb⟩
   . exact ⟨.row g 37 (rn ps tl), by simp, rfl, hb⟩
theorem Fr.basR {S0 : Nat -> Prop} {w0 w : World} {es : List En} {gB m L : Nat} {z : jL} (h : Fr S0 w0 w (.ly gB m z :: es)) (hb : ∀ t < z.E.length, ∀ a ∈ z.E.getD t [], ag a.natAbs <= L) :
 Fr S0 w0 w (.row gB 95 (qG z) :: .rl z.ro (hG m z.gs) :: .Bd L (z.gs.map fun g => (some ⟨g, 0, none⟩, m)) z.E :: es) := by
 obtain ⟨h1, h6, h7⟩ := h.Ca;have h2 : Fr S0 w0 w (.lg 22 1 z.ro z.E.length z.rc (hG m z.gs) :: .jm z.E.length z.gs z.E :: .row gB 95 (qG z) :: es) := (h1.sub ((((List.Sublist.refl es).cons _).cons₂ _ |>.cons₂ _) |>.cons₂ _)).perm ((List.Perm.swap ..).trans ((List.Perm.swap ..).cons _));have h3 : Fr S0 w0 w (.rl z.ro (hG m z.gs) :: .jm z.E.length z.gs z.E :: .row gB 95 (qG z) :: es) := h2.conv mL.rl (fun b ⟨_, e⟩ => e) (fun q => nomatch q);have h4 : Fr S0 w0 w (.jm z.E.length z.gs z.E :: .rl z.ro (hG m z.gs) :: .row gB 95 (qG z) :: es) := h3.perm (List.Perm.swap ..);have hm : ∀ t, t < z.E.length -> ((z.gs.map fun g => ((some ⟨g, 0, none⟩ : Option Addr), m)).getD t (none, 0)).1 = some ⟨z.gs.getD t 0, 0, none⟩ := fun t ht => by
  rw [<- h6] at ht; simp [ht]
 have h5 : Fr S0 w0 w (.Bd L (z.gs.map fun g => (some ⟨g, 0, none⟩, m)) z.E :: .rl z.ro (hG m z.gs) :: .row gB 95 (qG z) :: es) := h4.conv (fun hF t ht => by
  obtain ⟨ps, tl, _, hr, hns⟩ := (hF : Aj z.E.length z.gs z.E w) t ht Cp;rw [hm t ht]; exact nF hr hns (hb t ht)) (fun b ⟨t, ht, _, o, e⟩ => by
  rw [hm t ht] at e; cases e; exact ⟨t, ht, by omega, rfl⟩) (fun q => nomatch q)
 exact h5.perm (((List.Perm.swap ..).trans ((List.Perm.swap ..).cons _)).trans (List.Perm.swap ..))
def ft (E : List (List Int)) : Nat -> List Int
 | 0 => []
 | k + 1 => ft E k ++ E.getD k []
theorem me {E : List (List Int)} {n : Nat} (hl : ∀ t < n, (E.getD t []).length = n) : ∀ k, k <= n -> (ft E k).length = k * n
 | 0, _ => by simp [ft]
 | k + 1, hk => by rw [ft, CQ, me hl k Cp, hl k Cp, Dz]
theorem pS {E : List (List Int)} {n : Nat} (hl : ∀ t < n, (E.getD t []).length = n) : ∀ k, k <= n -> ∀ t < k, ∀ j < n, (ft E k).getD (t * n + j) 0 = gi (E.getD t []) j
 | 0, _, t, ht, _, _ => by omega
 | k + 1, hk, t, ht, j, hj => by
  have h0 := me hl k Cp;rw [ft, List.getD_eq_getElem?_getD];by_cases e : t < k
  . have h2 := cZ (r := k) (c := n) e hj;rw [List.getElem?_append_left Cp, <- List.getD_eq_getElem?_getD]; exact pS hl k Cp t e j hj
  . obtain rfl : t = k := by omega
    rw [List.getElem?_append_right Cp, h0, Nat.add_sub_cancel_left]; simp [gi]
theorem Aq {E : List (List Int)} {n : Nat} (El : E.length = n) (hl : ∀ t < n, (E.getD t []).length = n) : au (ft E n) n n = bP E := by
 funext t j;by_cases ht : t < n
 . by_cases hj : j < n
   . rw [bE ht hj, pS hl n (Ct _) t ht j hj]; rfl
   . unfold au bP;rw [if_neg Cp]; exact (fI _ _ (by rw [hl t ht]; omega)).symm
 . unfold au bP;rw [if_neg Cp, List.getD_eq_getElem?_getD, List.getElem?_eq_none Cp]; simp [gi]
theorem zj {xs : List Int} {j : Nat} (h : j < xs.length) : xs.take (j + 1) = xs.take j ++ [gi xs j] := by
 rw [List.take_succ, List.getElem?_eq_getElem h, cU h]; rfl
theorem row_E {xs : List Int} {r n k : Nat} (hs : xs.length = r * n) (hk : k < r) : gi (rowOf xs n k) = au xs r n k := by
 funext j;by_cases hj : j < n
 . unfold gi; rw [kz _ _ _ _ hj, bE hk hj]
 . unfold au; rw [if_neg Cp]; exact fI _ _ (by rw [eh hs hk]; omega)
structure zX (n r : Nat) (d : Int) (A : Mx) (k : Nat) (z : jL) : Prop where
 El : z.E.length = n
 rl : ∀ t < n, (z.E.getD t []).length = n
 dz : z.d = d
 bj : nO n d A k (bP z.E)
theorem zX.start {n r : Nat} {d : Int} {A : Mx} {z : jL} (hd : 0 < d) (h : z.E = ma n d n /\ z.d = d) : zX n r d A 0 z :=
 ⟨by rw [h.1, fY], fun t ht => by rw [h.1]; simp [ma, ht], h.2, nO.start hd A fun t ht i => by rw [h.1]; exact Bq ht i⟩
theorem zX.next {n r k : Nat} {d : Int} {A : Mx} {z z' : jL} {xs : List Int} (h : zX n r d A k z) (hx : gi xs = A k) (hp : sM n z z' xs) : zX n r d A (k + 1) z' := by
 obtain ⟨h1, h2, h3, V, hV, hP⟩ := hp;rw [h.dz, hx] at hP;exact ⟨h2, h3, h1.trans h.dz, h.bj.next hP fun i hi => fI _ _ Cp⟩
theorem zX.out {n r k : Nat} {d : Int} {A : Mx} {z : jL} (h : zX n r d A k z) : ∀ t < n, ∀ i, n <= i -> bP z.E t i = 0 := fun t ht i hi => fI _ _ (by rw [h.rl t ht]; exact hi)
theorem factQ {P : Nat} {ds : List Deferred} {S0 : Nat -> Prop} {w0 : World} {n : Nat} {ls : List (Nat × Value)} {es : List En} {Q : Exit -> Act -> World -> Prop} {e : Exit} {A : Prop} (hA : ∀ w, Fr S0 w0 w es -> A) (k : A -> nG ds n S0 w0 Q e ls es) : nG ds n S0 w0 Q e ls es := fun a w ha hw => k (hA w hw) a w ha hw
theorem Ch {gB m : Nat} {z : jL} {g : Nat} {ps : List P4} {tl : List Value} {xs : List Int} {w : World} (h : (En.wS gB m z g ps tl xs).F w) : Wl (fun b => dr gB z b \/ b = g) w := fun b hb => by
 rcases hb with hb | rfl
 . exact h.1.rows hb
 . exact ⟨_, _, h.2.2.1, aN.rn h.2.1, by decide⟩
structure LoX where
 i : Nat
 k : Nat
 ao : Option Addr
 cap : Nat
 ps : List P4
structure LoI (n : Nat) (x : LoX) : Prop where
 hi : x.i <= n
 hk : x.i * n = x.k
structure LiX where
 j : Nat
 k : Nat
 ao : Option Addr
 cap : Nat
 ps : List P4
 zs : List Int
structure LiI (n i : Nat) (row base : List Int) (x : LiX) : Prop where
 hj : x.j <= n
 hk : i * n + x.j = x.k
 hz : x.zs = base ++ row.take x.j
def rR (n r : Nat) (d : Int) (A : Mx) (zs : List Int) : Prop := zs.length = n * n /\ Md n ((d.natAbs : Nat) : Int) r A (au zs n n) /\ ∀ t < n, ∀ k, (au zs n n t k).natAbs <= d.natAbs
theorem vJ (r n nm B cap : Nat) (ao : Option Addr) (xs : List Int) (d : Int) (pd : P4) (w : World) (hr : r <= 64) (hn : n <= 64) (hB : B <= 1000000000) (hA : aQ w B ao xs) (hs : xs.length = r * n) (hnm : xs.length = nm) (hd0 : d ≠ 0) (hD : ah w B (av pd) d) :
 Calls Tryz.prog 28 #[.agg #[.int .i64 (r : Int), .int .i64 (n : Int), .slice ao nm cap], av pd] w fun e w' => (∃ p : (Option Addr × Nat) × List Int, e = .returned (.tuple #[.agg #[.int .i64 (n : Int), .int .i64 (n : Int), .slice p.1.1 (n * n) p.1.2], .int .i64 0]) /\ fq w' p.1.1 p.2 /\ rR n r d (au xs r n) p.2 /\ ∀ b o, p.1.1 = some ⟨b, o, none⟩ -> w.heap.size <= b) /\ Below w.heap.size w w' := by
 have hxb := iU hA;have hC : ∀ w', Calls Tryz.prog 7 #[.agg #[.int .i64 (r : Int), .int .i64 (n : Int), .slice ao nm cap]] w' fun e w'' => e = .returned (.int .i64 0) /\ Below w'.heap.size w' w'' := fun w' => by
  have := cW (r : Int) (n : Int) ao nm cap w' Cp Cp;rw [dv (by unfold ba bL; rw [<- hnm, hs]; simp; omega)] at this; exact this
 have cL := fun w' (h : aQ w' B ao xs) => sX r n nm ao cap xs w' hr hn (fun hl => by
  obtain ⟨b, o, e, hlt, hc⟩ := h hl;exact ⟨b, o, e, hlt, fun i hi => by obtain ⟨p, h0, h1, hn⟩ := hc i hi; exact ⟨p, h0, h1, hn.mono Cp⟩⟩) hs hnm
 have hwx : ∀ x ∈ xs, ag x.natAbs <= B := fun x hx => an (hxb x hx);obtain ⟨dd, hdd⟩ : ∃ dd : Int, ((d.natAbs : Nat) : Int) = dd := ⟨_, rfl⟩;have hdp : 0 < dd := by omega
 have hdw : ag dd.natAbs <= B := by rw [<- hdd]; exact hD.ag
 obtain ⟨A, hAe⟩ := Cs (au xs r n);have hrow : ∀ k < r, gi (rowOf xs n k) = A k := fun k hk => by rw [<- hAe]; exact row_E hs hk
 have hrl : ∀ k < r, (rowOf xs n k).length = n := fun k hk => eh hs hk;have hrw : ∀ k, ∀ x ∈ rowOf xs n k, ag x.natAbs <= B := fun k x hx => hwx x (EJ (Eu hx));have HC := H5 (Cv hC cL);have HS := H5 (Cv hs (Cv hnm (fun x hx => Cw (hwx x hx) (show B <= 17592186044415 by omega))));have HR := H5 (Cv hrow (Cv hrl hrw));have HD := H5 (Cv hdd (Cv hdp hdw));have HA := H5 hAe;have hz1 := zs1 hd0;rw [hAe];have HF := ((Fr.nil (fun _ => False) w).i hD).l hA (by simp [En.wr, En.at]);clear hC cL hxb hwx hs hnm hrow hrl hrw hdd hdp hdw hAe hA hD;refine B9 (S0 := fun _ => False) Tryz.func28 HF ?_;clear HF;refine aA ?_;refine aW fun g2 => ?_;refine aW fun g3 => ?_;refine aW fun g4 => ?_;refine aC ?_;refine dO ?_;refine cV (v := .int .i64 0) (fun w' H => HC.out.1 w') ?_;refine aC ?_;refine dO ?_;refine fC ?_;refine aA ?_;refine dW ?_;refine cV (v := .int .i64 (aV d)) (fun w' H => cO (av pd) d w' ((H.all (.at B (av pd) d) (by simp [av]) : ah ..).mono Cp)) ?_;refine fC ?_;refine aA ?_;refine aT ?_;refine dW ?_;refine cG (α := Nat × jL) (mk := fun q => .pointer (some ⟨q.1, 0, none⟩)) (ens := fun q => [.ly q.1 n q.2, .pr (q.2.E = ma n dd n /\ q.2.d = dd)]) (hne := ⟨(0, ⟨none, 0, [], [], p0, 0⟩)⟩) (fun w' H => (yy n d pd w' hn ((H.all (.at B (av pd) d) (by simp [av]) : ah ..).mono Cp)).mono fun e w'' ⟨q, he, hnw, h1, h2⟩ => ⟨q, he, hnw.1, fun e he => by
  rcases List.mem_cons.1 he with rfl | he
  . exact hnw.2.1 _ (List.mem_singleton.2 rfl)
  . rcases List.mem_singleton.1 he with rfl;rw [<- HD.out.1]; exact ⟨⟨h1, h2⟩, fun _ h => h.elim⟩, .cons (fun x hx => by rcases List.mem_singleton.1 hx with rfl; exact ⟨fun _ _ _ h => h, fun q => nomatch q⟩) (CM ..)⟩) fun q0 => ?_
 refine aW fun g7 => ?_;refine sG ?_;refine eQ ?_;refine r6 (A := q0.2.E = ma n dd n /\ q0.2.d = dd) Cq fun hq0 => ?_;have HQ0 := H5 (zX.start (r := r) (A := A) HD.out.2.1 hq0);clear hq0;obtain ⟨gB, z0⟩ := q0;refine er (es' := [.row g7 88 [.pointer (some ⟨gB, 0, none⟩)], .row g2 24 [.int .i64 (r : Int), .int .i64 (n : Int), .slice ao nm cap], .row g4 24 [.int .i64 0, .int .i64 0, .slice none 0 0], .ls B ao xs, .ly gB n z0]) ?_;refine dO ?_;refine cG (α := (Nat × Nat) × List P4 × List Value) (mk := fun q => .func (.func 89) #[] #[.pointer (some ⟨q.1.1, 0, none⟩)]) (ens := fun q => [.row q.1.1 24 [.int .i64 (r : Int), .int .i64 (n : Int), .slice (some ⟨q.1.2, 0, none⟩) nm nm], .row q.1.2 37 (rn q.2.1 q.2.2), .ns q.2.1 xs, .pr (aN q.2.2)]) (fun w' H => HC.out.2 w' (H.all (.ls B ao xs) Cq)) fun q => ?_;refine eQ ?_;refine r6 (A := aN q.2.2) Cq fun hq => ?_;refine vB (X := jL) (gb := q.1.1) (b := q.1.2) (r := r) (c := n) (m := nm) (ps := q.2.1) (tl := q.2.2) (xs := xs) (zX n r dd A)
  (fun x => [.row g7 88 [.pointer (some ⟨gB, 0, none⟩)], .row g2 24 [.int .i64 (r : Int), .int .i64 (n : Int), .slice ao nm cap], .row g4 24 [.int .i64 0, .int .i64 0, .slice none 0 0], .ly gB n x])
  (fun D x => [.row g7 88 [.pointer (some ⟨gB, 0, none⟩)], .row g2 24 [.int .i64 (r : Int), .int .i64 (n : Int), .slice ao nm cap], .row g4 24 [.int .i64 0, .int .i64 0, .slice none 0 0], .ly gB n x, .we w.heap.size D])
  z0 (fun k g => [(9, .slice (some ⟨g, 0, none⟩) n n), (7, .pointer (some ⟨g7, 0, none⟩))]) hr hn HS.out.1 HS.out.2.1 HS.out.2.2 hq HQ0.out (fun l k g W => ?_) (fun l k x g qs tk S' W hx hk htk => ?_) (fun D x hx => ?_)
  (fun x => .cons .row .row (.cons .row .row (.cons .row .row (.cons .ly .ly .nil))))
 . refine yO ?_;refine rI [] ?_;refine dW ?_;refine eW ?_;refine yO ?_;exact asgE
 . have HX := H5 hx;clear hx;refine yO ?_;refine chgI (es' := [.row g7 88 [.pointer (some ⟨gB, 0, none⟩)], .row g2 24 [.int .i64 (r : Int), .int .i64 (n : Int), .slice ao nm cap], .row g4 24 [.int .i64 0, .int .i64 0, .slice none 0 0], .wS gB n x g qs tk (rowOf xs n k)]) (fun w' h => by
    have h2 : Fr S' W w' (.row g 37 (rn qs tk) :: .ns qs (rowOf xs n k) :: .ly gB n x :: [.row g7 88 [.pointer (some ⟨gB, 0, none⟩)], .row g2 24 [.int .i64 (r : Int), .int .i64 (n : Int), .slice ao nm cap], .row g4 24 [.int .i64 0, .int .i64 0, .slice none 0 0]]) := h.pick (by repeat (first | exact Pk.n | refine Pk.c (by repeat (first | exact Rm.z | apply Rm.s)) ?_));exact (h2.bavI htk).pick (by repeat (first | exact Pk.n | refine Pk.c (by repeat (first | exact Rm.z | apply Rm.s)) ?_))) ?_
   refine rI [] ?_;refine aT ?_;refine cUp (α := jL) (mk := fun _ => .tuple #[]) (e := .wS gB n x g qs tk (rowOf xs n k)) (e' := fun p => .ly gB n p) (ens := fun p => [.pr (sM n x p (rowOf xs n k))]) (fun w' H => (Ck gB n B g x qs tk (rowOf xs n k) w' hn hB HX.out.El HX.out.rl (by rw [HX.out.dz]; exact HD.out.2.1) (by rw [HX.out.dz]; exact HD.out.2.2) (HR.out.2.1 k hk) (HR.out.2.2 k) (by rw [HX.out.dz, HR.out.1 k hk]; exact HX.out.bj.open) (H.all (.wS gB n x g qs tk (rowOf xs n k)) Cq)).mono fun e w'' ⟨p, he, q1, q2, q3, q4⟩ => ⟨p, he, q1, q2, q3, fun y hy => by rcases List.mem_singleton.1 hy with rfl; exact ⟨q4, fun _ h => h⟩⟩) (fun w h => Ch h) (hne := ⟨x⟩) fun p => ?_;refine eW ?_;refine yO ?_;refine factQ (P := 0) (A := sM n x p (rowOf xs n k)) (fun w' h => h.all (.pr (sM n x p (rowOf xs n k))) Cq) fun hp => ?_;exact rdE p (HX.out.next (HR.out.1 k hk) hp)
 have HX := H5 hx;clear hx;refine aA ?_;refine dW ?_;refine cUp (α := jL) (mk := fun _ => .tuple #[]) (e := .ly gB n x) (e' := fun p => .ly gB n p) (ens := fun p => [.pr (TdR n r A x p)]) (fun w' H => (zf gB n r B A x w' hn hB HX.out.El HX.out.rl (by rw [HX.out.dz]; exact HD.out.2.2) (by rw [HX.out.dz]; exact o3.start HX.out.bj HD.out.2.1 HX.out.out) (H.all (.ly gB n x) Cq)).mono fun e w'' ⟨p, he, q1, q2, q3, q4⟩ => ⟨p, he, q1, q2, q3, fun y hy => by rcases List.mem_singleton.1 hy with rfl; exact ⟨q4, fun _ h => h⟩⟩) (fun w h => dM.wl h) (hne := ⟨x⟩) fun p => ?_;refine eQ ?_;refine r6 (A := TdR n r A x p) Cq fun hp => ?_;have HP := H5 hp;clear hp;obtain ⟨ro, rc, gs, E, dp, d'⟩ := p;refine er (es' := [.row g7 88 [.pointer (some ⟨gB, 0, none⟩)], .row g2 24 [.int .i64 (r : Int), .int .i64 (n : Int), .slice ao nm cap], .row g4 24 [.int .i64 0, .int .i64 0, .slice none 0 0], .ly gB n ⟨ro, rc, gs, E, dp, d'⟩, .we w.heap.size D]) ?_;have hEb : ∀ t < n, ∀ a ∈ E.getD t [], ag a.natAbs <= B := fun t ht a ha => by
  obtain ⟨i, hi, rfl⟩ := Dh ha;rw [<- cU hi];have h1 : (bP E t i).natAbs <= x.d.natAbs := HP.out.2.2.2.2 t ht i;rw [HX.out.dz] at h1;exact Cw (aJ h1) HD.out.2.2
 have HEb := H5 hEb;clear hEb;obtain ⟨hs, hhs⟩ : ∃ hs : List (Option Addr × Nat), (gs.map fun g => ((some ⟨g, 0, none⟩ : Option Addr), n)) = hs := ⟨_, rfl⟩;refine xw (A := gs.length = n) (fun w' h' => (h'.m3 : dM gB n ⟨ro, rc, gs, E, dp, d'⟩ w').2.1.trans HP.out.2.1) fun hgl => ?_;refine Ao (es' := [.row g7 88 [.pointer (some ⟨gB, 0, none⟩)], .row g2 24 [.int .i64 (r : Int), .int .i64 (n : Int), .slice ao nm cap], .row g4 24 [.int .i64 0, .int .i64 0, .slice none 0 0], .row gB 95 [.slice ro n rc, .bool dp.1, .slice dp.2.1 dp.2.2.1 dp.2.2.2], .rl ro (hG n gs), .Bd B hs E, .we w.heap.size D]) (fun w' h' => by
  have h2 : Fr _ w w' (.ly gB n ⟨ro, rc, gs, E, dp, d'⟩ :: [.row g7 88 [.pointer (some ⟨gB, 0, none⟩)], .row g2 24 [.int .i64 (r : Int), .int .i64 (n : Int), .slice ao nm cap], .row g4 24 [.int .i64 0, .int .i64 0, .slice none 0 0], .we w.heap.size D]) := h'.pick (by repeat (first | exact Pk.n | refine Pk.c (by repeat (first | exact Rm.z | apply Rm.s)) ?_));have h3 := h2.basR (L := B) (fun t ht => HEb.out t (by rw [<- HP.out.2.1]; exact ht));have h4 : Fr _ w w' (.row gB 95 [.slice ro E.length rc, .bool dp.1, .slice dp.2.1 dp.2.2.1 dp.2.2.2] :: .rl ro (hG n gs) :: .Bd B (gs.map fun g => (some ⟨g, 0, none⟩, n)) E :: [.row g7 88 [.pointer (some ⟨gB, 0, none⟩)], .row g2 24 [.int .i64 (r : Int), .int .i64 (n : Int), .slice ao nm cap], .row g4 24 [.int .i64 0, .int .i64 0, .slice none 0 0], .we w.heap.size D]) := h3;rw [show E.length = n from HP.out.2.1, hhs] at h4;exact h4.pick (by repeat (first | exact Pk.n | refine Pk.c (by repeat (first | exact Rm.z | apply Rm.s)) ?_))) ?_
 have HG := H5 (Cv hhs hgl);clear hhs hgl;refine rW [] ?_;refine bh ?_;refine dW ?_;refine aW fun g10 => ?_;refine sG ?_;refine eW ?_;refine aA ?_;refine bh ?_;refine dW ?_;refine aC ?_;refine lst0W ?_;refine lP (e := .ns [] []) (fun w' _ => bX.nil w') ?_;refine cF (X := LoX) (LoI n) (fun x => n - x.i) (fun x => [(48, .int .i64 (x.i : Int)), (47, .int .i64 (n : Int)), (46, .slice ro n rc), (10, .pointer (some ⟨g10, 0, none⟩)), (4, .pointer (some ⟨g4, 0, none⟩))])
  (fun x => [.row g10 24 [.int .i64 (n : Int), .int .i64 (n : Int), .slice x.ao x.k x.cap], .row g4 24 [.int .i64 0, .int .i64 0, .slice none 0 0], .jf x.ao x.k x.cap x.ps, .ns x.ps (ft E x.i), .rl ro (hG n gs), .Bd B hs E, .we w.heap.size D]) ⟨0, 0, none, 0, []⟩ ⟨Cx _, Fg _⟩ fun y hy => ?_
 obtain ⟨i, K, ao1, cap1, ps1⟩ := y;have hi : i <= n := hy.hi;have HK : Hid (i * n = K) := H5 hy.hk;clear hy;by_cases h : i < n
 . have h01 : (i : Int) < (n : Int) := by omega
   refine aA ?_;refine dB true ?_;refine eQ ?_;obtain ⟨bi, hbi⟩ := Cs (gs.getD i 0);have k1 := mz (c := n) [] (by rw [HG.out.2]; exact h) hbi;rw [DZ] at k1;refine rlW (ao := ro) (cs := hG n gs) (v := .slice (some ⟨bi, 0, none⟩) n n) i Cq k1 fun rb hrb => ?_;subst hrb;refine lrsW (L := B) (hs := hs) (R := E) i Cq (by rw [show E.length = n from HP.out.2.1]; exact h) ?_;rw [show (hs.getD i (none, 0)).1 = some ⟨bi, 0, none⟩ by rw [<- HG.out.1, <- hbi]; have := HG.out.2; simp [show i < gs.length by omega]];obtain ⟨row, hrow⟩ := Cs (E.getD i []);rw [hrow];have hrl : row.length = n := by rw [<- hrow]; exact HP.out.2.2.1 i h
   have HW := H5 (Cv hrow hrl);clear hrow hrl hbi k1;refine nM ?_;refine aA ?_;refine aT ?_;refine aC ?_;refine rW [] ?_;refine aT ?_;refine aC ?_;refine cF (X := LiX) (LiI n i row (ft E i)) (fun x => n - x.j) (fun x => [(54, .int .i64 (x.j : Int)), (53, .int .i64 (n : Int)), (52, .slice (some ⟨bi, 0, none⟩) n n), (48, .int .i64 (i : Int)), (47, .int .i64 (n : Int)), (46, .slice (some ⟨rb, 0, none⟩) n rc), (10, .pointer (some ⟨g10, 0, none⟩)), (4, .pointer (some ⟨g4, 0, none⟩))])
    (fun x => [.row g10 24 [.int .i64 (n : Int), .int .i64 (n : Int), .slice x.ao x.k x.cap], .row g4 24 [.int .i64 0, .int .i64 0, .slice none 0 0], .jf x.ao x.k x.cap x.ps, .ns x.ps x.zs, .ls B (some ⟨bi, 0, none⟩) row, .rl (some ⟨rb, 0, none⟩) (hG n gs), .Bd B hs E, .we w.heap.size D]) ⟨0, K, ao1, cap1, ps1, ft E i⟩ ⟨Cx _, HK.out, by simp⟩ fun y hy => ?_
   obtain ⟨j, K2, ao2, cap2, ps2, zs⟩ := y;have hj : j <= n := hy.hj;have HY := H5 (Cv (show i * n + j = K2 from hy.hk) (show zs = ft E i ++ row.take j from hy.hz));clear hy;by_cases h2 : j < n
   . have h02 : (j : Int) < (n : Int) := by omega
     have hKN : K2 <= 100000000 := by have h3 := HY.out.1; have h4 := cZ (r := n) (c := n) h h2; have := Da hn hn; omega
     refine aA ?_;refine dB true ?_;refine eQ ?_;refine lE (L := B) (xs := row) (b := bi) (o := 0) j Cq (by rw [HW.out.2]; exact h2) fun pv => ?_;rw [Db];refine nM ?_;refine aA ?_;refine aT ?_;refine aW fun g14 => ?_;refine sG ?_;refine eW ?_;refine aA ?_;refine aT ?_;refine dW ?_;refine cN (x := gi row j) (fun w' H => gz (av pv) (gi row j) w' ((H.all (.at B (av pv) (gi row j)) (by simp [av]) : ah ..).mono Cp)) fun q => ?_;refine je (e := .ns (ps2 ++ [q]) (zs ++ [gi row j])) (fun w' H => bX.snoc (H.all (.ns ps2 zs) Cq) (H.all (.own w.heap.size (av q) (gi row j)) (by simp [av]) : ai ..).num) ?_;refine bW (m := 1) fun g62 => ?_;refine Cb (g := g62) (t := 37) (c := 1) (ao := ao2) (k := K2) (cap := cap2) (ps := ps2) q hKN Cq fun z => ?_;refine dW ?_;refine sW ?_;refine eW ?_;refine aA ?_;refine dE (dL (a := j) Cp) ?_;refine aC ?_;exact cD (⟨j + 1, K2 + 1, z.1, z.2, ps2 ++ [q], zs ++ [gi row j]⟩ : LiX) ⟨⟨h2, by show i * n + (j + 1) = K2 + 1; have := HY.out.1; omega, by show zs ++ [gi row j] = ft E i ++ row.take (j + 1); rw [zj (by rw [HW.out.2]; exact h2), HY.out.2, EL]⟩, by show n - (j + 1) < n - j; omega⟩
   . obtain rfl : n = j := by omega
     have hzs : zs = ft E (i + 1) := by rw [HY.out.2, ft, HW.out.1, <- HW.out.2, List.take_length]
     have HZ := H5 hzs;clear hzs;refine aA ?_;refine fC ?_;refine aA ?_;refine dE (dL (a := i) Cp) ?_;refine aC ?_;exact cD (⟨i + 1, K2, ao2, cap2, ps2⟩ : LoX) ⟨⟨h, by show (i + 1) * n = K2; rw [Dz]; exact HY.out.1⟩, by show n - (i + 1) < n - i; omega⟩ (he := by
      intro w' h';rw [HZ.out] at h';exact h'.pick (by repeat (first | exact Pk.n | refine Pk.c (by repeat (first | exact Rm.z | apply Rm.s)) ?_)))
 . obtain rfl : n = i := by omega
   refine aA ?_;refine fC ?_;refine aA ?_;refine dW ?_;refine sW ?_;refine aC ?_;refine fin2M (D := D) (es' := [.row g4 24 [.int .i64 (n : Int), .int .i64 (n : Int), .slice ao1 K cap1], .jf ao1 K cap1 ps1, .ns ps1 (ft E n)]) (fun w' H => ?_) (.cons .row .row (.cons .jf .jf (.cons .ns (.no rfl) .nil))) Cq;have hK := HK.out;subst hK;have hE := Aq HP.out.2.1 HP.out.2.2.1;refine ⟨_, _, o0 H.m0, dT, ⟨((ao1, cap1), ft E n), rfl, mT H.m1 H.m2, ⟨me HP.out.2.2.1 n (Ct _), ?_, ?_⟩, fun b o e => (H.own (.jf ao1 (n * n) cap1 ps1) Cq rfl b ⟨o, e⟩).elim (fun h => h.elim) id⟩, H.below⟩
   . show Md n _ r A (au (ft E n) n n);rw [hE, HD.out.1, <- HX.out.dz]; exact HP.out.2.2.2.1
   . show ∀ t < n, ∀ k, (au (ft E n) n n t k).natAbs <= _;rw [hE];intro t ht k;have := HP.out.2.2.2.2 t ht k;rw [HX.out.dz, <- HD.out.1] at this; exact this
section
variable {ops : Array Oper} {Q : Exit -> Act -> World -> Prop} {ds : List Deferred} {S0 : Nat -> Prop} {w0 : World} {E0 : List En} {hd : List (List Nat)} {n j s : Nat} {l : List Nat} {G E : List En} {ls : List (Nat × Value)} {ty : TypeId} {pos : String} {af : Array Edge}
theorem mI {sl sc : Operand} (y : Nat) (hb : y <= 4096) (k : ∀ g, dY ds ⟨Tryz.prog, ops, Q, S0, w0, E0, hd⟩ n l (.row g 3 (iL (List.replicate y 0)) :: G) E ((s, .slice (some ⟨g, 0, none⟩) y y) :: ls))
 (ho : ops[j]? = some ⟨some s, .makeSlice 34 sl sc, ty, pos, af, none⟩ := by rfl) (hk : (ew ls (.makeSlice 34 sl sc) && Nat.blt s n) = true := by kernel_rfl)
 (h1 : dy ls sl = .int .i64 (y : Int) := by (simp only [cQ, Nat.reduceEqDiff, ↓reduceIte]) <;> rfl) (h2 : dy ls sc = .int .i64 (y : Int) := by (simp only [cQ, Nat.reduceEqDiff, ↓reduceIte]) <;> rfl) : dY ds ⟨Tryz.prog, ops, Q, S0, w0, E0, hd⟩ n (j :: l) G E ls := fun A hA => by
 simp only [CO] at hk;refine ⟨_, ho, .inr (.inl ⟨rfl, rfl, fun g => .slice (some ⟨g, 0, none⟩) y y, 3, iL (List.replicate y 0), ⟨rfl, fun w => ?_⟩, fun g => k g _ (hA.put (CR hk.2) _)⟩)⟩;rw [hA.exec (o := ⟨some s, .makeSlice 34 sl sc, ty, pos, af, none⟩) hk.1];obtain ⟨i, hi, hz, hs, hbt⟩ := info_parts tZ;have hr := run_make (P := Tryz.prog) w 34 3 i (.int .i64 0) Tryz.underlying34 hi hz .i64 .i64 y y Cp Cp (by rw [hbt]; omega) Cp;simp only [Ex] at hr;have e : madeCells (Value.int .i64 0).cells (y * i.size) = (iL (List.replicate y 0)).toArray := by
  have := fB (.int .i64 0) rfl y;rw [hs, show iL (List.replicate y 0) = List.replicate y (.int .i64 0) by simp [iL], <- this]
 simp [execOp, h1, h2, hr, Result.andThen, e]
end
structure UtX where
 k : Nat
 ns : List Nat
structure UtI (n : Nat) (x : UtX) : Prop where
 hk : x.k <= n
 hl : x.ns.length = n
 val : ∀ t < x.k, x.ns.getD t 0 = t
theorem Bu {ns : List Nat} {k x : Nat} : (iL ns).set k (.int .i64 (x : Int)) = iL (ns.set k x) := by unfold iL; rw [ET]
theorem vo (n : Nat) (w : World) (hn : n <= 64) : Calls Tryz.prog 36 #[.int .i64 (n : Int)] w fun e w' => ∃ g : Nat, e = .returned (.slice (some ⟨g, 0, none⟩) n n) /\ Nw w w' [.row g 3 (iL (List.range n))] := by
 refine bN (S0 := fun _ => False) Tryz.func36 (Fr.nil _ w) ?_;refine aA ?_;refine aC ?_;refine dO ?_;refine mI n Cp fun g => ?_;refine aC ?_;refine rW [] ?_;refine aT ?_;refine aC ?_;refine cF (X := UtX) (UtI n) (fun x => n - x.k) (fun x => [(9, .int .i64 (x.k : Int)), (8, .int .i64 (n : Int)), (3, .slice (some ⟨g, 0, none⟩) n n)])
  (fun x => [.row g 3 (iL x.ns)]) ⟨0, List.replicate n 0⟩ ⟨Cx _, by simp, fun t ht => absurd ht (Dv _)⟩ fun x hx => ?_
 obtain ⟨k, ns⟩ := x;have hk : k <= n := hx.hk;have HX : Hid (UtI n ⟨k, ns⟩) := H5 hx;clear hx;by_cases h : k < n
 . have h01 : (k : Int) < (n : Int) := by omega
   obtain ⟨x0, hx0⟩ := Cs (ns.getD k 0);have k1 := nP [] (by rw [show ns.length = n from HX.out.hl]; exact h) hx0;rw [DZ] at k1;clear hx0;refine aA ?_;refine kq ?_;refine aA ?_;refine dW ?_;refine aC ?_;refine rW [] ?_;refine bh ?_;refine sW (b := g) (k := k) (cs := iL ns) (us := [.int .i64 (k : Int)]) (hU := rfl) (hu := ⟨iX ns, by decide⟩) ?_;refine eW ?_;refine aA ?_;refine dE (dL (a := k) Cp) ?_;refine aC ?_;exact cD (⟨k + 1, ns.set k k⟩ : UtX) ⟨⟨h, by show (ns.set k k).length = n; rw [CL]; exact HX.out.hl, fun t ht => by
    show (ns.set k k).getD t 0 = t;rw [di (by rw [show ns.length = n from HX.out.hl]; exact h)];split
    . omega
    . exact HX.out.val t (by show t < k; have ht : t < k + 1 := ht; omega)⟩, by show n - (k + 1) < n - k; omega⟩ (he := by
    intro w' h';rw [Bu] at h';exact h'.pick (by repeat (first | exact Pk.n | refine Pk.c (by repeat (first | exact Rm.z | apply Rm.s)) ?_)))
 . obtain rfl : n = k := by omega
   have hE : ns = List.range n := Dx (by rw [show ns.length = n from HX.out.hl]; simp) fun t h1 h2 => by
    have := HX.out.val t (by show t < n; have := HX.out.hl; have h3 : ns.length = n := this; omega);rw [show ns.getD t 0 = ns[t] by simp [h1]] at this;rw [this]; simp
   have HE := H5 hE;clear hE;refine aA ?_;refine fC ?_;refine aA ?_;refine dW ?_;refine aC ?_;refine dZ fun w' H => ?_;exact ⟨_, dT, g, rfl, H.below, fun e he => by rcases List.mem_singleton.1 he with rfl; exact ⟨by rw [<- HE.out]; exact H.m0, fun b hb => (H.own _ (CC ..) rfl b hb).elim (fun h => h.elim) id⟩, CM ..⟩
theorem kU {m k mw : Nat} {xs : List Int} {c1 c2 : Nat -> Nat} (hk : k <= 64) (h : ∀ x ∈ xs, ag x.natAbs <= mw) : ag (cH m xs k c1 c2).natAbs <= 64 * (mw + 1) := by
 unfold cH;refine an (CT (tK (B := W ^ mw) k _ fun i j => ?_) (sT hk));have hb := gW (m := m) (K := k * k) (k := k) (rs := (List.range k).map c1) (cs := (List.range k).map c2) h;refine Dg (iS (DF (by unfold W; omega)) (fun x hx => ?_) i j);exact CK (bF _) (CU Cr (hb x hx))
def gR (n m : Nat) (xs : List Int) (k : Nat) (c1 c2 : Nat -> Nat) (zs : List Int) : Prop := fN m n (au (kY n m xs) m n) k c1 /\ fN n m (au xs n m) k c2 /\ rR k n (cH m xs k c1 c2) (au (aF k (cC m xs (List.range n) ((List.range k).map c2)) (n * k)) n k) zs
theorem pU (n m nm mw cap : Nat) (ao : Option Addr) (xs : List Int) (w : World) (hn : n <= 64) (hm : m <= 64) (hmw : mw <= 1048577) (hA : aQ w mw ao xs) (hs : xs.length = n * m) (hnm : xs.length = nm) (hrk : ∀ k1 c1 k2 c2, fN m n (au (kY n m xs) m n) k1 c1 -> fN n m (au xs n m) k2 c2 -> k1 = k2) (hcd : ∀ k c1 c2, fN m n (au (kY n m xs) m n) k c1 -> fN n m (au xs n m) k c2 -> cH m xs k c1 c2 ≠ 0) :
 Calls Tryz.prog 35 #[.agg #[.int .i64 (n : Int), .int .i64 (m : Int), .slice ao nm cap]] w fun e w' => ∃ p : (((Option Addr × Nat) × List Int) × (Option Addr × Nat) × (Option Addr × Nat)) × (Nat × (Nat -> Nat) × (Nat -> Nat)) × P4, e = .returned (.tuple #[.agg #[.int .i64 (p.2.1.1 : Int), .int .i64 (p.2.1.1 : Int), .slice p.1.1.1.1 (p.2.1.1 * p.2.1.1) p.1.1.1.2], .slice p.1.2.1.1 p.2.1.1 p.1.2.1.2, .slice p.1.2.2.1 p.2.1.1 p.1.2.2.2, av p.2.2, .int .i64 0]) /\ Nw w w' [.pr (gR n m xs p.2.1.1 p.2.1.2.1 p.2.1.2.2 p.1.1.2), .jn p.1.1.1.1 p.1.1.2, .lg 3 1 p.1.2.1.1 p.2.1.1 p.1.2.1.2 (iL ((List.range p.2.1.1).map p.2.1.2.1)), .lg 3 1 p.1.2.2.1 p.2.1.1 p.1.2.2.2 (iL ((List.range p.2.1.1).map p.2.1.2.2)), .own w.heap.size (av p.2.2) (cH m xs p.2.1.1 p.2.1.2.1 p.2.1.2.2)] := by
 have hwx : ∀ x ∈ xs, ag x.natAbs <= mw := fun x hx => an (iU hA x hx);have hC := fun w' (h : aQ w' mw ao xs) => Az n m nm mw cap ao xs w' hn hm hmw h hs hnm hrk;have hK := fun k1 c1 k2 c2 ro co (rs cs : List Nat) w' a1 a2 (a3 : aQ w' mw ao xs) a4 a5 a6 a7 a8 a9 => qd n m nm cap k1 c1 k2 c2 mw ao ro co rs cs xs w' a1 a2 a3 Cp a4 a5 hs hnm a6 a7 hn hm a8 a9;have HC := H5 (Cv hC (Cv hK (Cv hcd hwx)));obtain ⟨B, hB⟩ := Cs (64 * (mw + 1));have hBm : B <= 1000000000 := by omega
 have hmB : mw <= B := by omega
 have HB := H5 hB;clear hC hK hrk hcd hwx hs hnm hB;refine bN (S0 := fun _ => False) Tryz.func35 ((Fr.nil _ w).l hA Cq) ?_;clear hA;refine aA ?_;refine aW fun g1 => ?_;refine aW fun g2 => ?_;refine aT ?_;refine aW fun g5 => ?_;refine aC ?_;refine dO ?_;refine cG (α := ((Option Addr × Nat) × (Option Addr × Nat)) × (Nat × (Nat -> Nat) × (Nat -> Nat)) × P4) (mk := fun p => .tuple #[.slice p.1.1.1 p.2.1.1 p.1.1.2, .slice p.1.2.1 p.2.1.1 p.1.2.2, .agg #[.bool p.2.2.1, .slice p.2.2.2.1 p.2.2.2.2.1 p.2.2.2.2.2], .int .i64 0]) (ens := fun p => [.pr (fN m n (au (kY n m xs) m n) p.2.1.1 p.2.1.2.1 /\ fN n m (au xs n m) p.2.1.1 p.2.1.2.2), .lg 3 1 p.1.1.1 p.2.1.1 p.1.1.2 (iL ((List.range p.2.1.1).map p.2.1.2.1)), .lg 3 1 p.1.2.1 p.2.1.1 p.1.2.2 (iL ((List.range p.2.1.1).map p.2.1.2.2)), .own w.heap.size (av p.2.2) (cH m xs p.2.1.1 p.2.1.2.1 p.2.1.2.2)]) (hne := ⟨(((none, 0), (none, 0)), (0, fun _ => 0, fun _ => 0), p0)⟩) (fun w' H => (HC.out.1 w' (H.all (.ls mw ao xs) Cq)).mono fun e w'' ⟨p, he, hb, hx, hp⟩ => ⟨p, he, hb, fun e he => by
  simp only [Di, CX, or_false] at he;rcases he with rfl | rfl | rfl | rfl
  . exact hx _ Cq
  . exact hx _ Cq
  . exact hx _ Cq
  . exact ⟨ai.mono (hx (.own w'.heap.size (av p.2.2) (cH m xs p.2.1.1 p.2.1.2.1 p.2.1.2.2)) (by simp [av])).1 H.size, fun _ h => h.elim⟩, by
  refine .cons (fun x _ => ⟨(fun q => nomatch q), fun _ _ _ h => h⟩) ?_;have h2 := (List.pairwise_cons.1 hp).2;refine .cons (fun x hx => ?_) (.cons (fun x hx => ?_) (CM ..))
  . rcases List.mem_cons.1 hx with rfl | hx
    . exact (List.pairwise_cons.1 h2).1 _ Cq
    . rcases List.mem_singleton.1 hx with rfl;exact ⟨fun _ _ _ h => h, fun q => nomatch q⟩
  . rcases List.mem_singleton.1 hx with rfl;exact ⟨fun _ _ _ h => h, fun q => nomatch q⟩⟩) fun q1 => ?_
 refine bh ?_;refine aT ?_;refine dW ?_;refine sW ?_;refine aC ?_;refine dO ?_;refine dB false ?_;refine eQ ?_;obtain ⟨⟨⟨ro, rc⟩, ⟨co, cc⟩⟩, ⟨k, c1, c2⟩, pd⟩ := q1;refine r6 (A := fN m n (au (kY n m xs) m n) k c1 /\ fN n m (au xs n m) k c2) Cq fun hp => ?_;have hl1 := fN.lt hp.1;have hl2 := fN.lt hp.2;have hk64 : k <= 64 := by omega
 have HP := H5 (Cv hp (Cv hl2.2 (HC.out.2.2.1 k c1 c2 hp.1 hp.2)));clear hp hl1 hl2;refine kf ?_;refine aA ?_;refine aT ?_;refine dW ?_;refine cG (α := Nat) (mk := fun g => .slice (some ⟨g, 0, none⟩) n n) (ens := fun g => [.row g 3 (iL (List.range n))]) (fun w' H => vo n w' hn) fun gu => ?_;refine dW ?_;refine mU (α := Option Addr × Nat) (mk := fun p => .tuple #[.agg #[.int .i64 (n : Int), .int .i64 (k : Int), .slice p.1 (n * k) p.2], .int .i64 0]) (ao := fun p => p.1) (xs := fun _ => aF k (cC m xs (List.range n) ((List.range k).map c2)) (n * k)) (A := fun _ => True) (fun w' H => HC.out.2.1 n n k cc (some ⟨gu, 0, none⟩) co (List.range n) ((List.range k).map c2) w' (fun _ => by have h1 : aa w' gu 3 (iL (List.range n)) := H.all (.row gu 3 (iL (List.range n))) Cq; exact ⟨gu, rfl, h1.lt, fun i v hv => by rw [h1.cell]; exact hv⟩) (mL.rl (H.all (.lg 3 1 co k cc (iL ((List.range k).map c2))) Cq)) (H.all (.ls mw ao xs) Cq) Cq Cq (fun i hi => by simpa [hi] using hi) HP.out.2.1 hn hk64) fun t => ?_;refine aT ?_;refine dW ?_;refine aW fun g7 => ?_;refine sG ?_;refine aC ?_;refine rW [] ?_;refine aT ?_;refine mU (α := (Option Addr × Nat) × List Int) (mk := fun p => .tuple #[.agg #[.int .i64 (k : Int), .int .i64 (k : Int), .slice p.1.1 (k * k) p.1.2], .int .i64 0]) (ao := fun p => p.1.1) (xs := fun p => p.2) (A := fun p => rR k n (cH m xs k c1 c2) (au (aF k (cC m xs (List.range n) ((List.range k).map c2)) (n * k)) n k) p.2) (hne := ⟨((none, 0), [])⟩) (fun w' H => vJ n k (n * k) B t.2 t.1 _ (cH m xs k c1 c2) pd w' hn hk64 hBm (fq.iR (H.all (.jn t.1 (aF k (cC m xs (List.range n) ((List.range k).map c2)) (n * k))) Cq) (fun x hx => Cw (gW HC.out.2.2.2 x hx) hmB)) (aD ..) (aD ..) HP.out.2.2 (ai.int (H.all (.own w.heap.size (av pd) (cH m xs k c1 c2)) (by simp [av])) (by rw [<- HB.out]; exact kU hk64 HC.out.2.2.2))) fun z => ?_;refine aT ?_;refine dW ?_;refine sW ?_;refine aC ?_;refine er (es' := [.row g2 24 [.int .i64 (k : Int), .int .i64 (k : Int), .slice z.1.1 (k * k) z.1.2], .row g5 37 [.bool pd.1, .slice pd.2.1 pd.2.2.1 pd.2.2.2], .jn z.1.1 z.2, .pr (rR k n (cH m xs k c1 c2) (au (aF k (cC m xs (List.range n) ((List.range k).map c2)) (n * k)) n k) z.2 /\ ∀ b o, z.1.1 = some ⟨b, o, none⟩ -> w.heap.size <= b), .lg 3 1 ro k rc (iL ((List.range k).map c1)), .lg 3 1 co k cc (iL ((List.range k).map c2)), .own w.heap.size (av pd) (cH m xs k c1 c2)]) ?_;refine rW [[], [], [], [0]] ?_;(iterate 5 refine dH ?_);refine sW ?_;refine dH ?_;refine dH ?_;refine sW ?_;refine dH ?_;refine eQ ?_;refine fin5 (fun w' H => ?_);have hA : rR k n (cH m xs k c1 c2) (au (aF k (cC m xs (List.range n) ((List.range k).map c2)) (n * k)) n k) z.2 /\ ∀ b o, z.1.1 = some ⟨b, o, none⟩ -> w.heap.size <= b := H.all (.pr (rR k n (cH m xs k c1 c2) (au (aF k (cC m xs (List.range n) ((List.range k).map c2)) (n * k)) n k) z.2 /\ ∀ b o, z.1.1 = some ⟨b, o, none⟩ -> w.heap.size <= b)) Cq;have H2 : Fr _ w w' [.jn z.1.1 z.2, .lg 3 1 ro k rc (iL ((List.range k).map c1)), .lg 3 1 co k cc (iL ((List.range k).map c2)), .own w.heap.size (av pd) (cH m xs k c1 c2)] := H.pick (by repeat (first | exact Pk.n | refine Pk.c (by repeat (first | exact Rm.z | apply Rm.s)) ?_));have H3 := H2.pure (e := .pr (gR n m xs k c1 c2 z.2)) ⟨HP.out.1.1, HP.out.1.2, hA.1⟩ (fun _ h => h);refine ⟨_, _, _, _, _, o0 (H.all (.row g2 24 [.int .i64 (k : Int), .int .i64 (k : Int), .slice z.1.1 (k * k) z.1.2]) Cq), dT, dT, jh (H.all (.row g5 37 [.bool pd.1, .slice pd.2.1 pd.2.2.1 pd.2.2.2]) Cq), dT, ((z, (ro, rc), (co, cc)), (k, c1, c2), pd), rfl, H.below, fun e he => ⟨H3.all e he, fun b hb => ?_⟩, H3.sep⟩;have he' := he;simp only [Di, CX, or_false] at he';rcases he' with rfl | rfl | rfl | rfl | rfl
 . exact hb.elim
 . obtain ⟨_, o, e⟩ := hb; exact hA.2 b o e
 . exact (H3.own _ he rfl b hb).elim (fun h => h.elim) id
 . exact (H3.own _ he rfl b hb).elim (fun h => h.elim) id
 . exact hb.elim
def xZ (E : Mx) : Nat -> Int
 | 0 => 1
 | t + 1 => xZ E t * E t t
theorem rR.wl {n r B : Nat} {d : Int} {A : Mx} {zs : List Int} (h : rR n r d A zs) (hB : ag d.natAbs <= B) : ∀ x ∈ zs, ag x.natAbs <= B := fun x hx => by
 obtain ⟨i, hi, rfl⟩ := Dh hx;rw [h.1] at hi;have hn : 0 < n := by
  rcases Dn n with e | e
  . subst e; omega
  . exact e
 have h1 : i / n < n := EO hi;have h2 := Dm i hn;have h3 := h.2.2 (i / n) h1 (i % n);rw [bE h1 h2] at h3;have e : i / n * n + i % n = i := by rw [CE]; exact Ds i n
 rw [e] at h3;refine Cw (aJ ?_) hB;rw [show zs.getD i 0 = zs[i] by simp [show i < zs.length by rw [h.1]; exact hi]] at h3;exact h3
theorem yg {E : Mx} {B : Nat} (h : ∀ t, ag (E t t).natAbs <= B) : ∀ k, ag (xZ E k).natAbs <= k * B + 1
 | 0 => by show ag (1 : Int).natAbs <= _; exact Cw (an (k := 1) (by unfold W; decide)) Cp
 | k + 1 => by
  have h1 := yg h k;have h2 := h k;show ag (xZ E k * E k k).natAbs <= _;rw [CP];have := cT (xZ E k).natAbs (E k k).natAbs;have : (k + 1) * B = k * B + B := Dz k B;omega
theorem Ax (n m nm mw cap : Nat) (ao : Option Addr) (xs : List Int) (w : World) (hn : n <= 64) (hm : m <= 64) (hmw : mw <= 1048577) (hA : aQ w mw ao xs) (hs : xs.length = n * m) (hnm : xs.length = nm) (hrk : ∀ k1 c1 k2 c2, fN m n (au (kY n m xs) m n) k1 c1 -> fN n m (au xs n m) k2 c2 -> k1 = k2) (hcd : ∀ k c1 c2, fN m n (au (kY n m xs) m n) k c1 -> fN n m (au xs n m) k c2 -> cH m xs k c1 c2 ≠ 0) :
 Calls Tryz.prog 13 #[.agg #[.int .i64 (n : Int), .int .i64 (m : Int), .slice ao nm cap]] w fun e w' => (∃ k c1 c2 zs v, gR n m xs k c1 c2 zs /\ e = .returned (.tuple #[v, .int .i64 0]) /\ ai w' w.heap.size v (xZ (au zs k k) k)) /\ Below w.heap.size w w' := by
 have hwx : ∀ x ∈ xs, ag x.natAbs <= mw := fun x hx => an (iU hA x hx);have hN := fun w' (h : aQ w' mw ao xs) => pU n m nm mw cap ao xs w' hn hm hmw h hs hnm hrk hcd;have HC := H5 (Cv hN hwx);obtain ⟨B, hB⟩ := Cs (64 * (mw + 1));have hBm : B <= 1000000000 := by omega
 have HB := H5 hB;clear hN hrk hcd hwx hs hnm hB;refine bN (S0 := fun _ => False) Tryz.func13 ((Fr.nil _ w).l hA Cq) ?_;clear hA;refine aA ?_;refine aW fun g1 => ?_;refine aW fun g2 => ?_;refine aC ?_;refine dO ?_;refine cG (α := (((Option Addr × Nat) × List Int) × (Option Addr × Nat) × (Option Addr × Nat)) × (Nat × (Nat -> Nat) × (Nat -> Nat)) × P4) (mk := fun p => .tuple #[.agg #[.int .i64 (p.2.1.1 : Int), .int .i64 (p.2.1.1 : Int), .slice p.1.1.1.1 (p.2.1.1 * p.2.1.1) p.1.1.1.2], .slice p.1.2.1.1 p.2.1.1 p.1.2.1.2, .slice p.1.2.2.1 p.2.1.1 p.1.2.2.2, .agg #[.bool p.2.2.1, .slice p.2.2.2.1 p.2.2.2.2.1 p.2.2.2.2.2], .int .i64 0]) (ens := fun p => [.pr (gR n m xs p.2.1.1 p.2.1.2.1 p.2.1.2.2 p.1.1.2), .jn p.1.1.1.1 p.1.1.2]) (hne := ⟨(((((none, 0), []), (none, 0), (none, 0))), (0, fun _ => 0, fun _ => 0), p0)⟩) (fun w' H => (HC.out.1 w' (H.all (.ls mw ao xs) Cq)).mono fun e w'' ⟨p, he, hb, hx, hp⟩ => ⟨p, he, hb, fun e he => by
  simp only [Di, CX, or_false] at he;rcases he with rfl | rfl
  . exact hx _ Cq
  . exact hx _ Cq, .cons (fun x _ => ⟨(fun q => nomatch q), fun _ _ _ h => h⟩) (CM ..)⟩) fun q1 => ?_
 refine bh ?_;refine aT ?_;refine aW fun g4 => ?_;refine aW fun g7 => ?_;refine sG ?_;refine aT ?_;refine sG ?_;refine aC ?_;obtain ⟨⟨⟨⟨zo, zc⟩, zs⟩, ⟨ro, rc⟩, ⟨co, cc⟩⟩, ⟨k, c1, c2⟩, pd⟩ := q1;refine r6 (A := gR n m xs k c1 c2 zs) Cq fun hp => ?_;have hk64 : k <= 64 := by have := (fN.lt hp.2.1).1; omega
 have hzl : zs.length = k * k := hp.2.2.1;have hzw := hp.2.2.wl (B := B) (by rw [<- HB.out]; exact kU hk64 HC.out.2);have HP := H5 (Cv hp (Cv hzl hzw));clear hp hzl hzw;refine er (es' := [.jn zo zs, .row g4 24 [.int .i64 (k : Int), .int .i64 (k : Int), .slice zo (k * k) zc], .row g2 37 [.bool false, .slice none 0 0]]) ?_;refine Ao (es' := [.ls B zo zs, .row g4 24 [.int .i64 (k : Int), .int .i64 (k : Int), .slice zo (k * k) zc], .row g2 37 [.bool false, .slice none 0 0]]) (fun w' h' => h'.conv (fun h => fq.iR h HP.out.2.2) (fun b h => h) (fun q => nomatch q)) ?_;refine dO ?_;refine fC ?_;refine aA ?_;refine cN (fun w' H => js 1 w' Cp Cp) fun p1 => ?_;refine aW fun g9 => ?_;refine sG ?_;refine eW ?_;refine aA ?_;refine aT ?_;refine aC ?_;obtain ⟨K, hK⟩ := Cs (k * k);rw [hK];have HK := H5 hK;clear hK;refine cF (X := Nat × P4) (fun x => x.1 <= k) (fun x => k - x.1) (fun x => [(26, .int .i64 (x.1 : Int)), (25, .int .i64 (k : Int)), (9, .pointer (some ⟨g9, 0, none⟩)), (4, .pointer (some ⟨g4, 0, none⟩)), (2, .pointer (some ⟨g2, 0, none⟩))])
  (fun x => [.row g9 37 [.bool x.2.1, .slice x.2.2.1 x.2.2.2.1 x.2.2.2.2], .row g4 24 [.int .i64 (k : Int), .int .i64 (k : Int), .slice zo K zc], .row g2 37 [.bool false, .slice none 0 0], .own w.heap.size (av x.2) (xZ (au zs k k) x.1), .ls B zo zs]) (0, p1) (Cx _) fun x hx => ?_
 obtain ⟨i, p⟩ := x
 replace hx : i <= k := hx
 by_cases h : i < k
 . have h01 : (i : Int) < (k : Int) := by omega
   have hlt := cZ h h;have hb1 : i * k <= 4096 := Da (show i <= 64 by omega) hk64;obtain ⟨t, ht⟩ := Cs (i * k + i);have htK : t < K := by rw [<- HK.out, <- ht]; exact hlt
   have htl : t < zs.length := by rw [HP.out.2.1, HK.out]; exact htK
   have h03 : (t : Int) < (K : Int) := by omega
   have HT := H5 ht;clear ht hlt;refine aA ?_;refine dB true ?_;refine eQ ?_;refine pD (L := B) (ao := zo) (xs := zs) Cq Cp fun bx ox e => ?_;subst e;refine lE (L := B) (xs := zs) (b := bx) (o := ox) t Cq htl fun pv => ?_;refine nM ?_;refine aA ?_;refine dW ?_;refine aC ?_;refine rW [] ?_;refine bh ?_;refine aT ?_;refine dE (oI (a := i) (b := k) Cp) ?_;refine dW ?_;refine dE ((sO (a := i * k) (b := i) Cp).trans (by rw [HT.out])) ?_;refine aT ?_;refine cN (x := xZ (au zs k k) (i + 1)) (fun w' H => by
    have hE : ∀ t, ag (au zs k k t t).natAbs <= B := fun t => by
     by_cases q : t < k
     . rw [bE q q];have h4 : t * k + t < zs.length := by rw [HP.out.2.1]; exact cZ q q
       exact HP.out.2.2 _ (dP h4)
     . unfold au; rw [if_neg Cp]; simp [bb]
    have h5 : gi zs t = au zs k k i i := by rw [bE h h, HT.out]; rfl
    have h6 := yg hE i;have h7 : i * B <= 64 * B := Cy _ Cp;have := ib (av p) (av pv) (xZ (au zs k k) i) (gi zs t) (64 * B + 1) B w' (ai.int (H.all (.own w.heap.size (av p) (xZ (au zs k k) i)) (by simp [av])) Cp) (H.all (.at B (av pv) (gi zs t)) (by simp [av])) Cp;rw [h5] at this; exact this) fun p2 => ?_
   refine sW ?_;refine eW ?_;refine aA ?_;refine dE (dL (a := i) Cp) ?_;refine aC ?_;exact cD (i + 1, p2) ⟨h, by show k - (i + 1) < k - i; omega⟩
 . obtain rfl : k = i := by omega
   refine aA ?_;refine fC ?_;refine aA ?_;refine dW ?_;refine sW ?_;refine aC ?_;refine fk fun w' H => ?_;exact ⟨_, _, jh (H.all (.row g2 37 [.bool p.1, .slice p.2.1 p.2.2.1 p.2.2.2]) Cq), dT, ⟨k, c1, c2, zs, _, HP.out.1, rfl, H.all (.own w.heap.size (av p) (xZ (au zs k k) k)) (by simp [av])⟩, H.below⟩
end Go.Proofs.YtjjlmfmoihooiaaGreat
namespace Go.Proofs.YtjjlmfmoihooiaaGreat
theorem lX {r c : Nat} (f : Nat -> Nat -> Int) (i j : Nat) : au (aF c f (r * c)) r c i j = if i < r /\ j < c then f i j else 0 := by
 by_cases h : i < r /\ j < c
 . rw [bE h.1 h.2, if_pos h]; exact gm f h.1 h.2
 . rw [if_neg h, au, if_neg h]
theorem tw {r c : Nat} (xs : List Int) : au (kY r c xs) c r = tp (au xs r c) := by
 funext i j;show au (kY r c xs) c r i j = au xs r c j i;unfold kY;rw [lX];by_cases h : i < c /\ j < r
 . rw [if_pos h, bE h.2 h.1]; rfl
 . rw [if_neg h]; unfold au; rw [if_neg fun q => h ⟨q.2, q.1⟩]
theorem fN.rank {n m : Nat} {xs : List Int} {k1 k2 : Nat} {c1 c2 : Nat -> Nat} (h1 : fN m n (au (kY n m xs) m n) k1 c1) (h2 : fN n m (au xs n m) k2 c2) : k1 = k2 := by
 rw [tw] at h1;obtain ⟨_, _, _, h1⟩ := h1;obtain ⟨_, _, _, h2⟩ := h2;exact (h2.turn h1 (fun i j hj => gI i hj) fun i j hi => jy hi j).symm
theorem fN.vV {n m k : Nat} {A : Mx} {cs : Nat -> Nat} (h : fN n m A k cs) : ∀ t < k, cs t < m := by
 obtain ⟨nu, R, d, h⟩ := h;exact h.csl
theorem j4 {k t : Nat} {c : Nat -> Nat} (h : t < k) : ((List.range k).map c).getD t 0 = c t := by simp [h]
theorem uP {n m k : Nat} {xs : List Int} {c1 c2 : Nat -> Nat} (h1 : ∀ t < k, c1 t < n) (h2 : ∀ t < k, c2 t < m) : cH m xs k c1 c2 = aS k fun a b => au xs n m (c1 a) (c2 b) := by
 unfold cH;refine aP k fun a ha b hb => ?_;rw [lX, if_pos ⟨ha, hb⟩];unfold cC;rw [j4 ha, j4 hb, bE (h1 a ha) (h2 b hb)];rfl
theorem fN.core {n m : Nat} {xs : List Int} {k : Nat} {c1 c2 : Nat -> Nat} (h1 : fN m n (au (kY n m xs) m n) k c1) (h2 : fN n m (au xs n m) k c2) : cH m xs k c1 c2 ≠ 0 := by
 rw [uP (n := n) h1.vV h2.vV];rw [tw] at h1;obtain ⟨_, _, _, h1⟩ := h1;obtain ⟨_, _, _, h2⟩ := h2;exact h2.core h1 (fun i j hj => gI i hj) fun i j hi => jy hi j
theorem fN.leads {n m k K : Nat} {xs hs : List Int} {cs l : Nat -> Nat} (hp : fN n m (au xs n m) k cs) (hH : eo K m (au hs K m) l) (hsp : bc n (au xs n m) K (au hs K m)) : k = K /\ ∀ t < k, cs t = l t := by
 obtain ⟨_, _, _, h⟩ := hp;exact h.leads (fun i j hj => gI i hj) hH.toEch hsp.symm
theorem BA {k : Nat} (C : Mx) {i : Nat} (hi : i < k) : Sp k (fun a b => if b < k then C a b else 0) (eD (aS k C) i) := by
 obtain ⟨A, hA⟩ : ∃ A : Mx, A = fun a b => if a < k then C a b else if b = i then 1 else 0 := ⟨_, rfl⟩;obtain ⟨y, hy⟩ := j3 k A (fun t => t) (fun t => t) k;have e0 : dn k A (fun t => t) (fun t => t) = aS k C := aP k fun a ha b _ => by rw [hA]; exact if_pos ha
 refine ⟨fun t => - y t, fun b => ?_⟩;have hn : ∀ f : Nat -> Int, (sm k fun t => - y t * f t) = - sm k fun t => y t * f t := fun f => by
  have := bQ k (-1) fun t => y t * f t;rw [show (-1 : Int) * (sm k fun t => y t * f t) = - sm k fun t => y t * f t by omega] at this;rw [<- this];exact ak fun t _ => by rw [Du]; omega
 show eD (aS k C) i b = sm k fun t => - y t * (if b < k then C t b else 0);rw [hn fun t => if b < k then C t b else 0];by_cases hb : b < k
 . have h1 := hy b;rw [mW (A := A) (nu := fun t => t) (cs := fun t => t) hb k, e0] at h1;have e1 : A k b = if b = i then 1 else 0 := by rw [hA]; exact if_neg (DA k)
   have e2 : (sm k fun t => y t * A t b) = sm k fun t => y t * (if b < k then C t b else 0) := ak fun t ht => by
    rw [if_pos hb, show A t b = C t b by rw [hA]; exact if_pos ht]
   rw [e1, e2] at h1;unfold eD;by_cases q : b = i
   . rw [if_pos q, Eg] at h1;rw [if_pos q]; omega
   . rw [if_neg q, CS] at h1;rw [if_neg q]; omega
 . unfold eD;rw [if_neg Cp, bR fun t _ => by rw [if_neg hb, CS]];rfl
def r7 (k : Nat) (c : Nat -> Nat) (A : Mx) : Mx := fun a b => if b < k then A a (c b) else 0
theorem Sp.r7 {n k : Nat} {c : Nat -> Nat} {A : Mx} {v : Nat -> Int} (h : Sp n A v) : Sp n (Go.Proofs.YtjjlmfmoihooiaaGreat.r7 k c A) fun b => if b < k then v (c b) else 0 := by
 obtain ⟨y, hy⟩ := h;refine ⟨y, fun b => ?_⟩;unfold Go.Proofs.YtjjlmfmoihooiaaGreat.r7;show (if b < k then v (c b) else 0) = Go.Proofs.YtjjlmfmoihooiaaGreat.sm n fun t => y t * (if b < k then A t (c b) else 0);by_cases hb : b < k
 . rw [if_pos hb, hy]; exact ak fun t _ => by rw [if_pos hb]
 . rw [if_neg hb, bR fun t _ => by rw [if_neg hb, CS]]
theorem yx {n m k : Nat} {xs : List Int} {rs : List Nat} {c2 : Nat -> Nat} {r : Nat} (h1 : ∀ t < r, rs.getD t 0 < n) (h2 : ∀ t < k, c2 t < m) {i : Nat} (hi : i < r) (b : Nat) : au (aF k (cC m xs rs ((List.range k).map c2)) (r * k)) r k i b = Go.Proofs.YtjjlmfmoihooiaaGreat.r7 k c2 (au xs n m) (rs.getD i 0) b := by
 rw [lX];unfold Go.Proofs.YtjjlmfmoihooiaaGreat.r7;by_cases hb : b < k
 . rw [if_pos ⟨hi, hb⟩, if_pos hb];unfold cC;rw [j4 hb, bE (h1 i hi) (h2 b hb)]; rfl
 . rw [if_neg fun q => hb q.2, if_neg hb]
section
variable {n m k : Nat} {xs zs : List Int} {c1 c2 : Nat -> Nat}
theorem gR.rowsP (h : gR n m xs k c1 c2 zs) {i : Nat} (hi : i < n) : Sp k (au zs k k) (r7 k c2 (au xs n m) i) := by
 have h1 := (h.2.2.2.1.sp _).2 (LD.row hi);exact h1.congr fun b => by
  rw [yx (n := n) (r := n) (fun t ht => by rw [show (List.range n).getD t 0 = t by simp [ht]]; exact ht) h.2.1.vV hi b, show (List.range n).getD i 0 = i by simp [hi]]
end
end Go.Proofs.YtjjlmfmoihooiaaGreat
namespace Go.Proofs.YtjjlmfmoihooiaaGreat
open Go.RowKit
theorem Fr.roB {S0 : Nat -> Prop} {w0 w : World} {es : List En} (h : Fr S0 w0 w es) {e : En} (he : e.F w) (hwr : e.wr = false) (hS : ∀ e ∈ es, e.wr = false) : Fr S0 w0 w (e :: es) :=
 h.cons he (fun e' he' => ⟨(fun q => by rw [hwr] at q; cases q), fun q => by rw [hS e' he'] at q; cases q⟩) (fun q => by rw [hwr] at q; cases q)
structure um (w : World) (g : Nat) (a b : Value × Value × Value) : Prop where
 h0 : w.cell? ⟨g, 0, none⟩ = some a.1
 h1 : w.cell? ⟨g, 1, none⟩ = some a.2.1
 h2 : w.cell? ⟨g, 2, none⟩ = some a.2.2
 h3 : w.cell? ⟨g, 3, none⟩ = some b.1
 h4 : w.cell? ⟨g, 4, none⟩ = some b.2.1
 h5 : w.cell? ⟨g, 5, none⟩ = some b.2.2
theorem um.fr {w : World} {g : Nat} {a b : Value × Value × Value} (h : um w g a b) : Fr (fun _ => False) w w [.cell ⟨g, 0, none⟩ a.1, .cell ⟨g, 1, none⟩ a.2.1, .cell ⟨g, 2, none⟩ a.2.2, .cell ⟨g, 3, none⟩ b.1, .cell ⟨g, 4, none⟩ b.2.1, .cell ⟨g, 5, none⟩ b.2.2] := by
 refine Fr.roB (Fr.roB (Fr.roB (Fr.roB (Fr.roB (Fr.roB (Fr.nil _ w) (e := .cell ⟨g, 5, none⟩ b.2.2) h.h5 rfl ?_) (e := .cell ⟨g, 4, none⟩ b.2.1) h.h4 rfl ?_) (e := .cell ⟨g, 3, none⟩ b.1) h.h3 rfl ?_) (e := .cell ⟨g, 2, none⟩ a.2.2) h.h2 rfl ?_) (e := .cell ⟨g, 1, none⟩ a.2.1) h.h1 rfl ?_) (e := .cell ⟨g, 0, none⟩ a.1) h.h0 rfl ?_ <;> simp [En.wr]
theorem oS (g r c s d n k : Nat) (ao bo : Option Addr) (ca cb : Nat) (w : World) (hr : r <= 64) (hc : c <= 64) (hs : s <= 64) (hd : d <= 64) (hn : n = r * c) (hk : k = s * d) (h : um w g (.int .i64 (r : Int), .int .i64 (c : Int), .slice ao n ca) (.int .i64 (s : Int), .int .i64 (d : Int), .slice bo k cb)) :
 Calls Tryz.prog 73 #[.slice (some ⟨g, 0, none⟩) 2 2] w fun e w' => e = .returned (.int .i64 0) /\ Below w.heap.size w w' := by
 have hS : ∀ r c : Nat, r <= 64 -> c <= 64 -> ba (r : Int) (c : Int) (r * c) = true := fun r c hr hc => by
  have h3 : decide ((r : Int) <= 64) = true := by simp; omega
  have h4 : decide ((c : Int) <= 64) = true := by simp; omega
  simp [ba, bL, h3, h4]
 have c1 := fun w' => cW (r : Int) (c : Int) ao n ca w' Cp Cp;have c2 := fun w' => cW (s : Int) (d : Int) bo k cb w' Cp Cp;rw [dv (by rw [hn]; exact hS r c hr hc)] at c1;rw [dv (by rw [hk]; exact hS s d hs hd)] at c2;have HC := H5 (Cv c1 c2);clear c1 c2 hS hn hk;refine bN (S0 := fun _ => False) Tryz.func73 h.fr ?_;clear h;refine aA ?_;refine aC ?_;refine rW [] ?_;refine aT ?_;refine aC ?_;refine cF (X := Nat) (fun i => i <= 2) (fun i => 2 - i) (fun i => [(7, .int .i64 (i : Int)), (6, .int .i64 2), (5, .slice (some ⟨g, 0, none⟩) 2 2)]) (fun _ => [.cell ⟨g, 0, none⟩ (.int .i64 (r : Int)), .cell ⟨g, 1, none⟩ (.int .i64 (c : Int)), .cell ⟨g, 2, none⟩ (.slice ao n ca), .cell ⟨g, 3, none⟩ (.int .i64 (s : Int)), .cell ⟨g, 4, none⟩ (.int .i64 (d : Int)), .cell ⟨g, 5, none⟩ (.slice bo k cb)]) 0 (Cx _) fun i hi => ?_;by_cases h0 : i = 0
 . subst h0;refine aA ?_;refine kq ?_;refine aA ?_;refine aT ?_;refine aW fun g4 => ?_;refine sG ?_;refine eW ?_;refine aA ?_;refine dW ?_;refine cV (v := .int .i64 0) (fun w' H => HC.out.1 w') ?_;refine fC ?_;refine aA ?_;refine dE (dL (a := 0) Cp) ?_;refine aC ?_;exact cD (1 : Nat) ⟨by omega, by omega⟩
 . by_cases h1 : i = 1
   . subst h1;refine aA ?_;refine kq ?_;refine aA ?_;refine aT ?_;refine aW fun g4 => ?_;refine sG ?_;refine eW ?_;refine aA ?_;refine dW ?_;refine cV (v := .int .i64 0) (fun w' H => HC.out.2 w') ?_;refine fC ?_;refine aA ?_;refine dE (dL (a := 1) Cp) ?_;refine aC ?_;exact cD (2 : Nat) ⟨by omega, by omega⟩
   . obtain rfl : i = 2 := by omega
     refine aA ?_;refine fC ?_;refine aA ?_;refine aC ?_;refine dZ fun w' H => ?_;exact ⟨_, dT, rfl, H.below⟩
theorem um.of {w : World} {g : Nat} {t : TypeId} {a b c d e f : Value} (h : aa w g t [a, b, c, d, e, f]) : um w g (a, b, c) (d, e, f) := ⟨h.cell 0, h.cell 1, h.cell 2, h.cell 3, h.cell 4, h.cell 5⟩
def bM (m d : Nat) (xs ys : List Int) (i j : Nat) : Int := sm m fun k => gi xs (i * m + k) * gi ys (k * d + j)
theorem nz {B k : Nat} {f : Nat -> Int} (h : ∀ t < k, ag (f t).natAbs <= B) (hk : k <= 64) : ag (sm k f).natAbs <= B + 1 := by
 refine an ?_;have h1 := na (n := k) (f := f) (B := W ^ B) fun t ht => Dg (CK (bF _) (CU Cr (h t ht)));have h2 : k * W ^ B <= 64 * W ^ B := Cy _ hk;have h3 : W ^ (B + 1) = W ^ B * W := Dd ..;have h4 : 0 < W ^ B := DF (by unfold W; omega);have h5 : 64 * W ^ B < W ^ B * W := by rw [CE]; exact DU (by unfold W; omega) h4
 omega
theorem qF {a b : Int} {A B : Nat} (h1 : ag a.natAbs <= A) (h2 : ag b.natAbs <= B) : ag (a * b).natAbs <= A + B := by
 rw [CP]; have := cT a.natAbs b.natAbs; omega
theorem zk (i j ga gb r m d nm kd ca cb L M : Nat) (ao bo : Option Addr) (xs ys : List Int) (w : World) (h1 : w.cell? ⟨ga, 1, none⟩ = some (.int .i64 (m : Int))) (h2 : w.cell? ⟨ga, 2, none⟩ = some (.slice ao nm ca)) (h3 : w.cell? ⟨gb, 1, none⟩ = some (.int .i64 (d : Int))) (h4 : w.cell? ⟨gb, 2, none⟩ = some (.slice bo kd cb))
 (hA : aQ w L ao xs) (hB : aQ w M bo ys) (hL : L + M <= 17592186044000) (hs : xs.length = r * m) (hnm : xs.length = nm) (ht : ys.length = m * d) (hkd : ys.length = kd) (hi : i < r) (hj : j < d) (hr : r <= 64) (hm : m <= 64) (hd : d <= 64) (hxw : ∀ x ∈ xs, ag x.natAbs <= L) (hyw : ∀ y ∈ ys, ag y.natAbs <= M) :
 Calls Tryz.prog 96 #[.int .i64 (i : Int), .int .i64 (j : Int), .pointer (some ⟨ga, 0, none⟩), .pointer (some ⟨gb, 0, none⟩)] w fun e w' => (∃ v, e = .returned v /\ ai w' w.heap.size v (bM m d xs ys i j)) /\ Below w.heap.size w w' := by
 have HA : Fr (fun _ => False) w w [.cell ⟨gb, 2, none⟩ (.slice bo kd cb), .cell ⟨gb, 1, none⟩ (.int .i64 (d : Int)), .cell ⟨ga, 2, none⟩ (.slice ao nm ca), .cell ⟨ga, 1, none⟩ (.int .i64 (m : Int)), .ls M bo ys, .ls L ao xs] :=
  Fr.cl (Fr.cl (Fr.cl (Fr.cl (((Fr.nil _ w).l hA Cq).l hB (by simp [En.wr])) h1 (by simp [En.wr])) h2 (by simp [En.wr])) h3 (by simp [En.wr])) h4 (by simp [En.wr])
 have hx : ∀ k, k < m -> i * m + k < xs.length := fun k hk => by rw [hs]; exact cZ hi hk
 have hy : ∀ k, k < m -> k * d + j < ys.length := fun k hk => by rw [ht]; exact cZ hk hj
 have hb : ∀ k, k <= m -> ag (sm k fun k => gi xs (i * m + k) * gi ys (k * d + j)).natAbs <= L + M + 1 := fun k hk => nz (fun t h => qF (hxw _ (dP (hx t Cp))) (hyw _ (dP (hy t Cp)))) Cp;have hb1 : i * m <= 4096 := Da (show i <= 64 by omega) hm;have HS := H5 (Cv hx (Cv hy (Cv hb (Cv hnm hkd))));unfold bM;obtain ⟨f, hf⟩ : ∃ f : Nat -> Int, (fun k => gi xs (i * m + k) * gi ys (k * d + j)) = f := ⟨_, rfl⟩;have HF := H5 hf;rw [hf];clear hs hnm ht hkd hA hB h1 h2 h3 h4 hxw hyw hx hy hb hf;refine bN (S0 := fun _ => False) Tryz.func96 HA ?_;clear HA;refine aA ?_;refine aW fun g6 => ?_;refine eW ?_;refine aA ?_;refine aW fun g7 => ?_;refine eW ?_;refine aA ?_;refine aT ?_;refine aC ?_;refine lP (e := .own w.heap.size (av p0) 0) (fun w' _ => ai.zero w' _) ?_;refine cF (X := Nat × P4) (fun x => x.1 <= m) (fun x => m - x.1) (fun x => [(11, .int .i64 (x.1 : Int)), (10, .int .i64 (m : Int)), (0, .int .i64 (i : Int)), (1, .int .i64 (j : Int)), (2, .pointer (some ⟨ga, 0, none⟩)), (3, .pointer (some ⟨gb, 0, none⟩)), (6, .pointer (some ⟨g6, 0, none⟩)), (7, .pointer (some ⟨g7, 0, none⟩))])
  (fun x => [.row g7 37 [.bool x.2.1, .slice x.2.2.1 x.2.2.2.1 x.2.2.2.2], .row g6 37 [.bool false, .slice none 0 0], .own w.heap.size (av x.2) (sm x.1 f), .cell ⟨gb, 2, none⟩ (.slice bo kd cb), .cell ⟨gb, 1, none⟩ (.int .i64 (d : Int)), .cell ⟨ga, 2, none⟩ (.slice ao nm ca), .cell ⟨ga, 1, none⟩ (.int .i64 (m : Int)), .ls M bo ys, .ls L ao xs]) (0, p0) (Cx _) fun x hx => ?_
 obtain ⟨k, p⟩ := x
 replace hx : k <= m := hx
 have hpw : ag (sm k f).natAbs <= L + M + 1 := by rw [<- HF.out]; exact HS.out.2.2.1 k hx
 by_cases h : k < m
 . have h01 : (k : Int) < (m : Int) := by omega
   have hb2 : k * d <= 4096 := Da (show k <= 64 by omega) hd;obtain ⟨t, ht⟩ := Cs (i * m + k);obtain ⟨u, hu⟩ := Cs (k * d + j);have htl : t < xs.length := by rw [<- ht]; exact HS.out.1 k h
   have hul : u < ys.length := by rw [<- hu]; exact HS.out.2.1 k h
   have h02 : (t : Int) < (nm : Int) := by have := HS.out.2.2.2.1; omega
   have h03 : (u : Int) < (kd : Int) := by have := HS.out.2.2.2.2; omega
   have hfk : sm (k + 1) f = gi xs t * gi ys u + sm k f := by
    have e : f k = gi xs t * gi ys u := by rw [<- HF.out, <- ht, <- hu]
    show sm k f + f k = _;rw [e]; exact Int.add_comm ..
   have HT := H5 (Cv ht (Cv hu hfk));clear ht hu hfk;refine aA ?_;refine dB true ?_;refine eQ ?_;refine pD (L := L) (ao := ao) (xs := xs) Cq Cp fun bx ox e => ?_;subst e;refine lE (L := L) (xs := xs) (b := bx) (o := ox) t Cq htl fun px => ?_;refine pD (L := M) (ao := bo) (xs := ys) Cq Cp fun by_ oy e => ?_;subst e;refine lE (L := M) (xs := ys) (b := by_) (o := oy) u Cq hul fun py => ?_;refine nM ?_;refine aA ?_;refine dW ?_;refine aC ?_;refine rW [] ?_;refine bh ?_;refine dW ?_;refine dE (oI (a := i) (b := m) Cp) ?_;refine dW ?_;refine dE ((sO (a := i * m) (b := k) Cp).trans (by rw [HT.out.1])) ?_;refine bh ?_;refine aT ?_;refine dW ?_;refine dE (oI (a := k) (b := d) Cp) ?_;refine dW ?_;refine dE ((sO (a := k * d) (b := j) Cp).trans (by rw [HT.out.2.1])) ?_;refine aT ?_;refine dW ?_;refine cN (x := sm (k + 1) f) (fun w' H => by
    have := gj (av px) (av py) (av p) (gi xs t) (gi ys u) (sm k f) L M w' (H.all (.at L (av px) (gi xs t)) (by simp [av])) (H.all (.at M (av py) (gi ys u)) (by simp [av])) (ai.int (H.all (.own w.heap.size (av p) (sm k f)) (by simp [av])) Cp) Cp;rw [<- HT.out.2.2] at this; exact this) fun p2 => ?_
   refine sW ?_;refine eW ?_;refine aA ?_;refine dE (dL (a := k) Cp) ?_;refine aC ?_;exact cD (k + 1, p2) ⟨h, by show m - (k + 1) < m - k; omega⟩
 . obtain rfl : m = k := by omega
   refine aA ?_;refine fC ?_;refine aA ?_;refine dW ?_;refine sW ?_;refine eQ ?_;refine dZ fun w' H => ?_;exact ⟨_, jh (H.all (.row g6 37 [.bool p.1, .slice p.2.1 p.2.2.1 p.2.2.2]) Cq), ⟨_, rfl, H.all (.own w.heap.size (av p) (sm m f)) (by simp [av])⟩, H.below⟩
theorem AF (r m d nm kd ca cb L M : Nat) (ao bo : Option Addr) (xs ys : List Int) (w : World) (hA : aQ w L ao xs) (hB : aQ w M bo ys) (hL : L + M <= 17592186044000) (hs : xs.length = r * m) (hnm : xs.length = nm) (ht : ys.length = m * d) (hkd : ys.length = kd) (hr : r <= 64) (hm : m <= 64) (hd : d <= 64) (hxw : ∀ x ∈ xs, ag x.natAbs <= L) (hyw : ∀ y ∈ ys, ag y.natAbs <= M) :
 Calls Tryz.prog 74 #[.agg #[.int .i64 (r : Int), .int .i64 (m : Int), .slice ao nm ca], .agg #[.int .i64 (m : Int), .int .i64 (d : Int), .slice bo kd cb]] w fun e w' => (∃ p : Option Addr × Nat, e = .returned (.agg #[.int .i64 (r : Int), .int .i64 (d : Int), .slice p.1 (r * d) p.2]) /\ fq w' p.1 (aF d (bM m d xs ys) (r * d)) /\ True /\ ∀ b o, p.1 = some ⟨b, o, none⟩ -> w.heap.size <= b) /\ Below w.heap.size w w' := by
 have HP := H5 (fun i j ga gb (w' : World) a1 a2 a3 a4 a5 a6 hi hj => zk i j ga gb r m d nm kd ca cb L M ao bo xs ys w' a1 a2 a3 a4 a5 a6 hL hs hnm ht hkd hi hj hr hm hd hxw hyw);clear hs hnm ht hkd hxw hyw;refine bN (S0 := fun _ => False) Tryz.func74 (((Fr.nil _ w).l hA Cq).l hB (by simp [En.wr, En.ls])) ?_;clear hA hB;refine aA ?_;refine aW fun g2 => ?_;refine aW fun g3 => ?_;refine aW fun g4 => ?_;refine eW ?_;refine aA ?_;refine bh ?_;refine fW ?_;refine mU (α := Option Addr × Nat) (mk := fun p => .agg #[.int .i64 (r : Int), .int .i64 (d : Int), .slice p.1 (r * d) p.2]) (ao := fun p => p.1) (xs := fun _ => aF d (bM m d xs ys) (r * d)) (A := fun _ => True) (fun w' H => (lf 96 (fun _ _ => by go_simp) #[.pointer (some ⟨g2, 0, none⟩), .pointer (some ⟨g3, 0, none⟩)] r d (bM m d xs ys) w' hr hd (fun i j w2 hi hj hb => by
  have a1 : aa w' g2 24 [.int .i64 (r : Int), .int .i64 (m : Int), .slice ao nm ca] := H.all (.row g2 24 [.int .i64 (r : Int), .int .i64 (m : Int), .slice ao nm ca]) Cq;have a2 : aa w' g3 24 [.int .i64 (m : Int), .int .i64 (d : Int), .slice bo kd cb] := H.all (.row g3 24 [.int .i64 (m : Int), .int .i64 (d : Int), .slice bo kd cb]) Cq;have a3 : aQ w' L ao xs := H.all (.ls L ao xs) Cq;have a4 : aQ w' M bo ys := H.all (.ls M bo ys) Cq;exact HP.out i j g2 g3 w2 ((a1.below hb a1.lt).cell 1) ((a1.below hb a1.lt).cell 2) ((a2.below hb a2.lt).cell 1) ((a2.below hb a2.lt).cell 2) (a3.below hb) (a4.below hb) hi hj)).mono (by
  rintro e w3 ⟨⟨ao, cap', rfl, hl, _, hS⟩, hb⟩;exact ⟨⟨(ao, cap'), rfl, hl, trivial, hS⟩, hb⟩)) fun q => ?_
 refine sW ?_;refine eQ ?_;refine dZ fun w' H => ?_;exact ⟨_, o0 (H.all (.row g4 24 [.int .i64 (r : Int), .int .i64 (d : Int), .slice q.1 (r * d) q.2]) Cq), ⟨q, rfl, H.m0, trivial, (show True /\ ∀ b o, q.1 = some ⟨b, o, none⟩ -> w.heap.size <= b from H.m1).2⟩, H.below⟩
theorem ui (r m d nm kd ca cb L M : Nat) (ao bo : Option Addr) (xs ys : List Int) (w : World) (hA : aQ w L ao xs) (hB : aQ w M bo ys) (hL : L + M <= 17592186044000) (hs : xs.length = r * m) (hnm : xs.length = nm) (ht : ys.length = m * d) (hkd : ys.length = kd) (hr : r <= 64) (hm : m <= 64) (hd : d <= 64) (hxw : ∀ x ∈ xs, ag x.natAbs <= L) (hyw : ∀ y ∈ ys, ag y.natAbs <= M) :
 Calls Tryz.prog 38 #[.agg #[.int .i64 (r : Int), .int .i64 (m : Int), .slice ao nm ca], .agg #[.int .i64 (m : Int), .int .i64 (d : Int), .slice bo kd cb]] w fun e w' => (∃ p : Option Addr × Nat, e = .returned (.tuple #[.agg #[.int .i64 (r : Int), .int .i64 (d : Int), .slice p.1 (r * d) p.2], .int .i64 0]) /\ fq w' p.1 (aF d (bM m d xs ys) (r * d)) /\ True /\ ∀ b o, p.1 = some ⟨b, o, none⟩ -> w.heap.size <= b) /\ Below w.heap.size w w' := by
 have HP := H5 (Cv (fun (w' : World) a1 a2 => AF r m d nm kd ca cb L M ao bo xs ys w' a1 a2 hL hs hnm ht hkd hr hm hd hxw hyw) (fun g (w' : World) h => oS g r m m d nm kd ao bo ca cb w' hr hm hm hd (hnm.symm.trans hs) (hkd.symm.trans ht) h));clear hs hnm ht hkd hxw hyw;refine bN (S0 := fun _ => False) Tryz.func38 (((Fr.nil _ w).l hA Cq).l hB (by simp [En.wr, En.ls])) ?_;clear hA hB;refine aA ?_;refine aW fun g2 => ?_;refine aW fun g3 => ?_;refine aW fun g4 => ?_;refine aC ?_;refine rW [] ?_;refine aT ?_;refine bW (m := 2) fun g9 => ?_;refine cV (v := .int .i64 0) (fun w' H => HP.out.2 g9 w' (um.of H.m0)) ?_;refine aC ?_;refine dO ?_;refine fC ?_;refine aA ?_;refine bh ?_;refine fC ?_;refine aA ?_;refine aT ?_;refine mU (α := Option Addr × Nat) (mk := fun p => .agg #[.int .i64 (r : Int), .int .i64 (d : Int), .slice p.1 (r * d) p.2]) (ao := fun p => p.1) (xs := fun _ => aF d (bM m d xs ys) (r * d)) (A := fun _ => True) (fun w' H => HP.out.1 w' (H.all (.ls L ao xs) Cq) (H.all (.ls M bo ys) Cq)) fun q => ?_;refine sW ?_;refine aC ?_;refine fk fun w' H => ?_;exact ⟨_, _, o0 (H.all (.row g4 24 [.int .i64 (r : Int), .int .i64 (d : Int), .slice q.1 (r * d) q.2]) Cq), dT, ⟨q, rfl, H.m0, trivial, (show True /\ ∀ b o, q.1 = some ⟨b, o, none⟩ -> w.heap.size <= b from H.m1).2⟩, H.below⟩
theorem xY (n nm cap L : Nat) (ao : Option Addr) (xs : List Int) (w : World) (hn : n <= 64) (hA : aQ w L ao xs) (hL : L <= 17592186044000) (hs : xs.length = n * n) (hnm : xs.length = nm) (hxw : ∀ x ∈ xs, ag x.natAbs <= L) :
 Calls Tryz.prog 71 #[.agg #[.int .i64 (n : Int), .int .i64 (n : Int), .slice ao nm cap]] w fun e w' => (∃ v, e = .returned (.tuple #[v, .int .i64 0]) /\ ai w' w.heap.size v (sm n fun i => gi xs (i * n + i))) /\ Below w.heap.size w w' := by
 have hC : ∀ w', Calls Tryz.prog 7 #[.agg #[.int .i64 (n : Int), .int .i64 (n : Int), .slice ao nm cap]] w' fun e w'' => e = .returned (.int .i64 0) /\ Below w'.heap.size w' w'' := fun w' => by
  have := cW (n : Int) (n : Int) ao nm cap w' Cp Cp;rw [dv (by unfold ba bL; rw [<- hnm, hs]; simp; omega)] at this; exact this
 have hx : ∀ k, k < n -> k * n + k < xs.length := fun k hk => by rw [hs]; exact cZ hk hk
 obtain ⟨f, hf⟩ : ∃ f : Nat -> Int, (fun k => gi xs (k * n + k)) = f := ⟨_, rfl⟩;have hb : ∀ k, k <= n -> ag (sm k f).natAbs <= L + 1 := fun k hk => nz (fun t h => by rw [<- hf]; exact hxw _ (dP (hx t Cp))) Cp;have HS := H5 (Cv hC (Cv hx (Cv hb (Cv hf hnm))));rw [hf];clear hC hs hnm hxw hx hb hf;refine bN (S0 := fun _ => False) Tryz.func71 ((Fr.nil _ w).l hA Cq) ?_;clear hA;refine aA ?_;refine aW fun g1 => ?_;refine aW fun g2 => ?_;refine aC ?_;refine dO ?_;refine cV (v := .int .i64 0) (fun w' H => HS.out.1 w') ?_;refine aC ?_;refine dO ?_;refine fC ?_;refine aA ?_;refine bh ?_;refine fC ?_;refine aA ?_;refine aW fun g5 => ?_;refine eW ?_;refine aA ?_;refine aT ?_;refine aC ?_;refine lP (e := .own w.heap.size (av p0) 0) (fun w' _ => ai.zero w' _) ?_;refine cF (X := Nat × P4) (fun x => x.1 <= n) (fun x => n - x.1) (fun x => [(21, .int .i64 (x.1 : Int)), (20, .int .i64 (n : Int)), (1, .pointer (some ⟨g1, 0, none⟩)), (2, .pointer (some ⟨g2, 0, none⟩)), (5, .pointer (some ⟨g5, 0, none⟩))])
  (fun x => [.row g5 37 [.bool x.2.1, .slice x.2.2.1 x.2.2.2.1 x.2.2.2.2], .row g1 24 [.int .i64 (n : Int), .int .i64 (n : Int), .slice ao nm cap], .row g2 37 [.bool false, .slice none 0 0], .own w.heap.size (av x.2) (sm x.1 f), .ls L ao xs]) (0, p0) (Cx _) fun x hx => ?_
 obtain ⟨k, p⟩ := x
 replace hx : k <= n := hx
 have hpw : ag (sm k f).natAbs <= L + 1 := HS.out.2.2.1 k hx;by_cases h : k < n
 . have h01 : (k : Int) < (n : Int) := by omega
   have hb2 : k * n <= 4096 := Da (show k <= 64 by omega) hn;obtain ⟨t, ht⟩ := Cs (k * n + k);have htl : t < xs.length := by rw [<- ht]; exact HS.out.2.1 k h
   have h02 : (t : Int) < (nm : Int) := by have := HS.out.2.2.2.2; omega
   have hfk : sm (k + 1) f = sm k f + gi xs t := by
    have e : f k = gi xs t := by rw [<- HS.out.2.2.2.1, <- ht]
    show sm k f + f k = _;rw [e]
   have HT := H5 (Cv ht hfk);clear ht hfk;refine aA ?_;refine dB true ?_;refine eQ ?_;refine pD (L := L) (ao := ao) (xs := xs) Cq Cp fun bx ox e => ?_;subst e;refine lE (L := L) (xs := xs) (b := bx) (o := ox) t Cq htl fun px => ?_;refine nM ?_;refine aA ?_;refine dW ?_;refine aC ?_;refine rW [] ?_;refine bh ?_;refine aT ?_;refine dE (oI (a := k) (b := n) Cp) ?_;refine dW ?_;refine dE ((sO (a := k * n) (b := k) Cp).trans (by rw [HT.out.1])) ?_;refine aT ?_;refine cN (x := sm (k + 1) f) (fun w' H => by
    have := kt (av p) (av px) (sm k f) (gi xs t) w' (ai.int (H.all (.own w.heap.size (av p) (sm k f)) (by simp [av])) Cp) ((H.all (.at L (av px) (gi xs t)) (by simp [av]) : ah ..).mono Cp);rw [<- HT.out.2] at this; exact this) fun p2 => ?_
   refine sW ?_;refine eW ?_;refine aA ?_;refine dE (dL (a := k) Cp) ?_;refine aC ?_;exact cD (k + 1, p2) ⟨h, by show n - (k + 1) < n - k; omega⟩
 . obtain rfl : n = k := by omega
   refine aA ?_;refine fC ?_;refine aA ?_;refine dW ?_;refine sW ?_;refine aC ?_;refine fk fun w' H => ?_;exact ⟨_, _, jh (H.all (.row g2 37 [.bool p.1, .slice p.2.1 p.2.2.1 p.2.2.2]) Cq), dT, ⟨_, rfl, H.all (.own w.heap.size (av p) (sm n f)) (by simp [av])⟩, H.below⟩
def od (d : Nat) (xs ys : List Int) (i j : Nat) : Int := gi xs (i * d + j) + gi ys (i * d + j)
theorem x8 (i j gf ga gb r d nm ca cb L : Nat) (ao bo : Option Addr) (xs ys : List Int) (w : World) (h0 : w.cell? ⟨gf, 0, none⟩ = some (.func (.func 54) #[] #[])) (h1 : w.cell? ⟨ga, 1, none⟩ = some (.int .i64 (d : Int))) (h2 : w.cell? ⟨ga, 2, none⟩ = some (.slice ao nm ca)) (h3 : w.cell? ⟨gb, 1, none⟩ = some (.int .i64 (d : Int))) (h4 : w.cell? ⟨gb, 2, none⟩ = some (.slice bo nm cb))
 (hA : aQ w L ao xs) (hB : aQ w L bo ys) (hL : L <= 17592186044000) (hs : xs.length = r * d) (hnm : xs.length = nm) (ht : ys.length = nm) (hi : i < r) (hj : j < d) (hr : r <= 64) (hd : d <= 64) :
 Calls Tryz.prog 110 #[.int .i64 (i : Int), .int .i64 (j : Int), .pointer (some ⟨gf, 0, none⟩), .pointer (some ⟨ga, 0, none⟩), .pointer (some ⟨gb, 0, none⟩)] w fun e w' => (∃ v, e = .returned v /\ ai w' w.heap.size v (od d xs ys i j)) /\ Below w.heap.size w w' := by
 have hb1 : i * d <= 4096 := Da (show i <= 64 by omega) hd;unfold od;obtain ⟨t, ht'⟩ : ∃ t, i * d + j = t := ⟨_, rfl⟩;have htl : t < nm := by rw [<- ht', <- hnm, hs]; exact cZ hi hj
 rw [ht'];have htx : t < xs.length := by omega
 have hty : t < ys.length := by omega
 obtain ⟨bx, ox, rfl⟩ := hA.pos htx;obtain ⟨by_, oy, rfl⟩ := hB.pos hty;have HA : Fr (fun _ => False) w w [.cell ⟨gb, 2, none⟩ (.slice (some ⟨by_, oy, none⟩) nm cb), .cell ⟨gb, 1, none⟩ (.int .i64 (d : Int)), .cell ⟨ga, 2, none⟩ (.slice (some ⟨bx, ox, none⟩) nm ca), .cell ⟨ga, 1, none⟩ (.int .i64 (d : Int)), .cell ⟨gf, 0, none⟩ (.func (.func 54) #[] #[]), .ls L (some ⟨by_, oy, none⟩) ys, .ls L (some ⟨bx, ox, none⟩) xs] :=
  Fr.cl (Fr.cl (Fr.cl (Fr.cl (Fr.cl (((Fr.nil _ w).l hA Cq).l hB (by simp [En.wr])) h0 (by simp [En.wr])) h1 (by simp [En.wr])) h2 (by simp [En.wr])) h3 (by simp [En.wr])) h4 (by simp [En.wr])
 have HT := H5 ht';have h01 : (t : Int) < (nm : Int) := by omega
 clear hs hnm ht ht' hA hB h0 h1 h2 h3 h4;refine bN (S0 := fun _ => False) Tryz.func110 HA ?_;clear HA;refine jY ?_;refine lE (L := L) (xs := xs) (b := bx) (o := ox) t Cq htx fun px => ?_;refine lE (L := L) (xs := ys) (b := by_) (o := oy) t Cq hty fun py => ?_;refine rW [] ?_;refine aW fun g7 => ?_;refine eW ?_;refine aA ?_;refine bh ?_;refine aT ?_;refine dE (oI (a := i) (b := d) Cp) ?_;refine dW ?_;refine dE ((sO (a := i * d) (b := j) Cp).trans (by rw [HT.out])) ?_;refine bh ?_;refine aT ?_;refine dW ?_;refine dE (oI (a := i) (b := d) Cp) ?_;refine dW ?_;refine dE ((sO (a := i * d) (b := j) Cp).trans (by rw [HT.out])) ?_;refine aT ?_;refine cN (f := 54) (x := gi xs t + gi ys t) (fun w' H => kt (av px) (av py) (gi xs t) (gi ys t) w' ((H.all (.at L (av px) (gi xs t)) (by simp [av]) : ah ..).mono Cp) ((H.all (.at L (av py) (gi ys t)) (by simp [av]) : ah ..).mono Cp)) fun p2 => ?_;refine sW ?_;refine eQ ?_;refine dZ fun w' H => ?_;exact ⟨_, jh (H.all (.row g7 37 [.bool p2.1, .slice p2.2.1 p2.2.2.1 p2.2.2.2]) Cq), ⟨_, rfl, H.all (.own w.heap.size (av p2) (gi xs t + gi ys t)) (by simp [av])⟩, H.below⟩
theorem xm (r d nm ca cb L : Nat) (ao bo : Option Addr) (xs ys : List Int) (w : World) (hA : aQ w L ao xs) (hB : aQ w L bo ys) (hL : L <= 17592186044000) (hs : xs.length = r * d) (hnm : xs.length = nm) (ht : ys.length = nm) (hr : r <= 64) (hd : d <= 64) :
 Calls Tryz.prog 95 #[.agg #[.int .i64 (r : Int), .int .i64 (d : Int), .slice ao nm ca], .agg #[.int .i64 (r : Int), .int .i64 (d : Int), .slice bo nm cb], .func (.func 54) #[] #[]] w fun e w' => (∃ p : Option Addr × Nat, e = .returned (.tuple #[.agg #[.int .i64 (r : Int), .int .i64 (d : Int), .slice p.1 (r * d) p.2], .int .i64 0]) /\ fq w' p.1 (aF d (od d xs ys) (r * d)) /\ True /\ ∀ b o, p.1 = some ⟨b, o, none⟩ -> w.heap.size <= b) /\ Below w.heap.size w w' := by
 have HP := H5 (Cv (fun i j gf ga gb (w' : World) a0 a1 a2 a3 a4 a5 a6 hi hj => x8 i j gf ga gb r d nm ca cb L ao bo xs ys w' a0 a1 a2 a3 a4 a5 a6 hL hs hnm ht hi hj hr hd) (fun g (w' : World) h => oS g r d r d nm nm ao bo ca cb w' hr hd hr hd (hnm.symm.trans hs) (hnm.symm.trans hs) h));clear hs hnm ht;refine bN (S0 := fun _ => False) Tryz.func95 (((Fr.nil _ w).l hA Cq).l hB (by simp [En.wr, En.ls])) ?_;clear hA hB;refine aA ?_;refine aW fun g3 => ?_;refine aW fun g4 => ?_;refine aW fun g5 => ?_;refine aW fun g6 => ?_;refine aC ?_;refine rW [] ?_;refine aT ?_;refine bW (m := 2) fun g11 => ?_;refine cV (v := .int .i64 0) (fun w' H => HP.out.2 g11 w' (um.of H.m0)) ?_;refine aC ?_;refine dO ?_;refine fC ?_;refine aA ?_;refine bh ?_;refine dB false ?_;refine dW ?_;refine oz ?_;refine dG ?_;refine mQ false ?_;refine aC ?_;refine kf ?_;refine aA ?_;refine bh ?_;refine fW ?_;refine mU (α := Option Addr × Nat) (mk := fun p => .agg #[.int .i64 (r : Int), .int .i64 (d : Int), .slice p.1 (r * d) p.2]) (ao := fun p => p.1) (xs := fun _ => aF d (od d xs ys) (r * d)) (A := fun _ => True) (fun w' H => (lf 110 (fun _ _ => by go_simp) #[.pointer (some ⟨g5, 0, none⟩), .pointer (some ⟨g3, 0, none⟩), .pointer (some ⟨g4, 0, none⟩)] r d (od d xs ys) w' hr hd (fun i j w2 hi hj hb => by
  have a0 : aa w' g5 49 [.func (.func 54) #[] #[]] := H.all (.row g5 49 [.func (.func 54) #[] #[]]) Cq;have a1 : aa w' g3 24 [.int .i64 (r : Int), .int .i64 (d : Int), .slice ao nm ca] := H.all (.row g3 24 [.int .i64 (r : Int), .int .i64 (d : Int), .slice ao nm ca]) Cq;have a2 : aa w' g4 24 [.int .i64 (r : Int), .int .i64 (d : Int), .slice bo nm cb] := H.all (.row g4 24 [.int .i64 (r : Int), .int .i64 (d : Int), .slice bo nm cb]) Cq;have a3 : aQ w' L ao xs := H.all (.ls L ao xs) Cq;have a4 : aQ w' L bo ys := H.all (.ls L bo ys) Cq;exact HP.out.1 i j g5 g3 g4 w2 ((a0.below hb a0.lt).cell 0) ((a1.below hb a1.lt).cell 1) ((a1.below hb a1.lt).cell 2) ((a2.below hb a2.lt).cell 1) ((a2.below hb a2.lt).cell 2) (a3.below hb) (a4.below hb) hi hj)).mono (by
  rintro e w3 ⟨⟨ao, cap', rfl, hl, _, hS⟩, hb⟩;exact ⟨⟨(ao, cap'), rfl, hl, trivial, hS⟩, hb⟩)) fun q => ?_
 refine sW ?_;refine aC ?_;refine fk fun w' H => ?_;exact ⟨_, _, o0 (H.all (.row g6 24 [.int .i64 (r : Int), .int .i64 (d : Int), .slice q.1 (r * d) q.2]) Cq), dT, ⟨q, rfl, H.m0, trivial, (show True /\ ∀ b o, q.1 = some ⟨b, o, none⟩ -> w.heap.size <= b from H.m1).2⟩, H.below⟩
theorem zK (r d nm ca cb L : Nat) (ao bo : Option Addr) (xs ys : List Int) (w : World) (hA : aQ w L ao xs) (hB : aQ w L bo ys) (hL : L <= 17592186044000) (hs : xs.length = r * d) (hnm : xs.length = nm) (ht : ys.length = nm) (hr : r <= 64) (hd : d <= 64) :
 Calls Tryz.prog 72 #[.agg #[.int .i64 (r : Int), .int .i64 (d : Int), .slice ao nm ca], .agg #[.int .i64 (r : Int), .int .i64 (d : Int), .slice bo nm cb]] w fun e w' => (∃ p : Option Addr × Nat, e = .returned (.tuple #[.agg #[.int .i64 (r : Int), .int .i64 (d : Int), .slice p.1 (r * d) p.2], .int .i64 0]) /\ fq w' p.1 (aF d (od d xs ys) (r * d)) /\ True /\ ∀ b o, p.1 = some ⟨b, o, none⟩ -> w.heap.size <= b) /\ Below w.heap.size w w' := by
 have HP := H5 (fun (w' : World) a1 a2 => xm r d nm ca cb L ao bo xs ys w' a1 a2 hL hs hnm ht hr hd);clear hs hnm ht;refine bN (S0 := fun _ => False) Tryz.func72 (((Fr.nil _ w).l hA Cq).l hB (by simp [En.wr, En.ls])) ?_;clear hA hB;refine aA ?_;refine aW fun g2 => ?_;refine aW fun g3 => ?_;refine aW fun g4 => ?_;refine aC ?_;refine rW [] ?_;refine aT ?_;refine mU (α := Option Addr × Nat) (mk := fun p => .tuple #[.agg #[.int .i64 (r : Int), .int .i64 (d : Int), .slice p.1 (r * d) p.2], .int .i64 0]) (ao := fun p => p.1) (xs := fun _ => aF d (od d xs ys) (r * d)) (A := fun _ => True) (fun w' H => HP.out w' (H.all (.ls L ao xs) Cq) (H.all (.ls L bo ys) Cq)) fun q => ?_;refine aT ?_;refine sW ?_;refine aC ?_;refine fk fun w' H => ?_;exact ⟨_, _, o0 (H.all (.row g4 24 [.int .i64 (r : Int), .int .i64 (d : Int), .slice q.1 (r * d) q.2]) Cq), dT, ⟨q, rfl, H.m0, trivial, (show True /\ ∀ b o, q.1 = some ⟨b, o, none⟩ -> w.heap.size <= b from H.m1).2⟩, H.below⟩
end Go.Proofs.YtjjlmfmoihooiaaGreat
namespace Go.Proofs.YtjjlmfmoihooiaaGreat
def lG (n : Nat) (f : Int -> Int) (l : Int) : Prop := ∃ c : Nat -> Int, (∀ t, f t = sm (n + 1) fun k => c k * t ^ k) /\ c n = l
theorem lG.congr {n : Nat} {f g : Int -> Int} {l l' : Int} (h : lG n f l) (e : ∀ t, g t = f t) (el : l' = l) : lG n g l' := by
 obtain ⟨c, h1, h2⟩ := h;exact ⟨c, fun t => (e t).trans (h1 t), by rw [el]; exact h2⟩
theorem lG.add {n : Nat} {f g : Int -> Int} {l l' : Int} (h : lG n f l) (h' : lG n g l') : lG n (fun t => f t + g t) (l + l') := by
 obtain ⟨c, h1, h2⟩ := h;obtain ⟨d, h3, h4⟩ := h';refine ⟨fun k => c k + d k, fun t => ?_, by show c n + d n = _; rw [h2, h4]⟩;show f t + g t = _;rw [h1, h3, <- im];exact ak fun k _ => (DY ..).symm
theorem lG.smul {n : Nat} {f : Int -> Int} {l : Int} (s : Int) (h : lG n f l) : lG n (fun t => s * f t) (s * l) := by
 obtain ⟨c, h1, h2⟩ := h;refine ⟨fun k => s * c k, fun t => ?_, by show s * c n = _; rw [h2]⟩;show s * f t = _;rw [h1, <- bQ];exact ak fun k _ => (CH ..).symm
theorem lG.zero (n : Nat) : lG n (fun _ => 0) 0 := ⟨fun _ => 0, fun t => (bR fun k _ => De _).symm, rfl⟩
theorem lG.up {n : Nat} {f : Int -> Int} {l : Int} (h : lG n f l) : lG (n + 1) f 0 := by
 obtain ⟨c, h1, _⟩ := h;refine ⟨fun k => if k <= n then c k else 0, fun t => ?_, if_neg Cp⟩;rw [h1];show _ = (sm (n + 1) fun k => (if k <= n then c k else 0) * t ^ k) + (if n + 1 <= n then c (n + 1) else 0) * t ^ (n + 1);rw [if_neg Cp, De, EW];exact ak fun k hk => by rw [if_pos Cp]
theorem lG.shift {n : Nat} {f : Int -> Int} {l : Int} (h : lG n f l) : lG (n + 1) (fun t => t * f t) l := by
 obtain ⟨c, h1, h2⟩ := h;refine ⟨fun k => if k = 0 then 0 else c (k - 1), fun t => ?_, by show (if n + 1 = 0 then 0 else c (n + 1 - 1)) = l; rw [if_neg Cp]; exact h2⟩;show t * f t = _;rw [j7, h1, <- bQ];show _ = (if 0 = 0 then 0 else c (0 - 1)) * t ^ 0 + sm (n + 1) fun k => (if k + 1 = 0 then 0 else c (k + 1 - 1)) * t ^ (k + 1);rw [if_pos rfl, De, Ed];exact ak fun k _ => by rw [if_neg Cp, Es, EC]; ac_rfl
theorem lG.lin {n : Nat} {f : Int -> Int} {l : Int} (p q : Int) (h : lG n f l) : lG (n + 1) (fun t => (t * p + q) * f t) (p * l) :=
 ((h.shift.smul p).add (h.up.smul q)).congr (fun t => by rw [DY]; ac_rfl) Cp
theorem lG.sum {n : Nat} {f : Nat -> Int -> Int} {l : Nat -> Int} : ∀ m, (∀ i < m, lG n (f i) (l i)) -> lG n (fun t => sm m fun i => f i t) (sm m l)
 | 0, _ => lG.zero n
 | m + 1, h => (lG.sum m fun i hi => h i Cp).add (h m Cp)
theorem qL : ∀ (n : Nat) (P Q : Mx), lG n (fun t => aS n fun a b => t * P a b + Q a b) (aS n P)
 | 0, _, _ => ⟨fun _ => 1, fun t => by show (1 : Int) = 0 + 1 * t ^ 0; simp, rfl⟩
 | n + 1, P, Q => by
  refine (lG.sum (f := fun i t => et i * ((t * P i 0 + Q i 0) * aS n fun a b => t * minor P i a b + minor Q i a b)) (l := fun i => et i * (P i 0 * aS n (minor P i))) (n + 1) fun i _ => ((qL n (minor P i) (minor Q i)).lin (P i 0) (Q i 0)).smul (et i)).congr (fun t => ?_) ?_
  . show (sm (n + 1) fun i => et i * (t * P i 0 + Q i 0) * aS n (minor (fun a b => t * P a b + Q a b) i)) = _;exact ak fun i _ => by rw [CH]; rfl
  . show (sm (n + 1) fun i => et i * P i 0 * aS n (minor P i)) = _;exact ak fun i _ => CH ..
theorem uE {x : Int} (h : ∀ t : Int, 1 <= t -> t ∣ x) : x = 0 := by
 obtain ⟨k, hk⟩ := h (x.natAbs + 1) Cp;rcases Int.natAbs_eq x with e | e
 . by_cases hk0 : k = 0
   . rw [hk, hk0, CS]
   . exfalso;have h1 : x.natAbs = (x.natAbs + 1) * k.natAbs := by
      have := congrArg Int.natAbs hk;rw [CP] at this;have e2 : ((x.natAbs : Int) + 1).natAbs = x.natAbs + 1 := by omega
      rw [e2] at this; exact this
     have h2 : 1 <= k.natAbs := by omega
     have := CD (x.natAbs + 1) h2;omega
 . by_cases hk0 : k = 0
   . rw [hk, hk0, CS]
   . exfalso;have h1 : x.natAbs = (x.natAbs + 1) * k.natAbs := by
      have := congrArg Int.natAbs hk;rw [CP] at this;have e2 : ((x.natAbs : Int) + 1).natAbs = x.natAbs + 1 := by omega
      rw [e2] at this; exact this
     have h2 : 1 <= k.natAbs := by omega
     have := CD (x.natAbs + 1) h2;omega
theorem lZ : ∀ (n : Nat) (c : Nat -> Int), (∀ t : Int, 1 <= t -> (sm n fun k => c k * t ^ k) = 0) -> ∀ k < n, c k = 0
 | 0, _, _ => fun k hk => by omega
 | n + 1, c, h => by
  have e : ∀ t : Int, (sm (n + 1) fun k => c k * t ^ k) = c 0 + t * sm n fun k => c (k + 1) * t ^ k := fun t => by
   rw [j7, <- bQ];congr 1
   . simp
   . exact ak fun k _ => by rw [EC]; ac_rfl
  have h0 : c 0 = 0 := uE fun t ht => by
   have := h t ht;rw [e] at this;exact ⟨- sm n fun k => c (k + 1) * t ^ k, by rw [Ew]; omega⟩
  have h1 := lZ n (fun k => c (k + 1)) fun t ht => by
   have := h t ht;rw [e, h0, Ed] at this;exact (Int.mul_eq_zero.1 this).resolve_left Cp
  intro k hk;cases k with
  | zero => exact h0
  | succ k => exact h1 k Cp
def uM : Mx := fun i j => if i = j then 1 else 0
def fp (n : Nat) (B : Mx) (i j : Nat) : Int := aS n (bU B j (uM i))
theorem xx : ∀ n, aS n uM = 1
 | 0 => rfl
 | n + 1 => by
  show (sm (n + 1) fun i => et i * uM i 0 * aS n (minor uM i)) = 1;rw [eH 0 Cp fun i _ hi => by unfold uM; rw [if_neg hi]; simp];have e : aS n (minor uM 0) = aS n uM := aP n fun a _ b _ => by
   show uM (cK 0 a) (b + 1) = uM a b;rw [show cK 0 a = a + 1 by unfold cK; rw [if_neg (Dv a)]];show (if a + 1 = b + 1 then (1 : Int) else 0) = if a = b then 1 else 0;by_cases q : a = b
   . rw [if_pos q, if_pos Cp]
   . rw [if_neg q, if_neg Cp]
  rw [e, xx n];decide
theorem zR {n : Nat} (f : Nat -> Int) {b : Nat} (hb : b < n) : (sm n fun l => f l * uM l b) = f b := by
 rw [eH b hb fun l _ hl => by unfold uM; rw [if_neg hl, CS]];unfold uM; rw [if_pos rfl, Eg]
theorem Ag (n : Nat) (B : Mx) {i j : Nat} (hi : i < n) (hj : j < n) : (sm n fun l => B i l * fp n B l j) = aS n B * uM i j := by
 unfold fp;rw [<- qg n B j hj (B i) uM n];have e : aS n (bU B j fun b => sm n fun l => B i l * uM l b) = aS n (bU B j (B i)) := aP n fun a _ b hb => by
  unfold bU;by_cases h : a = j
  . rw [if_pos h, if_pos h]; exact zR (B i) hb
  . rw [if_neg h, if_neg h]
 rw [e];unfold uM;by_cases h : i = j
 . subst h;rw [if_pos rfl, Eg, fG]
 . rw [if_neg h, CS];exact gv n _ hi hj h fun b => by rw [aZ _ h, bV]
theorem vc {h : Int} : ∀ (n : Nat) {M N : Mx}, (∀ a < n, ∀ b < n, h ∣ M a b - N a b) -> h ∣ aS n M - aS n N
 | 0, _, _, _ => by show h ∣ (1 : Int) - 1; simp
 | n + 1, M, N, hM => by
  show h ∣ (sm (n + 1) fun i => et i * M i 0 * aS n (minor M i)) - sm (n + 1) fun i => et i * N i 0 * aS n (minor N i);rw [<- mf];refine uv _ fun i hi => ?_;obtain ⟨x, hx⟩ := vc n (M := minor M i) (N := minor N i) fun a ha b hb => hM (cK i a) (by unfold cK; split <;> omega) (b + 1) Cp;obtain ⟨y, hy⟩ := hM i hi 0 Cp;have e1 : aS n (minor M i) = aS n (minor N i) + h * x := by omega
  have e2 : M i 0 = N i 0 + h * y := by omega
  refine ⟨et i * (N i 0 * x + y * aS n (minor N i) + y * (h * x)), ?_⟩;rw [e1, e2]
  grind
theorem rM (n : Nat) (B : Mx) (h : Int) : ∀ s ≤ n, ∃ x, aS n (fun a b => B a b + if a < s then h * uM a b else 0) = aS n B + h * (sm s fun i => fp n B i i) + h * h * x
 | 0, _ => ⟨0, by
  rw [aP n (N := B) fun a _ b _ => by rw [if_neg (Dv a), EW]];simp [sm]⟩
 | s + 1, hs => by
  obtain ⟨x, hx⟩ := rM n B h s Cp;obtain ⟨M, hM⟩ : ∃ M : Mx, (fun a b => B a b + if a < s then h * uM a b else 0) = M := ⟨_, rfl⟩;rw [hM] at hx;have hMe : ∀ a b, M a b = B a b + if a < s then h * uM a b else 0 := fun a b => by rw [<- hM]
  have e : (fun a b => B a b + if a < s + 1 then h * uM a b else 0) = bU M s fun b => h * uM s b + M s b := by
   funext a b;unfold bU;by_cases q : a = s
   . rw [if_pos q];show _ = h * uM s b + M s b;rw [hMe, if_neg (DA s), q, if_pos (Dw s)]; omega
   . rw [if_neg q, hMe];by_cases q2 : a < s
     . rw [if_pos q2, if_pos Cp]
     . rw [if_neg q2, if_neg Cp]
  rw [e, iP n M s h (uM s) (M s) Cp, fG, hx];obtain ⟨y, hy⟩ := vc (h := h) n (M := bU M s (uM s)) (N := bU B s (uM s)) fun a _ b _ => by
   unfold bU;by_cases q : a = s
   . rw [if_pos q, if_pos q]; simp
   . rw [if_neg q, if_neg q, hMe];by_cases q2 : a < s
     . rw [if_pos q2]; exact ⟨uM a b, by omega⟩
     . rw [if_neg q2]; exact ⟨0, by omega⟩
  have e2 : aS n (bU M s (uM s)) = fp n B s s + h * y := by unfold fp; omega
  refine ⟨x + y, ?_⟩;rw [e2];show h * (fp n B s s + h * y) + (aS n B + h * (sm s fun i => fp n B i i) + h * h * x) = aS n B + h * ((sm s fun i => fp n B i i) + fp n B s s) + h * h * (x + y)
  grind
theorem sR (t h : Int) : ∀ k : Nat, ∃ x, (t + h) ^ (k + 1) = t ^ (k + 1) + h * (((k : Int) + 1) * t ^ k) + h * h * x
 | 0 => ⟨0, by rw [EC, EC, Int.pow_zero, Int.pow_zero]; simp⟩
 | k + 1 => by
  obtain ⟨x, hx⟩ := sR t h k;refine ⟨((k : Int) + 1) * t ^ k + x * t + x * h, ?_⟩;rw [EC (t + h) (k + 1), hx, EC t (k + 1)];have e : t ^ (k + 1) = t ^ k * t := EC t k;have e2 : ((k + 1 : Nat) : Int) = (k : Int) + 1 := by omega
  rw [e, e2]
  grind
def Bt (A : Mx) (t : Int) : Mx := fun a b => t * uM a b + - A a b
theorem yo {n : Nat} {A : Mx} {a : Nat -> Int} (ha : ∀ t, aS n (Bt A t) = sm (n + 1) fun k => a k * t ^ k) (t : Int) : (sm n fun i => fp n (Bt A t) i i) = sm n fun k => ((k : Int) + 1) * a (k + 1) * t ^ k := by
 have key : (sm n fun k => ((k : Int) + 1) * a (k + 1) * t ^ k) - (sm n fun i => fp n (Bt A t) i i) = 0 := uE fun h hh => by
  obtain ⟨x, hx⟩ := rM n (Bt A t) h n (Ct _);have e1 : aS n (fun a b => Bt A t a b + if a < n then h * uM a b else 0) = aS n (Bt A (t + h)) := aP n fun a ha b _ => by
   rw [if_pos ha]; unfold Bt; rw [DY]; omega
  rw [e1, ha, ha] at hx;obtain ⟨y, hy⟩ := DT fun k => sR t h k;have e2 : (sm (n + 1) fun k => a k * (t + h) ^ k) = (sm (n + 1) fun k => a k * t ^ k) + h * (sm n fun k => ((k : Int) + 1) * a (k + 1) * t ^ k) + h * h * sm n fun k => a (k + 1) * y k := by
   rw [j7, j7 n fun k => a k * t ^ k, <- bQ, <- bQ];have e3 : (sm n fun k => a (k + 1) * (t + h) ^ (k + 1)) = (sm n fun k => a (k + 1) * t ^ (k + 1)) + (sm n fun k => h * (((k : Int) + 1) * a (k + 1) * t ^ k)) + sm n fun k => h * h * (a (k + 1) * y k) := by
    rw [<- im, <- im];exact ak fun k _ => by rw [hy k]; grind
   rw [e3];simp only [Int.pow_zero];omega
  rw [e2] at hx;obtain ⟨D, hD⟩ := Cs ((sm n fun k => ((k : Int) + 1) * a (k + 1) * t ^ k));obtain ⟨T, hT⟩ := Cs ((sm n fun i => fp n (Bt A t) i i));obtain ⟨Y, hY⟩ := Cs ((sm n fun k => a (k + 1) * y k));obtain ⟨Z, hZ⟩ := Cs ((sm (n + 1) fun k => a k * t ^ k));rw [hD, hT, hY, hZ] at hx;rw [hD, hT];refine ⟨x - Y, ?_⟩;have h1 : h * (D - T) = h * (h * (x - Y)) := by grind
  exact DC Cp h1
 omega
theorem zH {n : Nat} (A : Mx) {i j : Nat} (hj : j < n) : ∃ c : Nat -> Int, ∀ t, fp n (Bt A t) i j = sm n fun k => c k * t ^ k := by
 obtain ⟨c, h1, h2⟩ := qL n (bU uM j fun _ => 0) (bU (fun a b => - A a b) j (uM i));have h3 : aS n (bU uM j fun _ => (0 : Int)) = 0 := by
  have := iD n uM j 0 (fun _ => 0) hj;simpa using this
 rw [h3] at h2;refine ⟨c, fun t => ?_⟩;have e : fp n (Bt A t) i j = aS n fun a b => t * bU uM j (fun _ => 0) a b + bU (fun a b => - A a b) j (uM i) a b := aP n fun a _ b _ => by
  unfold bU Bt;by_cases q : a = j
  . rw [if_pos q, if_pos q, if_pos q, CS, Ed]
  . rw [if_neg q, if_neg q, if_neg q]
 rw [e];refine (h1 t).trans ?_;show (sm n fun k => c k * t ^ k) + c n * t ^ n = _;rw [h2, De, EW]
theorem fl (n : Nat) (A : Mx) (hn : 0 < n) : ∃ (N : Nat -> Mx) (c : Nat -> Int), (∀ i < n, ∀ j < n, N 0 i j = uM i j) /\
 (∀ k, k + 1 < n -> (sm n fun i => sm n fun l => A i l * N k l i) = -(((k : Int) + 1) * c (k + 1)) /\ ∀ i < n, ∀ j < n, N (k + 1) i j = (sm n fun l => A i l * N k l j) + c (k + 1) * uM i j) /\
 ∀ i < n, ∀ j < n, (sm n fun l => A i l * N (n - 1) l j) = -((-1) ^ n * aS n A) * uM i j := by
 obtain ⟨a, ha, hl⟩ := qL n uM fun x y => - A x y;rw [xx] at hl;have ha' : ∀ t, aS n (Bt A t) = sm (n + 1) fun k => a k * t ^ k := ha;obtain ⟨q, hq⟩ : ∃ q : Nat -> Nat -> Nat -> Int, ∀ i j, j < n -> ∀ t, fp n (Bt A t) i j = sm n fun k => q i j k * t ^ k := by
  have h1 : ∀ i, ∃ c : Nat -> Nat -> Int, ∀ j, j < n -> ∀ t, fp n (Bt A t) i j = sm n fun k => c j k * t ^ k := fun i => by
   have h2 : ∀ j, ∃ c : Nat -> Int, j < n -> ∀ t, fp n (Bt A t) i j = sm n fun k => c k * t ^ k := fun j => by
    by_cases hj : j < n
    . obtain ⟨c, hc⟩ := zH A (i := i) hj;exact ⟨c, fun _ => hc⟩
    . exact ⟨fun _ => 0, fun h => absurd h hj⟩
   exact DT h2
  exact DT h1
 have hz : ∀ i < n, ∀ j < n, ∀ k < n + 1, ((if k = 0 then 0 else q i j (k - 1)) - (if k < n then sm n fun l => A i l * q l j k else 0)) - a k * uM i j = 0 := fun i hi j hj => by
  refine lZ (n + 1) (fun k => ((if k = 0 then 0 else q i j (k - 1)) - (if k < n then sm n fun l => A i l * q l j k else 0)) - a k * uM i j) fun t _ => ?_;have h1 := Ag n (Bt A t) hi hj;have e0 : (sm n fun l => Bt A t i l * fp n (Bt A t) l j) = t * fp n (Bt A t) i j - sm n fun l => A i l * fp n (Bt A t) l j := by
   have e1 : (sm n fun l => Bt A t i l * fp n (Bt A t) l j) = (sm n fun l => t * (uM i l * fp n (Bt A t) l j)) - sm n fun l => A i l * fp n (Bt A t) l j := by
    rw [<- mf];exact ak fun l _ => by unfold Bt; rw [DY, Du, CH]; omega
   rw [e1, bQ, eH i hi fun l _ hli => by unfold uM; rw [if_neg fun e => hli e.symm, De]];unfold uM;rw [if_pos rfl, Em]
  have e2 : t * fp n (Bt A t) i j = sm (n + 1) fun k => (if k = 0 then 0 else q i j (k - 1)) * t ^ k := by
   rw [hq i j hj, j7, <- bQ];show _ = (if 0 = 0 then 0 else q i j (0 - 1)) * t ^ 0 + sm n fun k => (if k + 1 = 0 then 0 else q i j (k + 1 - 1)) * t ^ (k + 1);rw [if_pos rfl, De, Ed];exact ak fun k _ => by rw [if_neg Cp, Es, EC]; ac_rfl
  have e3 : (sm n fun l => A i l * fp n (Bt A t) l j) = sm (n + 1) fun k => (if k < n then sm n fun l => A i l * q l j k else 0) * t ^ k := by
   show _ = (sm n fun k => (if k < n then sm n fun l => A i l * q l j k else 0) * t ^ k) + (if n < n then sm n fun l => A i l * q l j n else 0) * t ^ n;rw [if_neg (DA n), De, EW];have e4 : (sm n fun l => A i l * fp n (Bt A t) l j) = sm n fun l => sm n fun k => A i l * q l j k * t ^ k := ak fun l _ => by
    rw [hq l j hj, <- bQ];exact ak fun k _ => (CH ..).symm
   rw [e4, jN];exact ak fun k hk => by rw [if_pos hk, ff]
  have e5 : aS n (Bt A t) * uM i j = sm (n + 1) fun k => a k * uM i j * t ^ k := by
   rw [ha', <- ff];exact ak fun k _ => by ac_rfl
  rw [e0, e2, e3, e5] at h1;have e6 : (sm (n + 1) fun k => (((if k = 0 then 0 else q i j (k - 1)) - (if k < n then sm n fun l => A i l * q l j k else 0)) - a k * uM i j) * t ^ k) = ((sm (n + 1) fun k => (if k = 0 then 0 else q i j (k - 1)) * t ^ k) - sm (n + 1) fun k => (if k < n then sm n fun l => A i l * q l j k else 0) * t ^ k) - sm (n + 1) fun k => a k * uM i j * t ^ k := by
   rw [<- mf, <- mf];exact ak fun k _ => by rw [Fj, Fj]
  show (sm (n + 1) fun k => (((if k = 0 then 0 else q i j (k - 1)) - (if k < n then sm n fun l => A i l * q l j k else 0)) - a k * uM i j) * t ^ k) = 0;rw [e6]; omega
 have htr : ∀ k < n, (sm n fun i => q i i k) = ((k : Int) + 1) * a (k + 1) := fun k hk => by
  have := lZ n (fun k => (sm n fun i => q i i k) - ((k : Int) + 1) * a (k + 1)) (fun t _ => by
   have h1 := yo ha' t;have e1 : (sm n fun i => fp n (Bt A t) i i) = sm n fun k => (sm n fun i => q i i k) * t ^ k := by
    have e2 : (sm n fun i => fp n (Bt A t) i i) = sm n fun i => sm n fun k => q i i k * t ^ k := ak fun i hi => hq i i hi t;rw [e2, jN];exact ak fun k _ => ff ..
   rw [e1] at h1;have e3 : (sm n fun k => ((sm n fun i => q i i k) - ((k : Int) + 1) * a (k + 1)) * t ^ k) = (sm n fun k => (sm n fun i => q i i k) * t ^ k) - sm n fun k => ((k : Int) + 1) * a (k + 1) * t ^ k := by
    rw [<- mf];exact ak fun k _ => Fj ..
   rw [e3, h1]; omega) k hk
  show (sm n fun i => q i i k) = _;have h2 : (sm n fun i => q i i k) - ((k : Int) + 1) * a (k + 1) = 0 := this;omega
 refine ⟨fun k i j => q i j (n - 1 - k), fun k => a (n - k), fun i hi j hj => ?_, fun k hk => ?_, fun i hi j hj => ?_⟩
 . have := hz i hi j hj n Cp;rw [if_neg Cp, if_neg Cp, hl] at this;show q i j (n - 1 - 0) = _;rw [Nat.sub_zero]; omega
 . have hN : ∀ i < n, ∀ j < n, q i j (n - 1 - (k + 1)) = (sm n fun l => A i l * q l j (n - 1 - k)) + a (n - (k + 1)) * uM i j := fun i hi j hj => by
    have := hz i hi j hj (n - (k + 1)) Cp;rw [if_neg Cp, if_pos Cp] at this;rw [show n - 1 - (k + 1) = n - (k + 1) - 1 by omega, show n - 1 - k = n - (k + 1) by omega];omega
   refine ⟨?_, hN⟩;have h1 := htr (n - 1 - (k + 1)) Cp;have h2 : (sm n fun i => q i i (n - 1 - (k + 1))) = (sm n fun i => sm n fun l => A i l * q l i (n - 1 - k)) + sm n fun _ => a (n - (k + 1)) := by
    rw [<- im];exact ak fun i hi => by
     rw [hN i hi i hi];show _ + a (n - (k + 1)) * (if i = i then 1 else 0) = _;rw [if_pos rfl, Eg]
   have h3 : ∀ (m : Nat) (x : Int), (sm m fun _ => x) = (m : Int) * x := fun m x => by
    induction m with
    | zero => show (0 : Int) = ((0 : Nat) : Int) * x; simp
    | succ m ih => show (sm m fun _ => x) + x = _; rw [ih, show ((m + 1 : Nat) : Int) = (m : Int) + 1 by omega, DY, Em]
   rw [h3] at h2;rw [show n - 1 - (k + 1) + 1 = n - (k + 1) by omega] at h1;show (sm n fun i => sm n fun l => A i l * q l i (n - 1 - k)) = -(((k : Int) + 1) * a (n - (k + 1)));have e4 : ((n - 1 - (k + 1) : Nat) : Int) + 1 = (n : Int) - ((k : Int) + 1) := by omega
   rw [h1, e4, Fj] at h2;omega
 . have := hz i hi j hj 0 Cp;rw [if_pos rfl, if_pos hn] at this;have h0 := ha' 0;have e1 : (sm (n + 1) fun k => a k * (0 : Int) ^ k) = a 0 := by
    rw [eH 0 Cp fun k _ hk => by rw [Int.zero_pow Cp, CS]];simp
   have e2 : aS n (Bt A 0) = (-1) ^ n * aS n A := by
    rw [<- kJ];exact aP n fun x _ y _ => by unfold Bt; rw [De]; omega
   rw [e1, e2] at h0;show (sm n fun l => A i l * q l j (n - 1 - (n - 1))) = _;rw [Nat.sub_self, h0, Du];omega
end Go.Proofs.YtjjlmfmoihooiaaGreat
