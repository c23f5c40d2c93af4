/- Part 8 of 8 of the proof that the law ModhnfRoads returns true for every input of bulk at most 1048576 and leaves its arguments as they were. -/
import Derived.Test.YtjjlmfmoihooiaaGreatRoA
import Derived.Test.YtjjlmfmoihooiaaGreatRoB
import Derived.Test.YtjjlmfmoihooiaaGreatRoC
import Derived.Test.YtjjlmfmoihooiaaGreatRoD
import Derived.Test.YtjjlmfmoihooiaaGreatRoE
import Derived.Test.YtjjlmfmoihooiaaGreatRoF
import Derived.Test.YtjjlmfmoihooiaaGreatRoG
set_option linter.all false
set_option maxRecDepth 100000
set_option maxHeartbeats 8000000
namespace Go.Proofs.YtjjlmfmoihooiaaGreat
open Go.RowKit
structure EaX where
 k : Nat
 ps : List P4
 zs : List Int
structure EaI (n : Nat) (f : Int -> Int) (xs : List Int) (z : EaX) : Prop where
 hk : z.k <= n
 pl : z.ps.length = n
 zl : z.zs.length = n
 val : ∀ t < n, gi z.zs t = if t < z.k then f (gi xs t) else 0
theorem Ar (F : FuncId) (hF : ∀ (args : Array Value) (w : World), (callFunc F args).run Tryz.prog w = .ok (.enter F args) w) (lb : Array Value) (f : Int -> Int) (L nm cap : Nat) (ao : Option Addr) (xs : List Int) (w : World) (hA : aQ w L ao xs) (hnm : xs.length = nm) (hm : nm <= 4096)
 (hf : ∀ (i : Nat) (p : P4) (w' : World), i < nm -> Below w.heap.size w w' -> ah w' L (av p) (gi xs i) -> Calls Tryz.prog F (#[av p] ++ lb) w' fun e w'' => (∃ v, e = .returned v /\ ai w'' w'.heap.size v (f (gi xs i))) /\ Below w'.heap.size w' w'') :
 Calls Tryz.prog 67 #[.slice ao nm cap, .func (.func F) #[] lb] w fun e w' => (∃ q : Nat, e = .returned (.slice (some ⟨q, 0, none⟩) nm nm) /\ fq w' (some ⟨q, 0, none⟩) (xs.map f) /\ True /\ ∀ b o, (some ⟨q, 0, none⟩ : Option Addr) = some ⟨b, o, none⟩ -> w.heap.size <= b) /\ Below w.heap.size w w' := by
 have HN := H5 hnm;refine bN (S0 := fun _ => False) Tryz.func67 ((Fr.nil _ w).l hA Cq) ?_;clear hnm hA;refine aA ?_;refine aC ?_;refine rW [] ?_;refine aT ?_;refine mN nm nm rfl rfl (Ct _) Cp fun g => ?_;refine aC ?_;refine rW [] ?_;refine aT ?_;refine aC ?_;refine lP (e := .ns (List.replicate nm p0) (List.replicate nm 0)) (fun w' _ => bX.pJ w' nm) ?_;refine cF (X := EaX) (EaI nm f xs) (fun z => nm - z.k) (fun z => [(13, .int .i64 (z.k : Int)), (12, .int .i64 (nm : Int)), (11, .slice ao nm cap), (5, .slice (some ⟨g, 0, none⟩) nm nm), (1, .func (.func F) #[] lb)])
  (fun z => [.row g 37 (rn z.ps []), .ns z.ps z.zs, .ls L ao xs]) ⟨0, List.replicate nm p0, List.replicate nm 0⟩ ⟨Cx _, by simp, by simp, fun t ht => by rw [if_neg (by show ¬ t < 0; omega)]; show gi (List.replicate nm 0) t = 0; rw [cU (by simpa using ht)]; simp⟩ fun z hz => ?_
 obtain ⟨k, ps, zs⟩ := z;have hk : k <= nm := hz.hk;have HM : Hid (EaI nm f xs ⟨k, ps, zs⟩) := H5 hz;clear hz;by_cases h : k < nm
 . have h01 : (k : Int) < (nm : Int) := by omega
   refine aA ?_;refine dB true ?_;refine eQ ?_;refine pD (L := L) (ao := ao) (xs := xs) Cq (by rw [HN.out]; omega) fun bx ox e => ?_;subst e;refine lE (L := L) (xs := xs) (b := bx) (o := ox) k Cq (by rw [HN.out]; exact h) fun p => ?_;refine nM ?_;refine aA ?_;refine aT ?_;refine dW ?_;refine aW fun g7 => ?_;refine dW ?_;refine sG ?_;refine eW ?_;refine aA ?_;refine bh ?_;refine cN (x := f (gi xs k)) (fun w' H => hf k p w' h H.below (H.all (.at L (av p) (gi xs k)) (by simp [av]))) fun q => ?_;refine je (e := .ns (ps.set k q) (zs.set k (f (gi xs k)))) (fun w' H => bX.set (H.all (.ns ps zs) Cq) k (H.all (.own w.heap.size (av q) (f (gi xs k))) (by simp [av]) : ai ..).num) ?_;refine dW ?_;refine sN (ps := ps) k q (by rw [show ps.length = nm from HM.out.pl]; exact h) aN.nil rfl ?_;refine eW ?_;refine aA ?_;refine dE (dL (a := k) Cp) ?_;refine aC ?_;exact cD (⟨k + 1, ps.set k q, zs.set k (f (gi xs k))⟩ : EaX) ⟨⟨h, by show (ps.set k q).length = nm; rw [CL]; exact HM.out.pl, by show (zs.set k _).length = nm; rw [CL]; exact HM.out.zl, fun t ht => by
    show gi (zs.set k _) t = if t < k + 1 then _ else _;rw [gO (by rw [show zs.length = nm from HM.out.zl]; exact h)];by_cases e : t = k
    . rw [if_pos e, if_pos Cp, e]
    . rw [if_neg e];have := HM.out.val t ht;rw [this];show (if t < k then _ else _) = _;by_cases e2 : t < k
      . rw [if_pos e2, if_pos Cp]
      . rw [if_neg e2, if_neg Cp]⟩, by show nm - (k + 1) < nm - k; omega⟩
 . obtain rfl : nm = k := by omega
   have hE : zs = xs.map f := by
    have zl : zs.length = nm := HM.out.zl;refine Dx (by rw [zl, List.length_map, HN.out]) fun t h1 h2 => ?_;have ht : t < nm := by omega
    have := HM.out.val t ht;rw [if_pos (show t < nm from ht), cU h1, cU (by rw [HN.out]; exact ht)] at this;rw [this, ED]
   have HE := H5 hE;clear hE;refine aA ?_;refine fC ?_;refine aA ?_;refine dW ?_;refine aC ?_;refine dZ fun w' H => ?_;refine ⟨_, dT, ⟨g, rfl, ?_, trivial, fun b o e => by cases e; exact (H.own _ (CC ..) rfl _ rfl).elim (fun h => h.elim) id⟩, H.below⟩;have h1 : aa w' g 37 (rn ps []) := H.m0;have h2 : bX w' ps zs := H.m1;rw [<- HE.out];exact fun _ => ⟨g, 0, rfl, h1.lt, fun i hi => ⟨gp ps i, by rw [h1.cell, Db]; exact tu [] (by rw [h2.1]; exact hi), by rw [h1.cell, Db]; exact tt [] (by rw [h2.1]; exact hi), by have := h2.2 i (by rw [h2.1]; exact hi); rw [cU hi] at this; exact this⟩⟩
theorem xE (gk L : Nat) (pk px : P4) (k x : Int) (w : World) (h0 : w.cell? ⟨gk, 0, none⟩ = some (.bool pk.1)) (h1 : w.cell? ⟨gk, 1, none⟩ = some (.slice pk.2.1 pk.2.2.1 pk.2.2.2)) (hk : ah w L (av pk) k) (hx : ah w L (av px) x) (hL : L <= 1000000000) :
 Calls Tryz.prog 68 #[av px, .pointer (some ⟨gk, 0, none⟩)] w fun e w' => (∃ v, e = .returned v /\ ai w' w.heap.size v (k * x)) /\ Below w.heap.size w w' := by
 have HA : Fr (fun _ => False) w w [.cell ⟨gk, 0, none⟩ (.bool pk.1), .cell ⟨gk, 1, none⟩ (.slice pk.2.1 pk.2.2.1 pk.2.2.2), .at L (av px) x, .at L (av pk) k] :=
  Fr.cl (Fr.cl (((Fr.nil _ w).i hk).i hx) h1 (by simp [En.wr, En.at])) h0 (by simp [En.wr, En.at])
 clear h0 h1 hk hx;refine bN (S0 := fun _ => False) Tryz.func68 HA ?_;clear HA;refine aA ?_;refine aW fun g2 => ?_;refine aW fun g3 => ?_;refine eW ?_;refine aA ?_;refine aT ?_;refine cN (x := k * x) (fun w' H => ib (av pk) (av px) k x L L w' (H.all (.at L (av pk) k) (by simp [av])) (H.all (.at L (av px) x) (by simp [av])) Cp) fun q => ?_;refine sW ?_;refine eQ ?_;refine dZ fun w' H => ?_;exact ⟨_, jh (H.all (.row g3 37 [.bool q.1, .slice q.2.1 q.2.2.1 q.2.2.2]) Cq), ⟨_, rfl, H.all (.own w.heap.size (av q) (k * x)) (by simp [av])⟩, H.below⟩
theorem tc (r n nm cap L : Nat) (ao : Option Addr) (xs : List Int) (k : Int) (pk : P4) (w : World) (hr : r <= 64) (hn : n <= 64) (hL : L <= 1000000000) (hk : ah w L (av pk) k) (hA : aQ w L ao xs) (hs : xs.length = r * n) (hnm : xs.length = nm) :
 Calls Tryz.prog 30 #[av pk, .agg #[.int .i64 (r : Int), .int .i64 (n : Int), .slice ao nm cap]] w fun e w' => (∃ q : Nat, e = .returned (.tuple #[.agg #[.int .i64 (r : Int), .int .i64 (n : Int), .slice (some ⟨q, 0, none⟩) nm nm], .int .i64 0]) /\ fq w' (some ⟨q, 0, none⟩) (xs.map (k * ·)) /\ True /\ ∀ b o, (some ⟨q, 0, none⟩ : Option Addr) = some ⟨b, o, none⟩ -> w.heap.size <= b) /\ Below w.heap.size w w' := by
 have hC : ∀ w', Calls Tryz.prog 7 #[.agg #[.int .i64 (r : Int), .int .i64 (n : Int), .slice ao nm cap]] w' fun e w'' => e = .returned (.int .i64 0) /\ Below w'.heap.size w' w'' := fun w' => by
  have := cW (r : Int) (n : Int) ao nm cap w' Cp Cp;rw [dv (by unfold ba bL; rw [<- hnm, hs]; simp; omega)] at this; exact this
 have hm : nm <= 4096 := by rw [<- hnm, hs]; exact Da hr hn
 have HC := H5 (Cv hC (Cv hnm hm));have HF := ((Fr.nil (fun _ => False) w).i hk).l hA (by simp [En.wr, En.at]);clear hC hs hnm hm hk hA;refine bN (S0 := fun _ => False) Tryz.func30 HF ?_;clear HF;refine aA ?_;refine aW fun g2 => ?_;refine aW fun g3 => ?_;refine aW fun g4 => ?_;refine aC ?_;refine dO ?_;refine cV (v := .int .i64 0) (fun w' H => HC.out.1 w') ?_;refine aC ?_;refine dO ?_;refine fC ?_;refine aA ?_;refine bh ?_;refine aT ?_;refine fW ?_;refine mU (α := Nat) (mk := fun q => .slice (some ⟨q, 0, none⟩) nm nm) (ao := fun q => some ⟨q, 0, none⟩) (xs := fun _ => xs.map (k * ·)) (A := fun _ => True) (fun w' H => Ar 68 (fun _ _ => by go_simp) #[.pointer (some ⟨g2, 0, none⟩)] (k * ·) L nm cap ao xs w' (H.all (.ls L ao xs) Cq) HC.out.2.1 HC.out.2.2 (fun i p w2 hi hb hx => by
  have a1 : aa w' g2 37 [.bool pk.1, .slice pk.2.1 pk.2.2.1 pk.2.2.2] := H.all (.row g2 37 [.bool pk.1, .slice pk.2.1 pk.2.2.1 pk.2.2.2]) Cq;have a2 : ah w' L (av pk) k := H.all (.at L (av pk) k) (by simp [av]);exact xE g2 L pk p k (gi xs i) w2 ((a1.below hb a1.lt).cell 0) ((a1.below hb a1.lt).cell 1) (ah.below a2 hb) hx hL)) fun q => ?_
 refine dW ?_;refine sW ?_;refine aC ?_;refine fk fun w' H => ?_;exact ⟨_, _, o0 (H.all (.row g4 24 [.int .i64 (r : Int), .int .i64 (n : Int), .slice (some ⟨q, 0, none⟩) nm nm]) Cq), dT, ⟨q, rfl, H.m0, trivial, (show True /\ ∀ b o, (some ⟨q, 0, none⟩ : Option Addr) = some ⟨b, o, none⟩ -> w.heap.size <= b from H.m1).2⟩, H.below⟩
theorem remI2 {a : Nat} (_ : a < 9223372036854775808) : Value.int .i64 ((a : Int).tmod 2) = .int .i64 ((a % 2 : Nat) : Int) := rfl
theorem xO : ∀ n : Nat, (-1 : Int) ^ n = if n % 2 = 0 then 1 else -1
 | 0 => rfl
 | n + 1 => by
  rw [EC, xO n];by_cases h : n % 2 = 0
  . rw [if_pos h, if_neg Cp]; rfl
  . rw [if_neg h, if_pos Cp]; rfl
theorem qE {n : Nat} {f : Nat -> Nat -> Int} {i j : Nat} (hi : i < n) (hj : j < n) : au (aF n f (n * n)) n n i j = f i j := by
 rw [bE hi hj]; exact gm f hi hj
theorem nI {n K B : Nat} {f : Nat -> Nat -> Int} (h : ∀ i j, i < n -> j < n -> ag (f i j).natAbs <= B) (hK : K = n * n) : ∀ x ∈ aF n f K, ag x.natAbs <= B := fun x hx => by
 unfold aF at hx;obtain ⟨q, hq, rfl⟩ := List.mem_map.1 hx;have hq := List.mem_range.1 hq;have hn : 0 < n := by
  rcases Dn n with e | e
  . subst e; omega
  . exact e
 exact h _ _ (EO Cp) (Dm _ hn)
structure lD (n mw : Nat) (N : Nat -> Mx) (s : Nat) (ms : List Int) : Prop where
 len : ms.length = n * n
 eq : ∀ i < n, ∀ j < n, au ms n n i j = N s i j
 wl : ∀ x ∈ ms, ag x.natAbs <= 1 + s * (mw + 3)
def pW (n mw : Nat) (xs zs : List Int) : Prop := zs.length = n * n /\ (∀ i < n, ∀ j < n, (sm n fun l => au xs n n i l * au zs n n l j) = aS n (au xs n n) * uM i j) /\ ∀ x ∈ zs, ag x.natAbs <= 66 * (mw + 3)
theorem uF : cE = uM := rfl
theorem lD.start {n mw : Nat} {N : Nat -> Mx} (h0 : ∀ i < n, ∀ j < n, N 0 i j = uM i j) : lD n mw N 0 (aF n cE (n * n)) :=
 ⟨aD .., fun i hi j hj => by rw [qE hi hj, h0 i hi j hj, uF], nI (fun i j _ _ => by
  unfold cE; split
  . exact Cw (an (k := 1) (by unfold W; decide)) Cp
  . simp [bb]) rfl⟩
theorem lD.prod {n mw s : Nat} {N : Nat -> Mx} {xs ms : List Int} (h : lD n mw N s ms) (hs : xs.length = n * n) {i j : Nat} (hi : i < n) (hj : j < n) : bM n n xs ms i j = sm n fun l => au xs n n i l * N s l j :=
 ak fun l hl => by rw [<- h.eq l hl j hj, bE hi hl, bE hl hj]; rfl
section
variable {n mw s : Nat} {N : Nat -> Mx} {c : Nat -> Int} {xs ms : List Int}
theorem lD.pw (h : lD n mw N s ms) (hn : n <= 64) (hs : xs.length = n * n) (hx : ∀ x ∈ xs, ag x.natAbs <= mw) : ∀ x ∈ aF n (bM n n xs ms) (n * n), ag x.natAbs <= mw + (1 + s * (mw + 3)) + 1 :=
 nI (fun i j hi hj => nz (fun t ht => qF (hx _ (dP (by rw [hs]; exact cZ hi ht))) (h.wl _ (dP (by rw [h.len]; exact cZ ht hj)))) hn) rfl
theorem lD.tr (h : lD n mw N s ms) (hs : xs.length = n * n) : (sm n fun i => gi (aF n (bM n n xs ms) (n * n)) (i * n + i)) = sm n fun i => sm n fun l => au xs n n i l * N s l i :=
 ak fun i hi => by
  rw [<- h.prod hs hi hi];exact gm _ hi hi
theorem lD.next (h : lD n mw N s ms) (hn : n <= 64) (hs : xs.length = n * n) (hx : ∀ x ∈ xs, ag x.natAbs <= mw) (hN : ∀ i < n, ∀ j < n, N (s + 1) i j = (sm n fun l => au xs n n i l * N s l j) + c (s + 1) * uM i j) (hc : ag (c (s + 1)).natAbs <= mw + (1 + s * (mw + 3)) + 2) :
 lD n mw N (s + 1) (aF n (od n (aF n (bM n n xs ms) (n * n)) ((aF n cE (n * n)).map (c (s + 1) * ·))) (n * n)) := by
 have hu : ∀ i j, i < n -> j < n -> gi ((aF n cE (n * n)).map (c (s + 1) * ·)) (i * n + j) = c (s + 1) * uM i j := fun i j hi hj => by
  have h1 : i * n + j < (aF n cE (n * n)).length := by rw [aD]; exact cZ hi hj
  have h2 : gi (aF n cE (n * n)) (i * n + j) = cE i j := gm _ hi hj;unfold gi at h2 |-;rw [List.getD_eq_getElem?_getD, List.getElem?_map, List.getElem?_eq_getElem h1];rw [List.getD_eq_getElem?_getD, List.getElem?_eq_getElem h1] at h2;show c (s + 1) * (aF n cE (n * n))[i * n + j] = _;rw [show (aF n cE (n * n))[i * n + j] = cE i j from h2, uF]
 have hp : ∀ i j, i < n -> j < n -> gi (aF n (bM n n xs ms) (n * n)) (i * n + j) = bM n n xs ms i j := fun i j hi hj => gm _ hi hj;refine ⟨aD .., fun i hi j hj => ?_, nI (fun i j hi hj => ?_) rfl⟩
 . rw [qE hi hj, hN i hi j hj];unfold od;rw [hp i j hi hj, hu i j hi hj, h.prod hs hi hj]
 . unfold od;rw [hp i j hi hj, hu i j hi hj];have e1 : ag (bM n n xs ms i j).natAbs <= mw + (1 + s * (mw + 3)) + 2 := Cw (h.pw hn hs hx _ (by rw [<- hp i j hi hj]; exact dP (by rw [aD]; exact cZ hi hj))) Cp;have e2 : ag (c (s + 1) * uM i j).natAbs <= mw + (1 + s * (mw + 3)) + 2 := by
    unfold uM; split
    . rw [Eg]; exact hc
    . rw [CS]; simp [bb]
   have e3 := nz (B := mw + (1 + s * (mw + 3)) + 2) (k := 2) (f := fun t => if t = 0 then bM n n xs ms i j else c (s + 1) * uM i j) (fun t _ => by show ag (if t = 0 then bM n n xs ms i j else c (s + 1) * uM i j).natAbs <= _; split <;> assumption) Cp;have e4 : (sm 2 fun t => if t = 0 then bM n n xs ms i j else c (s + 1) * uM i j) = bM n n xs ms i j + c (s + 1) * uM i j := by
    show 0 + (if 0 = 0 then bM n n xs ms i j else c (s + 1) * uM i j) + (if 1 = 0 then bM n n xs ms i j else c (s + 1) * uM i j) = _;rw [if_pos rfl, if_neg Cp, Ed]
   rw [e4] at e3;have e5 : (s + 1) * (mw + 3) = s * (mw + 3) + (mw + 3) := Dz s _;omega
end
theorem fl0 (n : Nat) (A : Mx) : ∃ (N : Nat -> Mx) (c : Nat -> Int), (∀ i < n, ∀ j < n, N 0 i j = uM i j) /\
 (∀ k, k + 1 < n -> (sm n fun i => sm n fun l => A i l * N k l i) = -(((k : Int) + 1) * c (k + 1)) /\ ∀ i < n, ∀ j < n, N (k + 1) i j = (sm n fun l => A i l * N k l j) + c (k + 1) * uM i j) /\
 (0 < n -> ∀ i < n, ∀ j < n, (sm n fun l => A i l * N (n - 1) l j) = -((-1) ^ n * aS n A) * uM i j) := by
 rcases Dn n with e | e
 . subst e;exact ⟨fun _ => uM, fun _ => 0, fun i hi => by omega, fun k hk => by omega, fun h => by omega⟩
 . obtain ⟨N, c, h1, h2, h3⟩ := fl n A e;exact ⟨N, c, h1, h2, fun _ => h3⟩
theorem Ac {n mw : Nat} {N : Nat -> Mx} {xs ms : List Int} (h : lD n mw N (n - 1) ms) (hn : n <= 64) (hl : ∀ i < n, ∀ j < n, (sm n fun l => au xs n n i l * N (n - 1) l j) = -((-1) ^ n * aS n (au xs n n)) * uM i j) (h0 : 0 < n) : (n % 2 = 0 -> pW n mw xs (ms.map ((-1) * ·))) /\ (¬ n % 2 = 0 -> pW n mw xs ms) := by
 have hw : 1 + (n - 1) * (mw + 3) <= 66 * (mw + 3) := by
  have := Cy (mw + 3) (show n - 1 <= 64 by omega); omega
 refine ⟨fun he => ⟨by rw [List.length_map]; exact h.len, fun i hi j hj => ?_, fun x hx => ?_⟩, fun he => ⟨h.len, fun i hi j hj => ?_, fun x hx => Cw (h.wl x hx) hw⟩⟩
 . have e1 := hl i hi j hj;rw [xO, if_pos he, Em] at e1;have e2 : (sm n fun l => au xs n n i l * au (ms.map ((-1) * ·)) n n l j) = sm n fun l => (-1) * (au xs n n i l * N (n - 1) l j) := ak fun l hl' => by
    rw [<- h.eq l hl' j hj, bE hl' hj, bE hl' hj];have h1 : l * n + j < ms.length := by rw [h.len]; exact cZ hl' hj
    rw [List.getD_eq_getElem?_getD, List.getElem?_map, List.getElem?_eq_getElem h1, List.getD_eq_getElem?_getD, List.getElem?_eq_getElem h1];show _ * ((-1) * ms[l * n + j]) = (-1) * (_ * ms[l * n + j])
    ac_rfl
   have q : ∀ a b : Int, (-1) * (-a * b) = a * b := fun a b => by rw [Du, Du, Em, Int.neg_neg]
   rw [e2, bQ, e1, q]
 . obtain ⟨y, hy, rfl⟩ := List.mem_map.1 hx;show ag ((-1) * y).natAbs <= _;rw [show ((-1) * y).natAbs = y.natAbs by rw [CP]; simp];exact Cw (h.wl y hy) hw
 . have e1 := hl i hi j hj;rw [xO, if_neg he] at e1;rw [ak (g := fun l => au xs n n i l * N (n - 1) l j) fun l hl' => by rw [h.eq l hl' j hj], e1];congr 1;omega
theorem y4 {mw : Nat} {xs ms : List Int} (h : ms.length = 0 * 0) : pW 0 mw xs ms := ⟨h, fun i hi => by omega, fun x hx => by have : ms = [] := D5 Cp; subst this; cases hx⟩
theorem Bs (n nm cap mw : Nat) (ao : Option Addr) (xs : List Int) (w : World) (hn : n <= 64) (hmw : mw <= 1048577) (hA : aQ w mw ao xs) (hs : xs.length = n * n) (hnm : xs.length = nm) (hxw : ∀ x ∈ xs, ag x.natAbs <= mw) :
 Calls Tryz.prog 37 #[.agg #[.int .i64 (n : Int), .int .i64 (n : Int), .slice ao nm cap]] w fun e w' => (∃ p : (Option Addr × Nat) × List Int, e = .returned (.tuple #[.agg #[.int .i64 (n : Int), .int .i64 (n : Int), .slice p.1.1 (n * n) p.1.2], .int .i64 0]) /\ fq w' p.1.1 p.2 /\ pW n mw xs p.2 /\ ∀ b o, p.1.1 = some ⟨b, o, none⟩ -> w.heap.size <= b) /\ Below w.heap.size w w' := by
 have c0 : ∀ w', Calls Tryz.prog 7 #[.agg #[.int .i64 (n : Int), .int .i64 (n : Int), .slice ao nm cap]] w' fun e w'' => e = .returned (.int .i64 0) /\ Below w'.heap.size w' w'' := fun w' => by
  have := cW (n : Int) (n : Int) ao nm cap w' Cp Cp;rw [dv (by unfold ba bL; rw [<- hnm, hs]; simp; omega)] at this; exact this
 obtain ⟨N, c, f0, f1, f2⟩ := fl0 n (au xs n n);have hB : ∀ s, s <= 64 -> 1 + s * (mw + 3) <= 100000000 := fun s h => by have := Cy (mw + 3) h; omega
 have c1 : ∀ s ms (po : Option Addr) pc w', s + 1 < n -> lD n mw N s ms -> fq w' po ms -> aQ w' mw ao xs -> Calls Tryz.prog 38 #[.agg #[.int .i64 (n : Int), .int .i64 (n : Int), .slice ao nm cap], .agg #[.int .i64 (n : Int), .int .i64 (n : Int), .slice po (n * n) pc]] w' fun e w'' => (∃ p : Option Addr × Nat, e = .returned (.tuple #[.agg #[.int .i64 (n : Int), .int .i64 (n : Int), .slice p.1 (n * n) p.2], .int .i64 0]) /\ fq w'' p.1 (aF n (bM n n xs ms) (n * n)) /\ True /\ ∀ b o, p.1 = some ⟨b, o, none⟩ -> w'.heap.size <= b) /\ Below w'.heap.size w' w'' := fun s ms po pc w' hs' hI h hA => by
  have := hB s Cp;exact ui n n n nm (n * n) cap pc mw (1 + s * (mw + 3)) ao po xs ms w' hA (h.iR hI.wl) Cp hs hnm hI.len hI.len hn hn hn hxw hI.wl
 have c2 : ∀ s ms (po : Option Addr) pc w', s + 1 < n -> lD n mw N s ms -> fq w' po (aF n (bM n n xs ms) (n * n)) -> Calls Tryz.prog 71 #[.agg #[.int .i64 (n : Int), .int .i64 (n : Int), .slice po (n * n) pc]] w' fun e w'' => (∃ v, e = .returned (.tuple #[v, .int .i64 0]) /\ ai w'' w'.heap.size v (-(((s + 1 : Nat) : Int) * c (s + 1)))) /\ Below w'.heap.size w' w'' := fun s ms po pc w' hs' hI h => by
  have h1 := hI.pw hn hs hxw;have := hB s Cp;have h2 := xY n (n * n) pc (mw + (1 + s * (mw + 3)) + 1) po (aF n (bM n n xs ms) (n * n)) w' hn (h.iR h1) Cp (aD ..) (aD ..) h1;rw [hI.tr hs, (f1 s hs').1, show ((s : Int) + 1) = ((s + 1 : Nat) : Int) by omega] at h2;exact h2
 have c3 : ∀ s ms, s + 1 < n -> lD n mw N s ms -> ag (((s + 1 : Nat) : Int) * c (s + 1)).natAbs <= mw + (1 + s * (mw + 3)) + 2 := fun s ms hs' hI => by
  have h1 := hI.pw hn hs hxw;have h2 := nz (k := n) (f := fun i => gi (aF n (bM n n xs ms) (n * n)) (i * n + i)) (fun t ht => h1 _ (dP (by rw [aD]; exact cZ ht ht))) hn;rw [hI.tr hs, (f1 s hs').1, DK, show ((s : Int) + 1) = ((s + 1 : Nat) : Int) by omega] at h2;exact h2
 have c4 : ∀ s ms, s + 1 < n -> lD n mw N s ms -> ag (c (s + 1)).natAbs <= mw + (1 + s * (mw + 3)) + 2 := fun s ms hs' hI => Cw (aJ (by
  rw [CP];exact Nat.le_mul_of_pos_left _ Cp)) (c3 s ms hs' hI)
 have c5 : ∀ s ms, s + 1 < n -> lD n mw N s ms -> lD n mw N (s + 1) (aF n (od n (aF n (bM n n xs ms) (n * n)) ((aF n cE (n * n)).map (c (s + 1) * ·))) (n * n)) := fun s ms hs' hI => hI.next hn hs hxw (f1 s hs').2 (c4 s ms hs' hI);have c6 : ∀ s ms (po : Option Addr) pc pk w', s + 1 < n -> lD n mw N s ms -> ah w' (mw + (1 + s * (mw + 3)) + 2) (av pk) (c (s + 1)) -> fq w' po (aF n cE (n * n)) -> Calls Tryz.prog 30 #[av pk, .agg #[.int .i64 (n : Int), .int .i64 (n : Int), .slice po (n * n) pc]] w' fun e w'' => (∃ q : Nat, e = .returned (.tuple #[.agg #[.int .i64 (n : Int), .int .i64 (n : Int), .slice (some ⟨q, 0, none⟩) (n * n) (n * n)], .int .i64 0]) /\ fq w'' (some ⟨q, 0, none⟩) ((aF n cE (n * n)).map (c (s + 1) * ·)) /\ True /\ ∀ b o, (some ⟨q, 0, none⟩ : Option Addr) = some ⟨b, o, none⟩ -> w'.heap.size <= b) /\ Below w'.heap.size w' w'' := fun s ms po pc pk w' hs' hI hk h => by
  have := hB s Cp;exact tc n n (n * n) pc (mw + (1 + s * (mw + 3)) + 2) po (aF n cE (n * n)) (c (s + 1)) pk w' hn hn Cp hk (h.iR (nI (fun i j _ _ => by
   unfold cE; split
   . exact Cw (an (k := 1) (by unfold W; decide)) Cp
   . simp [bb]) rfl)) (aD ..) (aD ..)
 have c7 : ∀ s ms (po : Option Addr) pc q w', s + 1 < n -> lD n mw N s ms -> fq w' po (aF n (bM n n xs ms) (n * n)) -> fq w' (some ⟨q, 0, none⟩) ((aF n cE (n * n)).map (c (s + 1) * ·)) -> Calls Tryz.prog 72 #[.agg #[.int .i64 (n : Int), .int .i64 (n : Int), .slice po (n * n) pc], .agg #[.int .i64 (n : Int), .int .i64 (n : Int), .slice (some ⟨q, 0, none⟩) (n * n) (n * n)]] w' fun e w'' => (∃ p : (Option Addr × Nat) × List Int, e = .returned (.tuple #[.agg #[.int .i64 (n : Int), .int .i64 (n : Int), .slice p.1.1 (n * n) p.1.2], .int .i64 0]) /\ fq w'' p.1.1 p.2 /\ lD n mw N (s + 1) p.2 /\ ∀ b o, p.1.1 = some ⟨b, o, none⟩ -> w'.heap.size <= b) /\ Below w'.heap.size w' w'' := fun s ms po pc q w' hs' hI h1 h2 => by
  have := hB s Cp;exact (zK n n (n * n) pc (n * n) (mw + (1 + s * (mw + 3)) + 2) po (some ⟨q, 0, none⟩) (aF n (bM n n xs ms) (n * n)) ((aF n cE (n * n)).map (c (s + 1) * ·)) w' (h1.iR fun x hx => Cw (hI.pw hn hs hxw x hx) Cp) (h2.iR fun x hx => by
   obtain ⟨y, hy, rfl⟩ := List.mem_map.1 hx;obtain ⟨t, _, rfl⟩ := List.mem_map.1 hy;show ag (c (s + 1) * cE (t / n) (t % n)).natAbs <= _;unfold cE; split
   . rw [Eg]; exact c4 s ms hs' hI
   . rw [CS]; simp [bb]) Cp (aD ..) (aD ..) (by rw [List.length_map, aD]) hn hn).mono fun e w'' ⟨⟨p, he, hl, _, hf⟩, hb⟩ => ⟨⟨(p, _), he, hl, c5 s ms hs' hI, hf⟩, hb⟩
 have c8 : lD n mw N 0 (aF n cE (n * n)) := lD.start f0;have c9 : ∀ ms, lD n mw N (n - 1) ms -> 0 < n -> (n % 2 = 0 -> pW n mw xs (ms.map ((-1) * ·))) /\ (¬ n % 2 = 0 -> pW n mw xs ms) := fun ms hI h0 => Ac hI hn (f2 h0) h0;have c10 : ∀ s ms (po : Option Addr) pc pk w', s < 64 -> lD n mw N s ms -> ah w' 1 (av pk) (-1) -> fq w' po ms -> Calls Tryz.prog 30 #[av pk, .agg #[.int .i64 (n : Int), .int .i64 (n : Int), .slice po (n * n) pc]] w' fun e w'' => (∃ q : Nat, e = .returned (.tuple #[.agg #[.int .i64 (n : Int), .int .i64 (n : Int), .slice (some ⟨q, 0, none⟩) (n * n) (n * n)], .int .i64 0]) /\ fq w'' (some ⟨q, 0, none⟩) (ms.map ((-1) * ·)) /\ True /\ ∀ b o, (some ⟨q, 0, none⟩ : Option Addr) = some ⟨b, o, none⟩ -> w'.heap.size <= b) /\ Below w'.heap.size w' w'' := fun s ms po pc pk w' hs' hI hk h => by
  have := hB s Cp;exact tc n n (n * n) pc (1 + s * (mw + 3)) po ms (-1) pk w' hn hn Cp (hk.mono Cp) (h.iR hI.wl) hI.len hI.len
 have HC := H5 (Cv c0 (Cv c1 (Cv c2 (Cv c3 (Cv c4 (Cv c6 (Cv c7 (Cv c8 (Cv c9 (Cv c10 hB))))))))));clear c0 c1 c2 c3 c4 c5 c6 c7 c8 c9 c10 hB f0 f1 f2 hs hnm hxw;refine bN (S0 := fun _ => False) Tryz.func37 ((Fr.nil _ w).l hA Cq) ?_;clear hA;refine aA ?_;refine aW fun g1 => ?_;refine aW fun g2 => ?_;refine aC ?_;refine dO ?_;refine cV (v := .int .i64 0) (fun w' H => HC.out.1 w') ?_;refine aC ?_;refine dO ?_;refine fC ?_;refine aA ?_;refine bh ?_;refine fC ?_;refine aA ?_;refine aT ?_;refine mU (α := Option Addr × Nat) (mk := fun p => .tuple #[.agg #[.int .i64 (n : Int), .int .i64 (n : Int), .slice p.1 (n * n) p.2], .int .i64 0]) (ao := fun p => p.1) (xs := fun _ => aF n cE (n * n)) (A := fun _ => True) (fun w' H => uw n w' hn) fun qU => ?_;refine aT ?_;refine dW ?_;refine aW fun g5 => ?_;refine sG ?_;refine aC ?_;refine r6 (A := True /\ ∀ b o, qU.1 = some ⟨b, o, none⟩ -> w.heap.size <= b) Cq fun hU => ?_;have HU := H5 hU.2;clear hU;refine rW [] ?_;refine aC ?_;refine cF (X := Nat × (Option Addr × Nat) × List Int) (fun x => (x.1 = 0 \/ x.1 + 1 <= n) /\ lD n mw N x.1 x.2.2 /\ ∀ b o, x.2.1.1 = some ⟨b, o, none⟩ -> w.heap.size <= b) (fun x => n - x.1) (fun x => [(7, .int .i64 ((x.1 + 1 : Nat) : Int)), (6, .int .i64 0), (1, .pointer (some ⟨g1, 0, none⟩)), (2, .pointer (some ⟨g2, 0, none⟩)), (5, .pointer (some ⟨g5, 0, none⟩))])
  (fun x => [.row g5 24 [.int .i64 (n : Int), .int .i64 (n : Int), .slice x.2.1.1 (n * n) x.2.1.2], .row g1 24 [.int .i64 (n : Int), .int .i64 (n : Int), .slice ao nm cap], .row g2 24 [.int .i64 0, .int .i64 0, .slice none 0 0], .jn x.2.1.1 x.2.2, .ls mw ao xs]) (0, qU, aF n cE (n * n)) ⟨.inl rfl, HC.out.2.2.2.2.2.2.2.1, HU.out⟩ fun x hx => ?_
 obtain ⟨s, ⟨po, pc⟩, ms⟩ := x;obtain ⟨hs, hI, hfr⟩ := hx;have HFr := H5 (show ∀ b o, po = some ⟨b, o, none⟩ -> w.heap.size <= b from hfr);clear hfr
 replace hs : s = 0 \/ s + 1 <= n := hs
 have HI := H5 (show lD n mw N s ms from hI);clear hI;by_cases h : s + 1 < n
 . have h01 : ((s + 1 : Nat) : Int) < (n : Int) := by omega
   have hBs := HC.out.2.2.2.2.2.2.2.2.2.2 s Cp;refine aA ?_;refine dW ?_;refine dB true ?_;refine dW ?_;refine oz ?_;refine mQ true ?_;refine aC ?_;refine nM ?_;refine aA ?_;refine aT ?_;refine mU (α := Option Addr × Nat) (mk := fun p => .tuple #[.agg #[.int .i64 (n : Int), .int .i64 (n : Int), .slice p.1 (n * n) p.2], .int .i64 0]) (ao := fun p => p.1) (xs := fun _ => aF n (bM n n xs ms) (n * n)) (A := fun _ => True) (fun w' H => HC.out.2.1 s ms po pc w' h HI.out (H.all (.jn po ms) Cq) (H.all (.ls mw ao xs) Cq)) fun qp => ?_;refine aT ?_;refine dW ?_;refine aW fun g8 => ?_;refine sG ?_;refine aC ?_;refine dO ?_;refine uz (x := -(((s + 1 : Nat) : Int) * c (s + 1))) (z := .int .i64 0) (fun w' H => HC.out.2.2.1 s ms qp.1 qp.2 w' h HI.out (H.all (.jn qp.1 (aF n (bM n n xs ms) (n * n))) Cq)) fun pt => ?_;refine aT ?_;refine dW ?_;refine aW fun g10 => ?_;refine sG ?_;refine aC ?_;refine dO ?_;refine cN (x := ((s + 1 : Nat) : Int) * c (s + 1)) (fun w' H => by
    have := iY (av pt) (-(((s + 1 : Nat) : Int) * c (s + 1))) w' (ai.int (H.all (.own w.heap.size (av pt) (-(((s + 1 : Nat) : Int) * c (s + 1)))) (by simp [av])) (by rw [DK]; exact Cw (HC.out.2.2.2.1 s ms h HI.out) Cp));rw [Int.neg_neg] at this; exact this) fun pn => ?_
   refine dW ?_;refine cN (x := ((s + 1 : Nat) : Int)) (fun w' H => js ((s + 1 : Nat) : Int) w' Cp Cp) fun pk => ?_;refine uz (x := c (s + 1)) (z := .int .i64 0) (fun w' H => by
    have := eZ (av pn) (av pk) (((s + 1 : Nat) : Int) * c (s + 1)) ((s + 1 : Nat) : Int) w' (ai.int (H.all (.own w.heap.size (av pn) (((s + 1 : Nat) : Int) * c (s + 1))) (by simp [av])) (Cw (HC.out.2.2.2.1 s ms h HI.out) Cp)) (ai.int (H.all (.own w.heap.size (av pk) ((s + 1 : Nat) : Int)) (by simp [av])) (by rw [EU]; exact Cw (an (k := 1) (by rw [Nat.pow_one]; unfold W; omega)) Cp)) Cp (Int.dvd_mul_right ..);rw [DH _ Cp] at this; exact this) fun pc1 => ?_
   refine aT ?_;refine dW ?_;refine aW fun g12 => ?_;refine sG ?_;refine aC ?_;refine rW [] ?_;refine aT ?_;refine mU (α := Option Addr × Nat) (mk := fun p => .tuple #[.agg #[.int .i64 (n : Int), .int .i64 (n : Int), .slice p.1 (n * n) p.2], .int .i64 0]) (ao := fun p => p.1) (xs := fun _ => aF n cE (n * n)) (A := fun _ => True) (fun w' H => uw n w' hn) fun qV => ?_;refine aT ?_;refine dW ?_;refine aW fun g14 => ?_;refine sG ?_;refine aC ?_;refine rW [] ?_;refine aT ?_;refine mU (α := Nat) (mk := fun q => .tuple #[.agg #[.int .i64 (n : Int), .int .i64 (n : Int), .slice (some ⟨q, 0, none⟩) (n * n) (n * n)], .int .i64 0]) (ao := fun q => some ⟨q, 0, none⟩) (xs := fun _ => (aF n cE (n * n)).map (c (s + 1) * ·)) (A := fun _ => True) (fun w' H => HC.out.2.2.2.2.2.1 s ms qV.1 qV.2 pc1 w' h HI.out (ai.int (H.all (.own w.heap.size (av pc1) (c (s + 1))) (by simp [av])) (HC.out.2.2.2.2.1 s ms h HI.out)) (H.all (.jn qV.1 (aF n cE (n * n))) Cq)) fun qs => ?_;refine aT ?_;refine dW ?_;refine sW ?_;refine eW ?_;refine aA ?_;refine aT ?_;refine mU (α := (Option Addr × Nat) × List Int) (mk := fun p => .tuple #[.agg #[.int .i64 (n : Int), .int .i64 (n : Int), .slice p.1.1 (n * n) p.1.2], .int .i64 0]) (ao := fun p => p.1.1) (xs := fun p => p.2) (A := fun p => lD n mw N (s + 1) p.2) (hne := ⟨((none, 0), [])⟩) (fun w' H => HC.out.2.2.2.2.2.2.1 s ms qp.1 qp.2 qs w' h HI.out (H.all (.jn qp.1 (aF n (bM n n xs ms) (n * n))) Cq) (H.all (.jn (some ⟨qs, 0, none⟩) ((aF n cE (n * n)).map (c (s + 1) * ·))) Cq)) fun qa => ?_;refine aT ?_;refine dW ?_;refine sW ?_;refine aC ?_;refine r6 (A := lD n mw N (s + 1) qa.2 /\ ∀ b o, qa.1.1 = some ⟨b, o, none⟩ -> w.heap.size <= b) Cq fun hq => ?_;have HA2 := H5 hq;clear hq;refine dO ?_;refine dE (dL (a := s + 1) Cp) ?_;refine aC ?_;exact cD (s + 1, qa.1, qa.2) ⟨⟨.inr h, HA2.out.1, HA2.out.2⟩, by show n - (s + 1) < n - s; omega⟩
 . have h01 : ¬ ((s + 1 : Nat) : Int) < (n : Int) := by omega
   refine aA ?_;refine dW ?_;refine dB true ?_;refine dW ?_;refine oz ?_;refine mQ false ?_;by_cases h0 : n = 0
   . have HN := H5 h0;have h02 : ¬ (0 : Int) < (n : Int) := by omega
     clear h0;refine aC ?_;refine kf ?_;refine aA ?_;refine dW ?_;refine dB true ?_;refine dW ?_;refine dG ?_;refine dG ?_;refine mQ false ?_;refine aT ?_;refine AP ?_;refine aC ?_;refine kf ?_;refine aA ?_;refine aT ?_;refine sW ?_;refine aC ?_;refine fk fun w' H => ?_;exact ⟨_, _, o0 (H.all (.row g2 24 [.int .i64 (n : Int), .int .i64 (n : Int), .slice po (n * n) pc]) Cq), dT, ⟨((po, pc), ms), rfl, H.all (.jn po ms) Cq, by have h1 := HI.out.len; rw [HN.out] at h1 |-; exact y4 h1, HFr.out⟩, H.below⟩
   . have h02 : (0 : Int) < (n : Int) := by omega
     obtain rfl : s = n - 1 := by omega
     have HE := H5 (HC.out.2.2.2.2.2.2.2.2.1 ms HI.out Cp);refine aC ?_;refine kf ?_;refine aA ?_;refine dW ?_;refine dB true ?_;refine dW ?_;refine dG ?_;refine dG ?_;refine mQ true ?_;refine aT ?_;refine dG ?_;refine dG ?_;refine dGE (remI2 (a := n) Cp) ?_;by_cases he : n % 2 = 0
     . have h03 : ((n % 2 : Nat) : Int) = 0 := by omega
       refine mQ true ?_;refine aC ?_;refine nM ?_;refine aA ?_;refine cN (x := -1) (fun w' H => js (-1) w' Cp Cp) fun pm => ?_;refine dW ?_;refine mU (α := Nat) (mk := fun q => .tuple #[.agg #[.int .i64 (n : Int), .int .i64 (n : Int), .slice (some ⟨q, 0, none⟩) (n * n) (n * n)], .int .i64 0]) (ao := fun q => some ⟨q, 0, none⟩) (xs := fun _ => ms.map ((-1) * ·)) (A := fun _ => True) (fun w' H => HC.out.2.2.2.2.2.2.2.2.2.1 (n - 1) ms po pc pm w' Cp HI.out (ai.int (H.all (.own w.heap.size (av pm) (-1)) (by simp [av])) (an (k := 1) (by rw [Nat.pow_one]; unfold W; decide))) (H.all (.jn po ms) Cq)) fun qz => ?_;refine aT ?_;refine sW ?_;refine aC ?_;refine fk fun w' H => ?_;have HQ : True /\ ∀ b o, (some ⟨qz, 0, none⟩ : Option Addr) = some ⟨b, o, none⟩ -> w.heap.size <= b := H.all (.pr (True /\ ∀ b o, (some ⟨qz, 0, none⟩ : Option Addr) = some ⟨b, o, none⟩ -> w.heap.size <= b)) Cq;exact ⟨_, _, o0 (H.all (.row g2 24 [.int .i64 (n : Int), .int .i64 (n : Int), .slice (some ⟨qz, 0, none⟩) (n * n) (n * n)]) Cq), dT, ⟨((some ⟨qz, 0, none⟩, n * n), ms.map ((-1) * ·)), rfl, H.all (.jn (some ⟨qz, 0, none⟩) (ms.map ((-1) * ·))) Cq, HE.out.1 he, HQ.2⟩, H.below⟩
     . have h03 : ¬ ((n % 2 : Nat) : Int) = 0 := by omega
       refine mQ false ?_;refine aC ?_;refine kf ?_;refine aA ?_;refine aT ?_;refine sW ?_;refine aC ?_;refine fk fun w' H => ?_;exact ⟨_, _, o0 (H.all (.row g2 24 [.int .i64 (n : Int), .int .i64 (n : Int), .slice po (n * n) pc]) Cq), dT, ⟨((po, pc), ms), rfl, H.all (.jn po ms) Cq, HE.out.2 he, HFr.out⟩, H.below⟩
end Go.Proofs.YtjjlmfmoihooiaaGreat
namespace Go.Proofs.YtjjlmfmoihooiaaGreat
theorem eo.pick {k m : Nat} {H : Mx} {l c : Nat -> Nat} (h : eo k m H l) (e : ∀ t < k, c t = l t) : eo k k (r7 k c H) fun i => i := by
 refine ⟨⟨fun i j hij _ => hij, fun i hi => hi, fun i hi j hj => ?_, fun i hi => ?_⟩, fun i j hij hj => ?_⟩
 . unfold r7;rw [if_pos Cp, e j Cp];exact h.zero i hi _ (h.inc j i hj hi)
 . unfold r7;rw [if_pos hi, e i hi];exact h.pos i hi
 . unfold r7;rw [if_pos hj, if_pos hj, e j hj];exact h.red i j hij hj
section
variable {n m k : Nat} {xs zs : List Int} {c1 c2 : Nat -> Nat}
theorem gR.spEq (h : gR n m xs k c1 c2 zs) {hs : List Int} (hsp : bc n (au xs n m) k (au hs k m)) : bc k (au zs k k) k (r7 k c2 (au hs k m)) := by
 refine ⟨fun t ht => ?_, fun t ht => ?_⟩
 . refine ((h.2.2.2.1.sp _).1 (Sp.row _ ht)).least (P := Sp k (r7 k c2 (au hs k m))) ⟨⟨fun _ => 0, fun i => (bR fun t _ => De _).symm⟩, fun _ _ h k => h.add k, fun s _ h => h.smul s⟩ (fun i hi => ?_) fun i hi => ?_
   . refine ((hsp.1 i hi).r7 (k := k) (c := c2)).congr fun b => ?_;rw [yx (n := n) (r := n) (fun t ht => by rw [show (List.range n).getD t 0 = t by simp [ht]]; exact ht) h.2.1.vV hi b, show (List.range n).getD i 0 = i by simp [hi]]; rfl
   . have h2 := BA (fun a b => au xs n m (c1 a) (c2 b)) hi;rw [<- uP (n := n) h.1.vV h.2.1.vV] at h2;have h3 : Sp k (r7 k c2 (au hs k m)) (eD (cH m xs k c1 c2) i) := h2.trans fun a ha => (((hsp.1 (c1 a) (h.1.vV a ha)).r7 (k := k) (c := c2))).congr fun b => rfl;rcases Int.natAbs_eq (cH m xs k c1 c2) with e | e
     . rw [<- e]; exact h3
     . refine (h3.smul (-1)).congr fun b => ?_;unfold eD; split <;> omega
 . obtain ⟨y, hy⟩ := hsp.2 t ht;refine Sp.trans (E := au zs k k) (n := k) (F := r7 k c2 (au xs n m)) (m := n) ?_ fun i hi => h.rowsP hi;exact (show Sp n (au xs n m) (au hs k m t) from ⟨y, hy⟩).r7
theorem gR.eqH (h : gR n m xs k c1 c2 zs) {hs : List Int} {l : Nat -> Nat} (hH : eo k m (au hs k m) l) (hsp : bc n (au xs n m) k (au hs k m)) {t b : Nat} (ht : t < k) (hb : b < k) : au zs k k t b = au hs k m t (c2 b) := by
 have hl := (h.2.1.leads hH hsp).2;have := (h.2.2.2.1.herm.unique (hH.pick hl) (h.spEq hsp)).2.2 t ht b;rw [this];unfold r7;rw [if_pos hb]
theorem yH {n m : Nat} (f : Nat -> Int) (g : Nat -> Nat -> Int) (q : Nat -> Int) : (sm n fun r => (sm m fun s => f s * g s r) * q r) = sm m fun s => f s * sm n fun r => g s r * q r := by
 have e1 : (sm n fun r => (sm m fun s => f s * g s r) * q r) = sm n fun r => sm m fun s => f s * (g s r * q r) := ak fun r _ => by
  rw [<- ff];exact ak fun s _ => CH ..
 rw [e1, jN];exact ak fun s _ => bQ ..
theorem gR.form (h : gR n m xs k c1 c2 zs) {hs : List Int} {l : Nat -> Nat} (hH : eo k m (au hs k m) l) (hsp : bc n (au xs n m) k (au hs k m)) {adj : Mx} (ha : ∀ i < k, ∀ j < k, (sm k fun r => au xs n m (c1 i) (c2 r) * adj r j) = cH m xs k c1 c2 * uM i j) {t j : Nat} (ht : t < k) :
 (sm k fun r => (sm k fun b => au zs k k t b * adj b r) * au xs n m (c1 r) j) = cH m xs k c1 c2 * au hs k m t j := by
 obtain ⟨D, hD⟩ := Cs (cH m xs k c1 c2);rw [hD] at ha |-;have h1 := h.1;rw [tw] at h1;obtain ⟨nu, R, d, hb⟩ := h1;have hrow : ∀ i, i < n -> Sp k (fun s => au xs n m (c1 s)) fun j => d * au xs n m i j := fun i hi => hb.AU (fun i j hj => jy hj i) (fun i j hi => gI j hi) hi;have hHt : Sp k (fun s => au xs n m (c1 s)) fun j => d * au hs k m t j := by
  obtain ⟨x, hx⟩ := hsp.2 t ht;refine (Sp.sm (x := x) hrow).congr fun j => ?_;show d * au hs k m t j = _;rw [hx, <- bQ];exact ak fun i _ => by ac_rfl
 obtain ⟨y, hy⟩ := hHt;refine DC hb.d0 ?_;have e1 : ∀ r, r < k -> d * (sm k fun b => au zs k k t b * adj b r) = D * y r := fun r hr => by
  have q1 : d * (sm k fun b => au zs k k t b * adj b r) = sm k fun b => (sm k fun s => y s * au xs n m (c1 s) (c2 b)) * adj b r := by
   rw [<- bQ];exact ak fun b hb' => by
    rw [h.eqH hH hsp ht hb', <- hy (c2 b)];exact (CH ..).symm
  rw [q1, yH];have q2 : (sm k fun s => y s * sm k fun b => au xs n m (c1 s) (c2 b) * adj b r) = sm k fun s => y s * (D * uM s r) := ak fun s hs' => by rw [ha s hs' r hr]
  rw [q2, eH r hr fun s _ hsr => by unfold uM; rw [if_neg hsr]; simp];unfold uM;rw [if_pos rfl, Eg, Dc]
 have e2 : d * (sm k fun r => (sm k fun b => au zs k k t b * adj b r) * au xs n m (c1 r) j) = sm k fun r => D * (y r * au xs n m (c1 r) j) := by
  rw [<- bQ];exact ak fun r hr => by rw [<- CH, e1 r hr, CH]
 rw [e2, bQ, <- hy j]
 ac_rfl
theorem gR.ly {mw : Nat} (h : gR n m xs k c1 c2 zs) (hn : n <= 66) (hb : ∀ x ∈ xs, x.natAbs < W ^ mw) : ∃ hs l, hs.length = k * m /\ eo k m (au hs k m) l /\ bc n (au xs n m) k (au hs k m) := by
 obtain ⟨hs, K, hB, _⟩ := tP (c := m) (m := mw) (n := n) (E := au xs n m) hn (fun i b _ => iS (DF (by unfold W; omega)) hb i b) fun i b hb => gI i hb;obtain ⟨l, hl⟩ := hB.herm;obtain ⟨rfl, _⟩ := h.2.1.leads hl hB.sp;exact ⟨hs, l, hB.len, hl, hB.sp⟩
theorem qQ {r c : Nat} {f : Nat -> Nat -> Int} {i j : Nat} (hi : i < r) (hj : j < c) : gi (aF c f (r * c)) (i * c + j) = f i j := gm f hi hj
theorem gR.formL {mw : Nat} (h : gR n m xs k c1 c2 zs) {hs al : List Int} {l : Nat -> Nat} (hhl : hs.length = k * m) (hH : eo k m (au hs k m) l) (hsp : bc n (au xs n m) k (au hs k m)) (ha : pW k mw (aF k (cC m xs ((List.range k).map c1) ((List.range k).map c2)) (k * k)) al) {q : Nat} (hq : q < k * m) :
 gi (aF m (bM k m (aF k (bM k k zs al) (k * k)) (aF m (cC m xs ((List.range k).map c1) (List.range m)) (k * m))) (k * m)) q = cH m xs k c1 c2 * gi hs q := by
 have hm : 0 < m := by
  rcases Dn m with e | e
  . subst e; omega
  . exact e
 obtain ⟨t, j, ht, hj, rfl⟩ : ∃ t j, t < k /\ j < m /\ q = t * m + j := ⟨q / m, q % m, EO (by rw [CE]; exact hq), Dm _ hm, by rw [CE]; exact (Ds q m).symm⟩;rw [qQ ht hj];have e1 := h.form hH hsp (adj := au al k k) (t := t) (j := j) (fun i hi j hj => by
  have := ha.2.1 i hi j hj;have e : (sm k fun r => au xs n m (c1 i) (c2 r) * au al k k r j) = sm k fun l => au (aF k (cC m xs ((List.range k).map c1) ((List.range k).map c2)) (k * k)) k k i l * au al k k l j := ak fun r hr => by
   rw [qE hi hr];unfold cC;rw [j4 hi, j4 hr, bE (h.1.vV i hi) (h.2.1.vV r hr)]; rfl
  rw [e, this]; rfl) ht
 rw [show gi hs (t * m + j) = au hs k m t j by rw [bE ht hj]; rfl, <- e1];refine ak fun r hr => ?_;rw [qQ ht hr, qQ hr hj];have e2 : bM k k zs al t r = sm k fun b => au zs k k t b * au al k k b r := ak fun b hb => by rw [bE ht hb, bE hb hr]; rfl
 have e3 : cC m xs ((List.range k).map c1) (List.range m) r j = au xs n m (c1 r) j := by
  unfold cC;rw [j4 hr, show (List.range m).getD j 0 = j by simp [hj], bE (h.1.vV r hr) hj]; rfl
 rw [e2, e3]
theorem vk {hs ys : List Int} {l : Nat -> Nat} (hk : k <= n) (hhl : hs.length = k * m) (hH : eo k m (au hs k m) l) (hsp : bc n (au xs n m) k (au hs k m)) (hyl : ys.length = n * m) (hy : ∀ q, gi ys q = if q < k * m then gi hs q else 0) : kX n m xs ys k l := by
 have e : ∀ i j, au ys n m i j = if i < k then au hs k m i j else 0 := fun i j => by
  by_cases hi : i < n /\ j < m
  . rw [bE hi.1 hi.2];have h1 := hy (i * m + j);have h2 : ys.getD (i * m + j) 0 = gi ys (i * m + j) := rfl;rw [h2, h1];by_cases hik : i < k
    . rw [if_pos hik, if_pos (cZ hik hi.2), bE hik hi.2]; rfl
    . rw [if_neg hik, if_neg];have := Cy m (show k <= i by omega);omega
  . have h1 : au ys n m i j = 0 := by unfold au; rw [if_neg hi]
    rw [h1];by_cases hik : i < k
    . rw [if_pos hik];unfold au;rw [if_neg (fun q => hi ⟨by omega, q.2⟩)]
    . rw [if_neg hik]
 refine ⟨hyl, hk, hH.congr (fun a ha b => by rw [e, if_pos ha]), fun i hi b => by rw [e, if_neg Cp], hsp.trans (bc.of_eq fun i hi j => by rw [e, if_pos hi])⟩
end
end Go.Proofs.YtjjlmfmoihooiaaGreat
namespace Go.Proofs.YtjjlmfmoihooiaaGreat
open Go.RowKit
theorem lstNw {w w' : World} {ao : Option Addr} {r c K cap : Nat} {ps : List P4} {xs : List Int} (hl : qD ao K cap ps w') (hn : bX w' ps xs) (hS : ∀ b o, ao = some ⟨b, o, none⟩ -> w.heap.size <= b) (hb : Below w.heap.size w w') : ∃ p : (Option Addr × Nat) × List P4, (Ending.returned (.agg #[.int .i64 (r : Int), .int .i64 (c : Int), .slice ao K cap]) = .returned (.agg #[.int .i64 (r : Int), .int .i64 (c : Int), .slice p.1.1 K p.1.2])) /\ Nw w w' [.jf p.1.1 K p.1.2 p.2, .ns p.2 xs] :=
 ⟨((ao, cap), ps), rfl, hb, fun e he => by
  rcases List.mem_cons.1 he with rfl | he
  . exact ⟨hl, fun b ⟨o, e⟩ => hS b o e⟩
  . rcases List.mem_singleton.1 he with rfl;exact ⟨hn, fun _ h => h.elim⟩, .cons (fun x hx => by rcases List.mem_singleton.1 hx with rfl; exact ⟨fun _ _ _ h => h, fun q => nomatch q⟩) (CM ..)⟩
theorem yG (r c : Nat) (la : Option Addr) (cap L : Nat) (xs : List Int) (w : World) (hr : r <= 64) (hc : c <= 64) (hx : xs.length <= min r c) (hA : aQ w L la xs) (hL : L <= 17592186044415) :
 Calls Tryz.prog 75 #[.int .i64 (r : Int), .int .i64 (c : Int), .slice la xs.length cap] w fun e w' => ∃ p : (Option Addr × Nat) × List P4, e = .returned (.tuple #[.agg #[.int .i64 (r : Int), .int .i64 (c : Int), .slice p.1.1 (r * c) p.1.2], .int .i64 0]) /\ Nw w w' [.jf p.1.1 (r * c) p.1.2 p.2, .ns p.2 (aF c (eO xs) (r * c))] := by
 have s1 : bL (r : Int) = true := by unfold bL; simp; omega
 have s2 : bL (c : Int) = true := by unfold bL; simp; omega
 have hS1 : ∀ w', Calls Tryz.prog 34 #[.int .i64 (r : Int)] w' fun e w'' => e = .returned (.bool true) /\ Below w'.heap.size w' w'' := fun w' => (nY r w').mono fun e w'' ⟨h1, h2⟩ => ⟨by rw [h1, s1], h2 ▸ Below.refl _ _⟩;have hS2 : ∀ w', Calls Tryz.prog 34 #[.int .i64 (c : Int)] w' fun e w'' => e = .returned (.bool true) /\ Below w'.heap.size w' w'' := fun w' => (nY c w').mono fun e w'' ⟨h1, h2⟩ => ⟨by rw [h1, s2], h2 ▸ Below.refl _ _⟩;clear s1 s2;refine bN (S0 := fun _ => False) Tryz.func75 ((Fr.nil _ w).l hA Cq) ?_;refine aA ?_;refine aW fun g5 => ?_;refine aW fun g6 => ?_;refine aC ?_;refine dO ?_;refine cV (fun w' H => hS1 w') ?_;refine aT ?_;refine dG ?_;refine B8 (fun w' H => hS2 w') ?_;refine dG ?_;refine aC ?_;refine kf ?_;refine aA ?_;refine bh ?_;refine dE (minI r c) ?_;obtain ⟨k, hk⟩ := Cs (min r c);rw [hk] at hx |-;clear hk;refine fC ?_;refine aA ?_;refine aT ?_;refine fW ?_;refine cG (α := (Option Addr × Nat) × List P4) (mk := fun p => .agg #[.int .i64 (r : Int), .int .i64 (c : Int), .slice p.1.1 (r * c) p.1.2]) (ens := fun p => [.jf p.1.1 (r * c) p.1.2 p.2, .ns p.2 (aF c (eO xs) (r * c))]) (hne := ⟨((none, 0), [])⟩)
  (fun w' H => (rP 97 (fun _ _ => by go_simp) #[.pointer (some ⟨g5, 0, none⟩)] r c (eO xs) w' hr hc (fun i j w2 hi hj hb => by
   have h1 : aa w' g5 22 [.slice la xs.length cap] := H.m1;have h2 : aQ w' L la xs := H.m2;exact zS i j g5 la cap L xs w2 ((h1.below hb h1.lt).cell 0) (h2.below hb) hL)).mono (by
    rintro e w3 ⟨⟨ao, cap', ps, rfl, hl, hn, hS⟩, hb⟩;exact lstNw hl hn hS hb)) fun q => ?_
 refine sW ?_;refine aC ?_;refine fk fun w' H => ?_;refine ⟨_, _, o0 H.m2, dT, q, rfl, H.below, fun e he => ?_, .cons (fun x hx => by rcases List.mem_singleton.1 hx with rfl; exact ⟨fun _ _ _ h => h, fun q => nomatch q⟩) (CM ..)⟩;rcases List.mem_cons.1 he with rfl | he
 . exact ⟨H.m0, fun b hb => (H.own _ (CC ..) rfl b hb).elim (fun h => h.elim) id⟩
 . rcases List.mem_singleton.1 he with rfl;exact ⟨H.m1, fun _ h => h.elim⟩
theorem yB (r c : Nat) (w : World) (hr : r <= 64) (hc : c <= 64) :
 Calls Tryz.prog 39 #[.int .i64 (r : Int), .int .i64 (c : Int)] w fun e w' => ∃ p : (Option Addr × Nat) × List P4, e = .returned (.tuple #[.agg #[.int .i64 (r : Int), .int .i64 (c : Int), .slice p.1.1 (r * c) p.1.2], .int .i64 0]) /\ Nw w w' [.jf p.1.1 (r * c) p.1.2 p.2, .ns p.2 (aF c (eO []) (r * c))] := by
 have HD := H5 (fun w' => yG r c none 0 0 [] w' hr hc (Cx _) (fun h => absurd h (Dv _)) Cp);refine bN (S0 := fun _ => False) Tryz.func39 (Fr.nil _ w) ?_;refine aA ?_;refine aW fun g4 => ?_;refine aC ?_;refine rW [] ?_;refine aT ?_;refine cG (α := (Option Addr × Nat) × List P4) (mk := fun p => .tuple #[.agg #[.int .i64 (r : Int), .int .i64 (c : Int), .slice p.1.1 (r * c) p.1.2], .int .i64 0]) (ens := fun p => [.jf p.1.1 (r * c) p.1.2 p.2, .ns p.2 (aF c (eO []) (r * c))]) (hne := ⟨((none, 0), [])⟩) (fun w' H => HD.out w') fun q => ?_;refine aT ?_;refine sW ?_;refine aC ?_;refine fk fun w' H => ?_;refine ⟨_, _, o0 (H.all (.row g4 24 [.int .i64 (r : Int), .int .i64 (c : Int), .slice q.1.1 (r * c) q.1.2]) Cq), dT, q, rfl, H.below, fun e he => ?_, .cons (fun x hx => by rcases List.mem_singleton.1 hx with rfl; exact ⟨fun _ _ _ h => h, fun q => nomatch q⟩) (CM ..)⟩;rcases List.mem_cons.1 he with rfl | he
 . exact ⟨H.m0, fun b hb => (H.own _ (CC ..) rfl b hb).elim (fun h => h.elim) id⟩
 . rcases List.mem_singleton.1 he with rfl;exact ⟨H.m1, fun _ h => h.elim⟩
theorem nN (v u : Value) (x y : Int) (w : World) (h1 : aL w v x) (h2 : aL w u y) (hx : ag x.natAbs <= 17592186044415) (hy : ag y.natAbs <= 17592186044415) :
 Calls Tryz.prog 32 #[v, u] w fun e w' => e = .returned (.bool (decide (x = y))) /\ Below w.heap.size w w' := by
 obtain ⟨ao1, cap1, rfl, hW1, _⟩ := h1.least;obtain ⟨ao2, cap2, rfl, hW2, _⟩ := h2.least;have hAL := ug x y;obtain ⟨n1, hn1⟩ := Cs (decide (x < 0));obtain ⟨n2, hn2⟩ := Cs (decide (y < 0));obtain ⟨m, hm⟩ := Cs (decide (fM x.natAbs = fM y.natAbs));have hS := fun w' => zn ao1 ao2 (ag x.natAbs) cap1 (ag y.natAbs) cap2 (fM x.natAbs) (fM y.natAbs) w';simp only [hm] at hS;obtain ⟨r, hr⟩ := Cs (decide (x = y));rw [hn1, hn2, hm, hr] at hAL;rw [hn1, hn2, hr];refine bN (S0 := fun _ => False) Tryz.func32 (Fr.nil _ w) ?_;refine aA ?_;refine aW fun g2 => ?_;refine aW fun g3 => ?_;refine aC ?_;refine rW [] ?_;refine bh ?_;clear hn1 hn2 hm hr;by_cases e : n1 = n2
 . subst e;have hAL : m = r := by simpa using hAL
   subst hAL;refine dB true ?_;refine dW ?_;refine oz ?_;refine dG ?_;refine B8 (fun w' H => hS w' (hW1.below H.below) (hW2.below H.below) rfl rfl hx hy) ?_;refine dW ?_;refine aC ?_;refine dZ fun w' H => ?_;exact ⟨_, dT, rfl, H.below⟩
 . have hr : r = false := by rw [<- hAL]; cases n1 <;> cases n2 <;> simp_all
   subst hr;refine dB false ?_;refine dW ?_;refine AP ?_;refine uC ?_;refine dW ?_;refine aC ?_;refine dZ fun w' H => ?_;exact ⟨_, dT, rfl, H.below⟩
theorem uu (aoA aoB : Option Addr) (cA cB : Nat) (xs ys : List Int) (w : World) (hA : fq w aoA xs) (hB : fq w aoB ys) (hmA : xs.length <= 8796093022208) (hmB : ys.length <= 8796093022208)
 (hx : ∀ x ∈ xs, ag x.natAbs <= 17592186044415) (hy : ∀ x ∈ ys, ag x.natAbs <= 17592186044415) :
 Calls Tryz.prog 45 #[.slice aoA xs.length cA, .slice aoB ys.length cB] w fun e w' => e = .returned (.bool (decide (xs = ys))) /\ Below w.heap.size w w' := by
 refine bN (S0 := fun _ => False) Tryz.func45 (((Fr.nil _ w).ln hA Cq).ln hB (by simp [En.wr, En.jn])) ?_;refine aA ?_;refine aC ?_;refine rW [] ?_;refine bh ?_;by_cases hs : xs.length = ys.length
 . have HS := H5 hs;have hne : ((xs.length : Int) != (ys.length : Int)) = false := by rw [hs]; simp
   clear hs;refine fC ?_;refine aA ?_;refine aC ?_;refine cF (X := Nat) (fun i => i <= xs.length /\ ∀ k, k < i -> gi xs k = gi ys k) (fun i => xs.length - i) (fun i => [(5, .int .i64 (i : Int)), (0, .slice aoA xs.length cA), (1, .slice aoB ys.length cB)]) (fun _ => [.jn aoB ys, .jn aoA xs]) 0 ⟨Cx _, fun k h => absurd h (Dv k)⟩ fun i hz => ?_;obtain ⟨hi, hag⟩ := hz;by_cases h : i < xs.length
   . have h' : i < ys.length := by have := HS.out; omega
     obtain ⟨bx, ox, rfl⟩ := hA.pos h;obtain ⟨b_, oy, rfl⟩ := hB.pos h';have HX := H5 (hx _ (dP h));have HY := H5 (hy _ (dP h'));have HH := H5 h;refine aA ?_;refine aT ?_;refine dW ?_;refine kq ?_;refine Ba (xs := xs) (b := bx) (o := ox) i Cq h fun p => ?_;refine Ba (xs := ys) (b := b_) (o := oy) i Cq h' fun q => ?_;refine aA ?_;refine bh ?_;refine bh ?_;refine cV (fun w' H => nN (av p) (av q) _ _ w' H.m5 H.m2 HX.out HY.out) ?_;by_cases e : gi xs i = gi ys i
     . have HE := H5 e;rw [decide_eq_true e];clear e;refine aC ?_;refine kf ?_;refine aA ?_;refine dW ?_;refine dE (dL (a := i) Cp) ?_;refine aC ?_;exact cD (i + 1) ⟨⟨h, fun k hk => by
        by_cases e : k = i
        . subst e; exact HE.out
        . exact hag k Cp⟩, by omega⟩
     . have hd : decide (xs = ys) = false := by
        rw [decide_eq_false_iff_not]; intro h; exact e (by rw [h])
       rw [decide_eq_false e, hd];refine aC ?_;refine nM ?_;refine aA ?_;refine aC ?_;refine dZ fun w' H => ?_;exact ⟨_, dT, rfl, H.below⟩
   . obtain rfl : i = xs.length := by omega
     have hd : decide (xs = ys) = true := by
      rw [decide_eq_true_iff];refine Dx HS.out fun j h1 h2 => ?_;have := hag j h1
      rwa [cU h1, cU h2] at this
     rw [hd];refine aA ?_;refine aT ?_;refine dW ?_;refine fC ?_;refine aA ?_;refine aC ?_;refine dZ fun w' H => ?_;exact ⟨_, dT, rfl, H.below⟩
 . have hne : ((xs.length : Int) != (ys.length : Int)) = true := by rw [bne_iff_ne]; omega
   have hd : decide (xs = ys) = false := by
    rw [decide_eq_false_iff_not]; intro h; exact hs (by rw [h])
   rw [hd];clear hs;refine kq ?_;refine aA ?_;refine aC ?_;refine dZ fun w' H => ?_;exact ⟨_, dT, rfl, H.below⟩
theorem tJ (r c : Nat) (aoA aoB : Option Addr) (cA cB : Nat) (xs ys : List Int) (w : World) (hA : fq w aoA xs) (hB : fq w aoB ys) (hmA : xs.length <= 8796093022208) (hmB : ys.length <= 8796093022208)
 (hx : ∀ x ∈ xs, ag x.natAbs <= 17592186044415) (hy : ∀ x ∈ ys, ag x.natAbs <= 17592186044415) :
 Calls Tryz.prog 12 #[.agg #[.int .i64 (r : Int), .int .i64 (c : Int), .slice aoA xs.length cA], .agg #[.int .i64 (r : Int), .int .i64 (c : Int), .slice aoB ys.length cB]] w fun e w' => e = .returned (.bool (decide (xs = ys))) /\ Below w.heap.size w w' := by
 have hK := fun w' (hA : fq w' aoA xs) (hB : fq w' aoB ys) => uu aoA aoB cA cB xs ys w' hA hB hmA hmB hx hy;refine bN (S0 := fun _ => False) Tryz.func12 (Fr.nil _ w) ?_;refine aA ?_;refine aW fun g2 => ?_;refine aW fun g3 => ?_;refine aC ?_;refine rW [] ?_;refine bh ?_;refine dB true ?_;refine dW ?_;refine oz ?_;refine dG ?_;refine mQ true ?_;refine aT ?_;refine oz ?_;refine dG ?_;refine B8 (fun w' H => hK w' (hA.below H.below) (hB.below H.below)) ?_;refine dW ?_;refine aC ?_;refine dZ fun w' H => ?_;exact ⟨_, dT, rfl, H.below⟩
theorem ve (n : Nat) (w : World) (h0 : 0 < n) (hW : n < W) : Calls Tryz.prog 33 #[.int .u64 (n : Int)] w fun e w' => (∃ v', e = .returned v' /\ ai w' w.heap.size v' (n : Int)) /\ Below w.heap.size w w' := by
 refine bN (S0 := fun _ => False) Tryz.func33 (Fr.nil _ w) ?_;refine aA ?_;refine aW fun g2 => ?_;refine eW ?_;refine aA ?_;refine dW ?_;refine bW (m := 1) fun g4 => ?_;refine dW ?_;refine sW ?_;refine eQ ?_;refine dZ fun w' H => ?_;have hown := aa.own (ws := [n]) (B := w.heap.size) (n := 1) (cap := 1) H.m0 (Ok.one hW) ((H.own _ (CC ..) rfl _ rfl).elim (fun h => h.elim) id) Cq rfl (by unfold maxLen; omega);have h1 := ai.mk (m := n) false (by rw [iZ Cp hW, yM Cp hW]; exact hown);rw [iZ Cp hW] at h1;exact ⟨_, jh H.m1, ⟨_, rfl, h1⟩, H.below⟩
theorem qt {A : Mx} {k : Nat} {c : Nat -> Nat} (h : fN 1 1 A k c) (hA : A 0 0 ≠ 0) : k = 1 /\ c 0 = 0 := by
 obtain ⟨nu, R, d, h⟩ := h;have hk := h.kn;have h1 : k = 1 := by
  rcases Dn k with e | e
  . exfalso;subst e;have h2 := h.z 0 (Ct _) Cp 0 Cp;have h3 := h.row 0 (Ct _) Cp 0 Cp;have h4 : nu 0 = 0 := by have := h.lt 0 Cp; omega
    rw [h2, h4] at h3;have h5 : mn 0 A nu c 0 0 = A 0 0 := by
     show 0 + et 0 * A (if 0 < 0 then nu 0 else 0) (if 0 < 0 then c 0 else 0) * 1 = A 0 0;rw [if_neg (DA 0), if_neg (DA 0), show et 0 = 1 by decide]; omega
    exact hA (h5.symm.trans h3.symm)
  . omega
 subst h1;exact ⟨rfl, by have := h.csl 0 Cp; omega⟩
theorem AS {k : Nat} {c1 c2 : Nat -> Nat} (h1 : fN 1 1 (au (kY 1 1 [-6]) 1 1) k c1) (h2 : fN 1 1 (au [-6] 1 1) k c2) : k = 1 /\ c1 0 = 0 /\ c2 0 = 0 /\ cH 1 [-6] k c1 c2 = -6 := by
 obtain ⟨_, e1⟩ := qt h1 Cr;obtain ⟨rfl, e2⟩ := qt h2 Cr;refine ⟨rfl, e1, e2, ?_⟩;unfold cH;rw [show (List.range 1).map c1 = [0] by simp [Ey, e1], show (List.range 1).map c2 = [0] by simp [Ey, e2]];decide
theorem vol6 {k : Nat} {c1 c2 : Nat -> Nat} {zs : List Int} (h : gR 1 1 [-6] k c1 c2 zs) : xZ (au zs k k) k = 6 := by
 obtain ⟨h1, h2, h3⟩ := h;obtain ⟨rfl, e1, e2, e3⟩ := AS h1 h2;rw [e3, show (List.range 1).map c2 = [0] by simp [Ey, e2]] at h3;have h4 := AM (n := 1) (r := 1) (d := 6) Cp h3.2.1 (fun t ht i => by
  obtain rfl : t = 0 := by omega
  by_cases hi : i < 1
  . obtain rfl : i = 0 := by omega
    decide
  . unfold au; rw [if_neg Cp]; exact Int.dvd_zero _) (fun t ht i hi => by unfold au; rw [if_neg Cp]) 0 Cp 0
 show 1 * au zs 1 1 0 0 = 6;rw [h4]; simp
theorem oi (w : World) : Calls Tryz.prog 6 #[] w fun e w' => e = .returned (.bool true) /\ Below w.heap.size w w' := by
 have hV := fun cap ao w' (h : aQ w' 1 ao [-6]) => Ax 1 1 1 1 cap ao [-6] w' Cp Cp Cp h rfl rfl (fun k1 c1 k2 c2 h1 h2 => by rw [(qt h1 Cr).1, (qt h2 Cr).1]) (fun k c1 c2 h1 h2 => by rw [(AS h1 h2).2.2.2]; decide);have HV := H5 hV;clear hV;refine bN (S0 := fun _ => False) Tryz.func6 (Fr.nil _ w) ?_;refine aA ?_;refine aC ?_;refine rW [] ?_;refine bW (m := 1) fun g4 => ?_;refine dW ?_;refine bW (m := 1) fun g6 => ?_;refine dW ?_;refine uz (x := 6) (z := .int .i64 0) (fun w' H => (HV.out 1 (some ⟨g6, 0, none⟩) w' (by
  have a1 : aa w' g4 60 [.int .u64 6] := H.all (.row g4 60 [.int .u64 6]) Cq;have a2 : aa w' g6 37 [.bool true, .slice (some ⟨g4, 0, none⟩) 1 1] := H.all (.row g6 37 [.bool true, .slice (some ⟨g4, 0, none⟩) 1 1]) Cq;have hown := aa.own (ws := [6]) (B := w.heap.size) (n := 1) (cap := 1) a1 (Ok.one (by unfold W; omega)) ((H.own (.row g4 60 [.int .u64 6]) Cq rfl _ rfl).elim (fun h => h.elim) id) Cq rfl (by unfold maxLen; omega);have h1 := ai.mk (m := 6) true (by rw [iZ Cp (by unfold W; omega), yM Cp (by unfold W; omega)]; exact hown);rw [iZ Cp (by unfold W; omega)] at h1;intro _;refine ⟨g6, 0, rfl, a2.lt, fun i hi => ?_⟩;obtain rfl : i = 0 := by simpa using hi
  exact ⟨(true, some ⟨g4, 0, none⟩, 1, 1), a2.cell 0, a2.cell 1, show ah w' 1 _ (-6) from ai.int h1 (by show ag 6 <= 1; rw [iZ Cp (by unfold W; omega)]; omega)⟩)).mono fun e w'' ⟨⟨k, c1, c2, zs, v, hn, he, hv⟩, hb⟩ => by rw [vol6 hn] at hv; exact ⟨⟨v, he, hv⟩, hb⟩) fun p => ?_
 refine aT ?_;refine dW ?_;refine aW fun g1 => ?_;refine sG ?_;refine aC ?_;refine dO ?_;refine dB true ?_;refine dW ?_;refine dG ?_;refine cGg (mk := av) (ens := fun p => [.own w.heap.size (av p) ((6 : Nat) : Int)]) (fun w' H => cNo' (ve 6 w' Cp (by unfold W; omega)) H.size) fun q => ?_;refine B8 (v := .bool true) (fun w' H => by have := nN (av p) (av q) 6 6 w' (ai.num (H.all (.own w.heap.size (av p) 6) (by simp [av]))) (ai.num (H.all (.own w.heap.size (av q) 6) (by simp [av]))) (by show ag 6 <= _; rw [iZ Cp (by unfold W; omega)]; omega) (by show ag 6 <= _; rw [iZ Cp (by unfold W; omega)]; omega); exact this) ?_;refine dW ?_;refine aC ?_;refine dZ fun w' H => ?_;exact ⟨_, dT, rfl, H.below⟩
theorem zE (r c : Int) (ao : Option Addr) (len cap : Nat) (w : World) (hr : -9223372036854775808 <= r /\ r <= 9223372036854775807) (hc : -9223372036854775808 <= c /\ c <= 9223372036854775807) (hs : ba r c len = false) :
 Calls Tryz.prog 79 #[.agg #[.int .i64 r, .int .i64 c, .slice ao len cap]] w fun e w' => e = .returned (.tuple #[.agg #[.int .i64 0, .int .i64 0, .slice none 0 0], .int .i64 1]) /\ Below w.heap.size w w' := by
 have hC := fun w' => cW r c ao len cap w' hr hc;rw [iF hs] at hC;have HC := H5 hC;clear hC hs;refine bN (S0 := fun _ => False) Tryz.func79 (Fr.nil _ w) ?_;refine aA ?_;refine aW fun g1 => ?_;refine aW fun g2 => ?_;refine aC ?_;refine dO ?_;refine cV (v := .int .i64 1) (fun w' H => HC.out w') ?_;refine aC ?_;refine dO ?_;refine kq ?_;refine aA ?_;refine aT ?_;refine sW ?_;refine aC ?_;refine fk fun w' H => ?_;exact ⟨_, _, o0 (H.all (.row g2 24 [.int .i64 0, .int .i64 0, .slice none 0 0]) Cq), dT, rfl, H.below⟩
theorem wh (r c : Int) (ao : Option Addr) (len cap : Nat) (w : World) (hr : -9223372036854775808 <= r /\ r <= 9223372036854775807) (hc : -9223372036854775808 <= c /\ c <= 9223372036854775807) (hs : ba r c len = false) :
 Calls Tryz.prog 46 #[.agg #[.int .i64 r, .int .i64 c, .slice ao len cap]] w fun e w' => e = .returned (.tuple #[.slice none 0 0, .int .i64 1]) /\ Below w.heap.size w w' := by
 have HC := H5 (fun w' => zE r c ao len cap w' hr hc hs);clear hs;refine bN (S0 := fun _ => False) Tryz.func46 (Fr.nil _ w) ?_;refine aA ?_;refine aW fun g1 => ?_;refine dW ?_;refine aC ?_;refine dO ?_;refine cV (v := .tuple #[.agg #[.int .i64 0, .int .i64 0, .slice none 0 0], .int .i64 1]) (fun w' H => HC.out w') ?_;refine aT ?_;refine dW ?_;refine aW fun g4 => ?_;refine sG ?_;refine aC ?_;refine dO ?_;refine kq ?_;refine aA ?_;refine aT ?_;refine aC ?_;refine fk fun w' H => ?_;exact ⟨_, _, dT, dT, rfl, H.below⟩
theorem uB (r c : Int) (ao : Option Addr) (len cap : Nat) (w : World) (hr : -9223372036854775808 <= r /\ r <= 9223372036854775807) (hc : -9223372036854775808 <= c /\ c <= 9223372036854775807) (hs : ba r c len = false) :
 Calls Tryz.prog 15 #[.agg #[.int .i64 r, .int .i64 c, .slice ao len cap]] w fun e w' => e = .returned (.tuple #[.slice none 0 0, .slice none 0 0, .agg #[.bool false, .slice none 0 0], .int .i64 1]) /\ Below w.heap.size w w' := by
 have HC := H5 (fun w' => wh r c ao len cap w' hr hc hs);clear hs;refine bN (S0 := fun _ => False) Tryz.func15 (Fr.nil _ w) ?_;refine aA ?_;refine aW fun g1 => ?_;refine aT ?_;refine aW fun g4 => ?_;refine aC ?_;refine dO ?_;refine cV (v := .tuple #[.slice none 0 0, .int .i64 1]) (fun w' H => HC.out w') ?_;refine bh ?_;refine aC ?_;refine dO ?_;refine kq ?_;refine aA ?_;refine bh ?_;refine sW ?_;refine aC ?_;refine fin4 fun w' H => ?_;exact ⟨_, _, _, _, dT, dT, jh H.m0, dT, rfl, H.below⟩
theorem vK (r c : Int) (ao : Option Addr) (len cap : Nat) (pd : P4) (w : World) (hr : -9223372036854775808 <= r /\ r <= 9223372036854775807) (hc : -9223372036854775808 <= c /\ c <= 9223372036854775807) (hs : ba r c len = false) :
 Calls Tryz.prog 28 #[.agg #[.int .i64 r, .int .i64 c, .slice ao len cap], av pd] w fun e w' => e = .returned (.tuple #[.agg #[.int .i64 0, .int .i64 0, .slice none 0 0], .int .i64 1]) /\ Below w.heap.size w w' := by
 have hC := fun w' => cW r c ao len cap w' hr hc;rw [iF hs] at hC;have HC := H5 hC;clear hC hs;refine bN (S0 := fun _ => False) Tryz.func28 (Fr.nil _ w) ?_;refine aA ?_;refine aW fun g2 => ?_;refine aW fun g3 => ?_;refine aW fun g4 => ?_;refine aC ?_;refine dO ?_;refine cV (v := .int .i64 1) (fun w' H => HC.out w') ?_;refine aC ?_;refine dO ?_;refine kq ?_;refine aA ?_;refine aT ?_;refine sW ?_;refine aC ?_;refine fk fun w' H => ?_;exact ⟨_, _, o0 (H.all (.row g4 24 [.int .i64 0, .int .i64 0, .slice none 0 0]) Cq), dT, rfl, H.below⟩
theorem oW (r c : Int) (ao : Option Addr) (len cap : Nat) (w : World) (hr : -9223372036854775808 <= r /\ r <= 9223372036854775807) (hc : -9223372036854775808 <= c /\ c <= 9223372036854775807) (hs : ba r c len = false) :
 Calls Tryz.prog 35 #[.agg #[.int .i64 r, .int .i64 c, .slice ao len cap]] w fun e w' => e = .returned (.tuple #[.agg #[.int .i64 0, .int .i64 0, .slice none 0 0], .slice none 0 0, .slice none 0 0, .agg #[.bool false, .slice none 0 0], .int .i64 1]) /\ Below w.heap.size w w' := by
 have HC := H5 (fun w' => uB r c ao len cap w' hr hc hs);clear hs;refine bN (S0 := fun _ => False) Tryz.func35 (Fr.nil _ w) ?_;refine aA ?_;refine aW fun g1 => ?_;refine aW fun g2 => ?_;refine aT ?_;refine aW fun g5 => ?_;refine aC ?_;refine dO ?_;refine cV (v := .tuple #[.slice none 0 0, .slice none 0 0, .agg #[.bool false, .slice none 0 0], .int .i64 1]) (fun w' H => HC.out w') ?_;refine bh ?_;refine aT ?_;refine dW ?_;refine sW ?_;refine aC ?_;refine dO ?_;refine kq ?_;refine aA ?_;refine aT ?_;refine dW ?_;refine sW ?_;refine aT ?_;refine sW ?_;refine aC ?_;refine fin5 fun w' H => ?_;exact ⟨_, _, _, _, _, o0 (H.all (.row g2 24 [.int .i64 0, .int .i64 0, .slice none 0 0]) Cq), dT, dT, jh (H.all (.row g5 37 [.bool false, .slice none 0 0]) Cq), dT, rfl, H.below⟩
theorem zd (r c : Int) (ao : Option Addr) (len cap : Nat) (w : World) (hr : -9223372036854775808 <= r /\ r <= 9223372036854775807) (hc : -9223372036854775808 <= c /\ c <= 9223372036854775807) (hs : ba r c len = false) :
 Calls Tryz.prog 9 #[.agg #[.int .i64 r, .int .i64 c, .slice ao len cap]] w fun e w' => e = .returned (.tuple #[.agg #[.int .i64 0, .int .i64 0, .slice none 0 0], .int .i64 1]) /\ Below w.heap.size w w' := by
 have HC := H5 (fun w' => oW r c ao len cap w' hr hc hs);clear hs;refine bN (S0 := fun _ => False) Tryz.func9 (Fr.nil _ w) ?_;refine aA ?_;refine aW fun g1 => ?_;refine aW fun g2 => ?_;refine aC ?_;refine dO ?_;refine cV (v := .tuple #[.agg #[.int .i64 0, .int .i64 0, .slice none 0 0], .slice none 0 0, .slice none 0 0, .agg #[.bool false, .slice none 0 0], .int .i64 1]) (fun w' H => HC.out w') ?_;refine bh ?_;refine aT ?_;refine aW fun g4 => ?_;refine aW fun g7 => ?_;refine sG ?_;refine aT ?_;refine sG ?_;refine aC ?_;refine dO ?_;refine kq ?_;refine aA ?_;refine aT ?_;refine sW ?_;refine aC ?_;refine fk fun w' H => ?_;exact ⟨_, _, o0 (H.all (.row g2 24 [.int .i64 0, .int .i64 0, .slice none 0 0]) Cq), dT, rfl, H.below⟩
theorem By (r c : Int) (ao : Option Addr) (len cap : Nat) (w : World) (hr : -9223372036854775808 <= r /\ r <= 9223372036854775807) (hc : -9223372036854775808 <= c /\ c <= 9223372036854775807) (hs : ba r c len = false) :
 Calls Tryz.prog 13 #[.agg #[.int .i64 r, .int .i64 c, .slice ao len cap]] w fun e w' => e = .returned (.tuple #[.agg #[.bool false, .slice none 0 0], .int .i64 1]) /\ Below w.heap.size w w' := by
 have HC := H5 (fun w' => oW r c ao len cap w' hr hc hs);clear hs;refine bN (S0 := fun _ => False) Tryz.func13 (Fr.nil _ w) ?_;refine aA ?_;refine aW fun g1 => ?_;refine aW fun g2 => ?_;refine aC ?_;refine dO ?_;refine cV (v := .tuple #[.agg #[.int .i64 0, .int .i64 0, .slice none 0 0], .slice none 0 0, .slice none 0 0, .agg #[.bool false, .slice none 0 0], .int .i64 1]) (fun w' H => HC.out w') ?_;refine bh ?_;refine aT ?_;refine aW fun g4 => ?_;refine aW fun g7 => ?_;refine sG ?_;refine aT ?_;refine sG ?_;refine aC ?_;refine dO ?_;refine kq ?_;refine aA ?_;refine aT ?_;refine sW ?_;refine aC ?_;refine fk fun w' H => ?_;exact ⟨_, _, jh (H.all (.row g2 37 [.bool false, .slice none 0 0]) Cq), dT, rfl, H.below⟩
theorem oR (w : World) (L : Nat) : ah w L (.agg #[.bool false, .slice none 0 0]) 0 := ai.int (ai.zero w 0) (by simp [bb])
theorem AJ (r c : Int) (ao : Option Addr) (len cap : Nat) (w : World) (hr : -9223372036854775808 <= r /\ r <= 9223372036854775807) (hc : -9223372036854775808 <= c /\ c <= 9223372036854775807) (hs : ba r c len = false) :
 Calls Tryz.prog 14 #[.agg #[.int .i64 r, .int .i64 c, .slice ao len cap]] w fun e w' => (∃ v, e = .returned (.tuple #[v, .int .i64 1]) /\ ai w' w.heap.size v 0) /\ Below w.heap.size w w' := by
 have HC := H5 (fun w' => uB r c ao len cap w' hr hc hs);clear hs;refine bN (S0 := fun _ => False) Tryz.func14 (Fr.nil _ w) ?_;refine aA ?_;refine aW fun g1 => ?_;refine aW fun g2 => ?_;refine aC ?_;refine dO ?_;refine cV (v := .tuple #[.slice none 0 0, .slice none 0 0, .agg #[.bool false, .slice none 0 0], .int .i64 1]) (fun w' H => HC.out w') ?_;refine bh ?_;refine dW ?_;refine aW fun g6 => ?_;refine aT ?_;refine sG ?_;refine aC ?_;refine dO ?_;refine cN (x := ((0 : Nat) : Int)) (fun w' H => lN _ 0 w' (oR w' _)) fun p => ?_;refine dW ?_;refine sW ?_;refine aC ?_;refine fk fun w' H => ?_;exact ⟨_, _, jh (H.all (.row g2 37 [.bool p.1, .slice p.2.1 p.2.2.1 p.2.2.2]) Cq), dT, ⟨_, rfl, H.all (.own w.heap.size (av p) ((0 : Nat) : Int)) (by simp [av])⟩, H.below⟩
theorem AG (r c : Int) (ao : Option Addr) (len cap : Nat) (w : World) (hr : -9223372036854775808 <= r /\ r <= 9223372036854775807) (hc : -9223372036854775808 <= c /\ c <= 9223372036854775807) (hs : ba r c len = false) :
 Calls Tryz.prog 8 #[.agg #[.int .i64 r, .int .i64 c, .slice ao len cap]] w fun e w' => e = .returned (.bool true) /\ Below w.heap.size w w' := by
 have HC := H5 (Cv (fun pd w' => vK r c ao len cap pd w' hr hc hs) (Cv (fun w' => zd r c ao len cap w' hr hc hs) (Cv (fun w' => By r c ao len cap w' hr hc hs) (fun w' => AJ r c ao len cap w' hr hc hs))));clear hs;refine bN (S0 := fun _ => False) Tryz.func8 (Fr.nil _ w) ?_;refine aA ?_;refine aW fun g1 => ?_;refine aC ?_;refine dO ?_;refine cN (x := ((1 : Nat) : Int)) (fun w' H => ve 1 w' Cp (by unfold W; omega)) fun p1 => ?_;refine cV (v := .tuple #[.agg #[.int .i64 0, .int .i64 0, .slice none 0 0], .int .i64 1]) (fun w' H => HC.out.1 p1 w') ?_;refine aT ?_;refine dW ?_;refine aW fun g3 => ?_;refine sG ?_;refine aC ?_;refine dO ?_;refine cV (v := .tuple #[.agg #[.int .i64 0, .int .i64 0, .slice none 0 0], .int .i64 1]) (fun w' H => HC.out.2.1 w') ?_;refine aT ?_;refine dW ?_;refine aW fun g5 => ?_;refine sG ?_;refine aC ?_;refine dO ?_;refine cV (v := .tuple #[.agg #[.bool false, .slice none 0 0], .int .i64 1]) (fun w' H => HC.out.2.2.1 w') ?_;refine aT ?_;refine dW ?_;refine aW fun g7 => ?_;refine sG ?_;refine aC ?_;refine dO ?_;refine uz (x := 0) (z := .int .i64 1) (fun w' H => HC.out.2.2.2 w') fun p2 => ?_;refine aT ?_;refine dW ?_;refine aW fun g9 => ?_;refine sG ?_;refine aC ?_;refine dO ?_;refine dB true ?_;refine dW ?_;refine dG ?_;refine mQ true ?_;refine aT ?_;refine dG ?_;refine mQ true ?_;refine aT ?_;refine dG ?_;refine mQ true ?_;refine aT ?_;refine oz ?_;refine mQ true ?_;refine aT ?_;refine dG ?_;refine B8 (v := .int .i64 0) (fun w' H => cO _ 0 w' (oR w' _)) ?_;refine mQ true ?_;refine aT ?_;refine dG ?_;refine B8 (v := .int .i64 0) (fun w' H => cO (av p2) 0 w' (ai.int (H.all (.own w.heap.size (av p2) 0) (by simp [av])) (by simp [bb]))) ?_;refine mQ true ?_;refine dW ?_;refine aC ?_;refine dZ fun w' H => ?_;exact ⟨_, dT, rfl, H.below⟩
section
variable {P : Program} {Q : Exit -> Act -> World -> Prop} {ds : List Deferred} {S0 : Nat -> Prop} {w0 : World} {n : Nat} {ls : List (Nat × Value)} {es : List En} {c : Code}
theorem wU {ao : Option Addr} {K cap : Nat} {ps : List P4} (hK : 0 < K) (k : ∀ b tl, ao = some ⟨b, 0, none⟩ -> aN tl -> ps.length = K -> fg ds P n S0 w0 c Q ls (.row b 37 (rn ps tl) :: es)) : fg ds P n S0 w0 c Q ls (.jf ao K cap ps :: es) := fun a w ha hw => by
 obtain ⟨h1, h2, ⟨_, h3⟩ | ⟨b, tl, rfl, ht, hr, _⟩⟩ := (hw.m0 : qD ao K cap ps w)
 . omega
 . exact k b tl rfl ht h1 a w ha (hw.o6 (X := [.row b 37 (rn ps tl)]) rfl (fun x hx => by
    rcases List.mem_singleton.1 hx with rfl;exact ⟨hr, fun b' e => ⟨0, by cases e; rfl⟩⟩) (CM ..))
end
theorem sY {m K : Nat} (q : Nat) : gi (aF m (eO []) K) q = 0 := by
 unfold gi;rw [List.getD_eq_getElem?_getD];cases e : (aF m (eO []) K)[q]? with
 | none => rfl
 | some x =>
  have h := Fe e;unfold aF at h;obtain ⟨t, _, rfl⟩ := List.mem_map.1 h;show eO [] _ _ = 0;unfold eO;split <;> first | rfl | simp
def oF (n m : Nat) (xs zs : List Int) : Prop := ∃ k l, kX n m xs zs k l
theorem ye (n m nm mw cap : Nat) (ao : Option Addr) (xs : List Int) (w : World) (hn : n <= 64) (hm : m <= 64) (hmw : mw <= 1048577) (hA : aQ w mw ao xs) (hs : xs.length = n * m) (hnm : xs.length = nm) :
 Calls Tryz.prog 9 #[.agg #[.int .i64 (n : Int), .int .i64 (m : Int), .slice ao nm cap]] w fun e w' => (∃ p : (Option Addr × Nat) × List Int, e = .returned (.tuple #[.agg #[.int .i64 (n : Int), .int .i64 (m : Int), .slice p.1.1 (n * m) p.1.2], .int .i64 0]) /\ fq w' p.1.1 p.2 /\ oF n m xs p.2 /\ ∀ b o, p.1.1 = some ⟨b, o, none⟩ -> w.heap.size <= b) /\ Below w.heap.size w w' := by
 have hxb := iU hA;have hwx : ∀ x ∈ xs, ag x.natAbs <= mw := fun x hx => an (hxb x hx);have c1 := fun w' (h : aQ w' mw ao xs) => pU n m nm mw cap ao xs w' hn hm hmw h hs hnm (fun _ _ _ _ h1 h2 => h1.rank h2) (fun _ _ _ h1 h2 => h1.core h2);have c2 := fun k1 q1 k2 q2 ro co (rs cs : List Nat) w' a1 a2 (a3 : aQ w' mw ao xs) a4 a5 a6 a7 a8 a9 => qd n m nm cap k1 q1 k2 q2 mw ao ro co rs cs xs w' a1 a2 a3 Cp a4 a5 hs hnm a6 a7 hn hm a8 a9;obtain ⟨B1, hB1⟩ : ∃ B, 64 * (mw + 1) = B := ⟨_, rfl⟩;obtain ⟨B2, hB2⟩ : ∃ B, B1 + 66 * (mw + 3) + 1 = B := ⟨_, rfl⟩;obtain ⟨B3, hB3⟩ : ∃ B, B2 + mw + 1 = B := ⟨_, rfl⟩;have hb1 : B1 <= 100000000 := by omega
 have hb2 : B2 <= 300000000 := by omega
 have hb3 : B3 <= 400000000 := by omega
 have c3 := fun k c1 c2 zs (h : gR n m xs k c1 c2 zs) => h.ly Cp hxb;have c4 : ∀ k c1 c2 zs, gR n m xs k c1 c2 zs -> ∀ x ∈ zs, ag x.natAbs <= B1 := fun k c1 c2 zs h => by
  rw [<- hB1];exact h.2.2.wl (kU (Cw (fN.lt h.2.1).1 hn) hwx)
 have HC := H5 (Cv c1 (Cv c2 (Cv c3 (Cv c4 (Cv hwx (Cv hB1 (Cv hB2 hB3)))))));clear c1 c2 c3 c4 hwx hxb hs hnm hB1 hB2 hB3;refine bN (S0 := fun _ => False) Tryz.func9 ((Fr.nil _ w).l hA Cq) ?_;clear hA;refine aA ?_;refine aW fun g1 => ?_;refine aW fun g2 => ?_;refine aC ?_;refine dO ?_;refine cG (α := (((Option Addr × Nat) × List Int) × (Option Addr × Nat) × (Option Addr × Nat)) × (Nat × (Nat -> Nat) × (Nat -> Nat)) × P4) (mk := fun p => .tuple #[.agg #[.int .i64 (p.2.1.1 : Int), .int .i64 (p.2.1.1 : Int), .slice p.1.1.1.1 (p.2.1.1 * p.2.1.1) p.1.1.1.2], .slice p.1.2.1.1 p.2.1.1 p.1.2.1.2, .slice p.1.2.2.1 p.2.1.1 p.1.2.2.2, .agg #[.bool p.2.2.1, .slice p.2.2.2.1 p.2.2.2.2.1 p.2.2.2.2.2], .int .i64 0]) (ens := fun p => [.pr (gR n m xs p.2.1.1 p.2.1.2.1 p.2.1.2.2 p.1.1.2), .jn p.1.1.1.1 p.1.1.2, .lg 3 1 p.1.2.1.1 p.2.1.1 p.1.2.1.2 (iL ((List.range p.2.1.1).map p.2.1.2.1)), .lg 3 1 p.1.2.2.1 p.2.1.1 p.1.2.2.2 (iL ((List.range p.2.1.1).map p.2.1.2.2)), .own w.heap.size (av p.2.2) (cH m xs p.2.1.1 p.2.1.2.1 p.2.1.2.2)]) (hne := ⟨(((((none, 0), []), (none, 0), (none, 0))), (0, fun _ => 0, fun _ => 0), p0)⟩) (fun w' H => (HC.out.1 w' (H.all (.ls mw ao xs) Cq)).mono fun e w'' ⟨p, he, hb, hx, hp⟩ => ⟨p, he, hb, fun e he => by
  simp only [Di, CX, or_false] at he;rcases he with rfl | rfl | rfl | rfl | rfl
  . exact hx _ Cq
  . exact hx _ Cq
  . exact hx _ Cq
  . exact hx _ Cq
  . exact ⟨ai.mono (hx (.own w'.heap.size (av p.2.2) (cH m xs p.2.1.1 p.2.1.2.1 p.2.1.2.2)) (by simp [av])).1 H.size, fun _ h => h.elim⟩, by
  have h1 := List.pairwise_cons.1 hp;have h2 := List.pairwise_cons.1 h1.2;have h3 := List.pairwise_cons.1 h2.2;have h4 := List.pairwise_cons.1 h3.2;refine .cons (fun x _ => ⟨(fun q => nomatch q), fun _ _ _ h => h⟩) (.cons (fun x hx => ?_) (.cons (fun x hx => ?_) (.cons (fun x hx => ?_) (CM ..))))
  . rcases List.mem_cons.1 hx with rfl | hx
    . exact h2.1 _ Cq
    . rcases List.mem_cons.1 hx with rfl | hx
      . exact h2.1 _ Cq
      . rcases List.mem_singleton.1 hx with rfl;exact ⟨(fun q => nomatch q), fun q => nomatch q⟩
  . rcases List.mem_cons.1 hx with rfl | hx
    . exact h3.1 _ Cq
    . rcases List.mem_singleton.1 hx with rfl;exact ⟨fun _ _ _ h => h, fun q => nomatch q⟩
  . rcases List.mem_singleton.1 hx with rfl;exact ⟨fun _ _ _ h => h, fun q => nomatch q⟩⟩) fun q1 => ?_
 refine bh ?_;refine aT ?_;refine aW fun g4 => ?_;refine aW fun g7 => ?_;refine sG ?_;refine aT ?_;refine sG ?_;refine aC ?_;obtain ⟨⟨⟨⟨zo, zc⟩, zs⟩, ⟨ro, rc⟩, ⟨co, cc⟩⟩, ⟨k, c1, c2⟩, pd⟩ := q1;refine r6 (A := gR n m xs k c1 c2 zs) Cq fun hp => ?_;have hk64 : k <= 64 := by have := (fN.lt hp.2.1).1; omega
 obtain ⟨hs, l, hhl, hH, hsp⟩ := HC.out.2.2.1 k c1 c2 zs hp;obtain ⟨D, hD⟩ := Cs (cH m xs k c1 c2);have hD0 : D ≠ 0 := by rw [<- hD]; exact hp.1.core hp.2.1
 have hDw : ag D.natAbs <= B1 := by rw [<- hD, <- HC.out.2.2.2.2.2.1]; exact kU hk64 HC.out.2.2.2.2.1
 rw [hD];have HP := H5 (Cv hp (Cv hhl (Cv hH (Cv hsp (Cv hD (Cv hD0 hDw))))));clear hp hhl hH hsp hD hD0 hDw;refine dO ?_;refine fC ?_;refine aA ?_;refine aT ?_;refine dW ?_;refine mU (α := Option Addr × Nat) (mk := fun p => .tuple #[.agg #[.int .i64 (k : Int), .int .i64 (k : Int), .slice p.1 (k * k) p.2], .int .i64 0]) (ao := fun p => p.1) (xs := fun _ => aF k (cC m xs ((List.range k).map c1) ((List.range k).map c2)) (k * k)) (A := fun _ => True) (fun w' H => HC.out.2.1 k rc k cc ro co ((List.range k).map c1) ((List.range k).map c2) w' (mL.rl (H.all (.lg 3 1 ro k rc (iL ((List.range k).map c1))) Cq)) (mL.rl (H.all (.lg 3 1 co k cc (iL ((List.range k).map c2))) Cq)) (H.all (.ls mw ao xs) Cq) Cq Cq (fun i hi => by rw [j4 hi]; exact HP.out.1.1.vV i hi) (fun i hi => by rw [j4 hi]; exact HP.out.1.2.1.vV i hi) hk64 hk64) fun qc => ?_;refine aT ?_;refine dW ?_;refine aW fun g9 => ?_;refine sG ?_;refine aC ?_;refine rW [] ?_;refine bh ?_;refine cG (α := Nat) (mk := fun g => .slice (some ⟨g, 0, none⟩) m m) (ens := fun g => [.row g 3 (iL (List.range m))]) (fun w' H => vo m w' hm) fun gu => ?_;refine mU (α := Option Addr × Nat) (mk := fun p => .tuple #[.agg #[.int .i64 (k : Int), .int .i64 (m : Int), .slice p.1 (k * m) p.2], .int .i64 0]) (ao := fun p => p.1) (xs := fun _ => aF m (cC m xs ((List.range k).map c1) (List.range m)) (k * m)) (A := fun _ => True) (fun w' H => HC.out.2.1 k rc m m ro (some ⟨gu, 0, none⟩) ((List.range k).map c1) (List.range m) w' (mL.rl (H.all (.lg 3 1 ro k rc (iL ((List.range k).map c1))) Cq)) (fun _ => by have h1 : aa w' gu 3 (iL (List.range m)) := H.all (.row gu 3 (iL (List.range m))) Cq; exact ⟨gu, rfl, h1.lt, fun i v hv => by rw [h1.cell]; exact hv⟩) (H.all (.ls mw ao xs) Cq) Cq Cq (fun i hi => by rw [j4 hi]; exact HP.out.1.1.vV i hi) (fun i hi => by simpa [hi] using hi) hk64 hm) fun qw => ?_;refine aT ?_;refine dW ?_;refine aW fun g11 => ?_;refine sG ?_;refine aC ?_;refine dO ?_;refine mU (α := (Option Addr × Nat) × List Int) (mk := fun p => .tuple #[.agg #[.int .i64 (k : Int), .int .i64 (k : Int), .slice p.1.1 (k * k) p.1.2], .int .i64 0]) (ao := fun p => p.1.1) (xs := fun p => p.2) (A := fun p => pW k mw (aF k (cC m xs ((List.range k).map c1) ((List.range k).map c2)) (k * k)) p.2) (hne := ⟨((none, 0), [])⟩) (fun w' H => Bs k (k * k) qc.2 mw qc.1 (aF k (cC m xs ((List.range k).map c1) ((List.range k).map c2)) (k * k)) w' hk64 hmw (fq.iR (H.all (.jn qc.1 (aF k (cC m xs ((List.range k).map c1) ((List.range k).map c2)) (k * k))) Cq) (gW HC.out.2.2.2.2.1)) (aD ..) (aD ..) (gW HC.out.2.2.2.2.1)) fun qa => ?_;refine aT ?_;refine dW ?_;refine aW fun g13 => ?_;refine sG ?_;refine aC ?_;obtain ⟨⟨ado, adc⟩, al⟩ := qa;refine r6 (A := pW k mw (aF k (cC m xs ((List.range k).map c1) ((List.range k).map c2)) (k * k)) al /\ ∀ b o, ado = some ⟨b, o, none⟩ -> w.heap.size <= b) Cq fun hq => ?_;have HAd := H5 hq.1;have hpw : ∀ x ∈ aF k (bM k k zs al) (k * k), ag x.natAbs <= B2 := nI (fun i j hi hj => by rw [<- HC.out.2.2.2.2.2.2.1]; exact nz (fun t ht => qF (HC.out.2.2.2.1 k c1 c2 zs HP.out.1 _ (dP (by rw [HP.out.1.2.2.1]; exact cZ hi ht))) (HAd.out.2.2 _ (dP (by rw [HAd.out.1]; exact cZ ht hj)))) hk64) rfl;have HPw := H5 hpw;clear hq hpw;refine rW [] ?_;refine aT ?_;refine mU (α := Option Addr × Nat) (mk := fun p => .tuple #[.agg #[.int .i64 (k : Int), .int .i64 (k : Int), .slice p.1 (k * k) p.2], .int .i64 0]) (ao := fun p => p.1) (xs := fun _ => aF k (bM k k zs al) (k * k)) (A := fun _ => True) (fun w' H => ui k k k (k * k) (k * k) zc adc B1 (66 * (mw + 3)) zo ado zs al w' (fq.iR (H.all (.jn zo zs) Cq) (HC.out.2.2.2.1 k c1 c2 zs HP.out.1)) (fq.iR (H.all (.jn ado al) Cq) HAd.out.2.2) Cp HP.out.1.2.2.1 HP.out.1.2.2.1 HAd.out.1 HAd.out.1 hk64 hk64 hk64 (HC.out.2.2.2.1 k c1 c2 zs HP.out.1) HAd.out.2.2) fun qm => ?_;refine aT ?_;refine dW ?_;refine sW ?_;refine eW ?_;refine aA ?_;refine aT ?_;refine cG (α := Option Addr × Nat) (mk := fun p => .tuple #[.agg #[.int .i64 (k : Int), .int .i64 (m : Int), .slice p.1 (k * m) p.2], .int .i64 0]) (ens := fun p => [.ls B3 p.1 (aF m (bM k m (aF k (bM k k zs al) (k * k)) (aF m (cC m xs ((List.range k).map c1) (List.range m)) (k * m))) (k * m))]) (fun w' H => (ui k k m (k * k) (k * m) qm.2 qw.2 B2 mw qm.1 qw.1 (aF k (bM k k zs al) (k * k)) (aF m (cC m xs ((List.range k).map c1) (List.range m)) (k * m)) w' (fq.iR (H.all (.jn qm.1 (aF k (bM k k zs al) (k * k))) Cq) HPw.out) (fq.iR (H.all (.jn qw.1 (aF m (cC m xs ((List.range k).map c1) (List.range m)) (k * m))) Cq) (gW HC.out.2.2.2.2.1)) Cp (aD ..) (aD ..) (aD ..) (aD ..) hk64 hk64 hm HPw.out (gW HC.out.2.2.2.2.1)).mono fun e w'' ⟨⟨p, he, hl, _, hf⟩, hb⟩ => ⟨p, he, hb, fun e he => by rcases List.mem_singleton.1 he with rfl; exact ⟨hl.iR fun x hx => by
  unfold aF at hx;obtain ⟨t, ht, rfl⟩ := List.mem_map.1 hx;have ht := List.mem_range.1 ht;have hm0 : 0 < m := by
   rcases Dn m with e | e
   . subst e; omega
   . exact e
  have h1 : t / m < k := EO (by rw [CE]; exact ht);rw [<- HC.out.2.2.2.2.2.2.2];exact nz (fun u hu => qF (HPw.out _ (dP (by rw [aD]; exact cZ h1 hu))) (gW HC.out.2.2.2.2.1 _ (dP (by rw [aD]; exact cZ hu (Dm _ hm0))))) hk64, fun b ⟨_, o, e⟩ => hf b o e⟩, CM ..⟩) fun qf => ?_
 refine aT ?_;refine dW ?_;refine sW ?_;refine eQ ?_;obtain ⟨fo, fc⟩ := qf;obtain ⟨FL, hFL⟩ := Cs (aF m (bM k m (aF k (bM k k zs al) (k * k)) (aF m (cC m xs ((List.range k).map c1) (List.range m)) (k * m))) (k * m));have hfl : ∀ q, q < k * m -> gi FL q = D * gi hs q := fun q hq => by rw [<- hFL, <- HP.out.2.2.2.2.1]; exact HP.out.1.formL HP.out.2.1 HP.out.2.2.1 HP.out.2.2.2.1 HAd.out hq
 have hfll : FL.length = k * m := by rw [<- hFL, aD]
 rw [hFL];have HFl := H5 (Cv hfl hfll);clear hFL hfl hfll;refine rW [] ?_;refine bh ?_;refine cG (α := (Option Addr × Nat) × List P4) (mk := fun p => .tuple #[.agg #[.int .i64 (n : Int), .int .i64 (m : Int), .slice p.1.1 (n * m) p.1.2], .int .i64 0]) (ens := fun p => [.jf p.1.1 (n * m) p.1.2 p.2, .ns p.2 (aF m (eO []) (n * m))]) (hne := ⟨((none, 0), [])⟩) (fun w' H => yB n m w' hn hm) fun qz => ?_;refine aT ?_;refine dW ?_;refine aW fun g15 => ?_;refine sG ?_;refine aC ?_;obtain ⟨⟨oo, oc⟩, ps0⟩ := qz;have hkn : k <= n := (fN.lt HP.out.1.2.1).1;have hKN : k * m <= n * m := Cy m hkn;have hNb : n * m <= 4096 := Da hn hm;obtain ⟨K, hK⟩ := Cs (k * m);obtain ⟨NM, hNM⟩ := Cs (n * m);rw [hK] at hKN HFl |-;rw [hNM] at hKN hNb |-;have HK := H5 (Cv hK hNM);clear hK hNM;refine er (es' := [.jf oo NM oc ps0, .ns ps0 (aF m (eO []) NM), .row g4 24 [.int .i64 (k : Int), .int .i64 (m : Int), .slice fo K fc], .row g15 24 [.int .i64 (n : Int), .int .i64 (m : Int), .slice oo NM oc], .row g7 37 [.bool pd.1, .slice pd.2.1 pd.2.2.1 pd.2.2.2], .row g2 24 [.int .i64 0, .int .i64 0, .slice none 0 0], .own w.heap.size (av pd) D, .ls B3 fo FL]) ?_;refine rW [] ?_;by_cases hK0 : 0 < K
 . refine bh ?_;refine eQ ?_;refine wU Cp fun b tl hoo htl hpl => ?_;subst hoo;have HTl := H5 htl;clear htl;refine cF (X := Nat × List P4 × List Int) (fun x => x.1 <= K /\ x.2.1.length = NM /\ x.2.2.length = NM /\ ∀ q, gi x.2.2 q = if q < x.1 then gi hs q else 0) (fun x => K - x.1) (fun x => [(74, .int .i64 (x.1 : Int)), (73, .int .i64 (K : Int)), (72, .slice fo K fc), (15, .pointer (some ⟨g15, 0, none⟩)), (7, .pointer (some ⟨g7, 0, none⟩)), (2, .pointer (some ⟨g2, 0, none⟩)), (8, .int .i64 0)])
    (fun x => [.row b 37 (rn x.2.1 tl), .ns x.2.1 x.2.2, .row g15 24 [.int .i64 (n : Int), .int .i64 (m : Int), .slice (some ⟨b, 0, none⟩) NM oc], .row g7 37 [.bool pd.1, .slice pd.2.1 pd.2.2.1 pd.2.2.2], .row g2 24 [.int .i64 0, .int .i64 0, .slice none 0 0], .own w.heap.size (av pd) D, .ls B3 fo FL]) (0, ps0, aF m (eO []) NM) ⟨Cx _, hpl, aD .., fun q => by rw [if_neg (Dv q)]; exact sY q⟩ fun x hx => ?_
   clear hpl;obtain ⟨i, ps, ys⟩ := x;obtain ⟨hi, hpl, hyl, hyq⟩ := hx
   replace hi : i <= K := hi
   replace hpl : ps.length = NM := hpl
   replace hyl : ys.length = NM := hyl
   have HY := H5 (Cv hpl (Cv hyl (show ∀ q, gi ys q = if q < i then gi hs q else 0 from hyq)));clear hpl hyl hyq;by_cases h : i < K
   . have h01 : (i : Int) < (K : Int) := by omega
     have h02 : (i : Int) < (NM : Int) := by omega
     have hfl := HFl.out.1 i h;have HFi := H5 hfl;clear hfl;refine aA ?_;refine dB true ?_;refine eQ ?_;refine pD (L := B3) (ao := fo) (xs := FL) Cq (by rw [HFl.out.2]; omega) fun bx ox e => ?_;subst e;refine lE (L := B3) (xs := FL) (b := bx) (o := ox) i Cq (by rw [HFl.out.2]; exact h) fun px => ?_;refine nM ?_;refine aA ?_;refine aT ?_;refine dW ?_;refine aW fun g17 => ?_;refine dW ?_;refine sG ?_;refine eW ?_;refine aA ?_;refine bh ?_;refine dW ?_;refine uz (x := gi hs i) (z := .int .i64 0) (fun w' H => by
      have := eZ (av px) (av pd) (gi FL i) D w' ((H.all (.at B3 (av px) (gi FL i)) (by simp [av]) : ah ..).mono Cp) (ai.int (H.all (.own w.heap.size (av pd) D) (by simp [av])) (Cw HP.out.2.2.2.2.2.2 Cp)) HP.out.2.2.2.2.2.1 (by rw [HFi.out]; exact Int.dvd_mul_right ..);rw [HFi.out, DH _ HP.out.2.2.2.2.2.1] at this; exact this) fun p2 => ?_
     refine je (e := .ns (ps.set i p2) (ys.set i (gi hs i))) (fun w' H => bX.set (H.all (.ns ps ys) Cq) i (H.all (.own w.heap.size (av p2) (gi hs i)) (by simp [av]) : ai ..).num) ?_;refine bh ?_;refine sN (ps := ps) i p2 (by rw [HY.out.1]; omega) HTl.out rfl ?_;refine eW ?_;refine aA ?_;refine dE (dL (a := i) Cp) ?_;refine aC ?_;exact cD (i + 1, ps.set i p2, ys.set i (gi hs i)) ⟨⟨h, by rw [CL]; exact HY.out.1, by rw [CL]; exact HY.out.2.1, fun q => by
      rw [gO (by rw [HY.out.2.1]; omega), HY.out.2.2 q];by_cases e : q = i
      . rw [if_pos e, e, if_pos Cp]
      . rw [if_neg e];by_cases e2 : q < i
        . rw [if_pos e2, if_pos Cp]
        . rw [if_neg e2, if_neg Cp]⟩, by show K - (i + 1) < K - i; omega⟩
   . obtain rfl : K = i := by omega
     refine aA ?_;refine fC ?_;refine aA ?_;refine aT ?_;refine sW ?_;refine aC ?_;refine fk fun w' H => ?_;exact ⟨_, _, o0 (H.all (.row g2 24 [.int .i64 (n : Int), .int .i64 (m : Int), .slice (some ⟨b, 0, none⟩) NM oc]) Cq), dT, ⟨((some ⟨b, 0, none⟩, oc), ys), rfl, (aO.mk' (H.all (.row b 37 (rn ps tl)) Cq) HTl.out (H.all (.ns ps ys) Cq)).lsN, ⟨k, l, vk hkn HP.out.2.1 HP.out.2.2.1 HP.out.2.2.2.1 (HY.out.2.1.trans HK.out.2.symm) fun q => by rw [HK.out.1]; exact HY.out.2.2 q⟩, fun b' o e => by cases e; exact (H.own (.row b 37 (rn ps tl)) Cq rfl b rfl).elim (fun h => h.elim) id⟩, H.below⟩
 . refine bh ?_;refine eQ ?_;refine cF (X := Nat) (fun x => x = 0) (fun x => 0) (fun x => [(74, .int .i64 (x : Int)), (73, .int .i64 (K : Int)), (72, .slice fo K fc), (15, .pointer (some ⟨g15, 0, none⟩)), (2, .pointer (some ⟨g2, 0, none⟩)), (8, .int .i64 0)])
    (fun x => [.jf oo NM oc ps0, .ns ps0 (aF m (eO []) NM), .row g15 24 [.int .i64 (n : Int), .int .i64 (m : Int), .slice oo NM oc], .row g7 37 [.bool pd.1, .slice pd.2.1 pd.2.2.1 pd.2.2.2], .row g2 24 [.int .i64 0, .int .i64 0, .slice none 0 0], .own w.heap.size (av pd) D, .ls B3 fo FL]) 0 rfl fun x hx => ?_
   obtain rfl : x = 0 := hx;have h01 : ¬ ((0 : Nat) : Int) < (K : Int) := by omega
   refine aA ?_;refine fC ?_;refine aA ?_;refine aT ?_;refine sW ?_;refine aC ?_;refine fk fun w' H => ?_;exact ⟨_, _, o0 (H.all (.row g2 24 [.int .i64 (n : Int), .int .i64 (m : Int), .slice oo NM oc]) Cq), dT, ⟨((oo, oc), aF m (eO []) NM), rfl, mT (H.all (.jf oo NM oc ps0) Cq) (H.all (.ns ps0 (aF m (eO []) NM)) Cq), ⟨k, l, vk hkn HP.out.2.1 HP.out.2.2.1 HP.out.2.2.2.1 ((aD ..).trans HK.out.2.symm) fun q => by rw [HK.out.1, if_neg Cp]; exact sY q⟩, fun b o e => (H.own (.jf oo NM oc ps0) Cq rfl b ⟨o, e⟩).elim (fun h => h.elim) id⟩, H.below⟩
theorem Af (r c : Int) (ao : Option Addr) (len cap : Nat) (w : World) (hr : -9223372036854775808 <= r /\ r <= 9223372036854775807) (hc : -9223372036854775808 <= c /\ c <= 9223372036854775807) (hs : ba r c len = false) :
 Calls Tryz.prog 3 #[.agg #[.int .i64 r, .int .i64 c, .slice ao len cap]] w fun e w' => e = .returned (.bool true) /\ Below w.heap.size w w' := by
 have hC := fun w' => cW r c ao len cap w' hr hc;rw [iF hs] at hC;have HC := H5 (Cv hC (fun w' => AG r c ao len cap w' hr hc hs));clear hC hs;refine bN (S0 := fun _ => False) Tryz.func3 (Fr.nil _ w) ?_;refine aA ?_;refine aW fun g1 => ?_;refine aC ?_;refine rW [] ?_;refine cV (v := .bool true) (fun w' H => oi w') ?_;refine aC ?_;refine kf ?_;refine aA ?_;refine dW ?_;refine cV (v := .int .i64 1) (fun w' H => HC.out.1 w') ?_;refine kq ?_;refine aA ?_;refine dW ?_;refine cV (v := .bool true) (fun w' H => HC.out.2 w') ?_;refine aC ?_;refine dZ fun w' H => ?_;exact ⟨_, dT, rfl, H.below⟩
theorem yR (n m nm mw cap : Nat) (ao : Option Addr) (xs : List Int) (w : World) (hn : n <= 64) (hm : m <= 64) (hmw : mw <= 1048576) (hA : aQ w mw ao xs) (hs : xs.length = n * m) (hnm : xs.length = nm) :
 Calls Tryz.prog 3 #[.agg #[.int .i64 (n : Int), .int .i64 (m : Int), .slice ao nm cap]] w fun e w' => e = .returned (.bool true) /\ Below w.heap.size w w' := by
 have hxb := iU hA;obtain ⟨M, hM⟩ := Cs (hW mw);have hM1 : M <= 150000000 := by rw [<- hM]; unfold hW gX; omega
 have c0 : ∀ w', Calls Tryz.prog 7 #[.agg #[.int .i64 (n : Int), .int .i64 (m : Int), .slice ao nm cap]] w' fun e w'' => e = .returned (.int .i64 0) /\ Below w'.heap.size w' w'' := fun w' => by
  have := cW (n : Int) (m : Int) ao nm cap w' Cp Cp;rw [dv (by unfold ba bL; rw [<- hnm, hs]; simp; omega)] at this; exact this
 have c1 := fun w' (h : aQ w' mw ao xs) => ye n m nm mw cap ao xs w' hn hm Cp h hs hnm;have c2 : ∀ w', aQ w' mw ao xs -> Calls Tryz.prog 10 #[.agg #[.int .i64 (n : Int), .int .i64 (m : Int), .slice ao nm cap]] w' fun e w'' => (∃ q : Nat × List Int, e = .returned (.tuple #[.agg #[.int .i64 (n : Int), .int .i64 (m : Int), .slice (some ⟨q.1, 0, none⟩) (n * m) (n * m)], .int .i64 0]) /\ fq w'' (some ⟨q.1, 0, none⟩) q.2 /\ (oF n m xs q.2 /\ ∀ x ∈ q.2, ag x.natAbs <= M) /\ ∀ b o, (some ⟨q.1, 0, none⟩ : Option Addr) = some ⟨b, o, none⟩ -> w'.heap.size <= b) /\ Below w'.heap.size w' w'' := fun w' h =>
  (Bz n m mw ao nm cap xs w' hn hm (h.up Cp) hxb Cp hnm.symm hs).mono fun e w'' ⟨⟨b, hs, k, l, he, hf, hr, hH, hbd⟩, hb⟩ => ⟨⟨(b, hs), he, hr.lsN, ⟨⟨k, l, hH⟩, fun x hx => by rw [<- hM]; exact an (hbd x hx)⟩, fun b' o e => by cases e; exact hf⟩, hb⟩
 have c3 : ∀ zs hs, oF n m xs zs -> oF n m xs hs -> zs = hs := fun zs hs ⟨k, l, h⟩ ⟨k', l', h'⟩ => (h.unique h').1;have hnmb : n * m <= 4096 := Da hn hm;have c4 : ∀ (zo : Option Addr) zc hs w', oF n m xs hs -> (∀ x ∈ hs, ag x.natAbs <= M) -> fq w' zo hs -> Calls Tryz.prog 11 #[.agg #[.int .i64 (n : Int), .int .i64 (m : Int), .slice zo (n * m) zc]] w' fun e w'' => e = .returned (.tuple #[.bool true, .int .i64 0]) /\ Below w'.heap.size w' w'' := fun zo zc hs w' hF hw hN => by
  obtain ⟨k, l, hH⟩ := hF;refine (xr n m M zo (n * m) zc hs w' hn hm (hN.iR fun x hx => Cw (hw x hx) Cp) hw Cp hH.len.symm hH.len).mono fun e w'' ⟨⟨t, he, ht⟩, hb⟩ => ⟨?_, hb⟩;rw [he, ht.2 hH.hf]
 have c5 : ∀ (zo : Option Addr) zc b hs w', oF n m xs hs -> (∀ x ∈ hs, ag x.natAbs <= M) -> fq w' zo hs -> fq w' (some ⟨b, 0, none⟩) hs -> Calls Tryz.prog 12 #[.agg #[.int .i64 (n : Int), .int .i64 (m : Int), .slice zo (n * m) zc], .agg #[.int .i64 (n : Int), .int .i64 (m : Int), .slice (some ⟨b, 0, none⟩) (n * m) (n * m)]] w' fun e w'' => e = .returned (.bool true) /\ Below w'.heap.size w' w'' := fun zo zc b hs w' hF hw hN hN2 => by
  obtain ⟨k, l, hH⟩ := hF;have hl := hH.len;have hw2 : ∀ x ∈ hs, ag x.natAbs <= 17592186044415 := fun x hx => Cw (hw x hx) Cp;have := tJ n m zo (some ⟨b, 0, none⟩) zc (n * m) hs hs w' hN hN2 Cp Cp hw2 hw2;rw [hl, decide_eq_true rfl] at this;exact this
 have HC := H5 (Cv c0 (Cv c1 (Cv c2 (Cv c3 (Cv c4 c5)))));clear c0 c1 c2 c3 c4 c5 hxb hM hs hnm hnmb;refine bN (S0 := fun _ => False) Tryz.func3 ((Fr.nil _ w).l hA Cq) ?_;clear hA;refine aA ?_;refine aW fun g1 => ?_;refine aC ?_;refine rW [] ?_;refine cV (v := .bool true) (fun w' H => oi w') ?_;refine aC ?_;refine kf ?_;refine aA ?_;refine dW ?_;refine cV (v := .int .i64 0) (fun w' H => HC.out.1 w') ?_;refine fC ?_;refine aA ?_;refine dW ?_;refine mU (α := (Option Addr × Nat) × List Int) (mk := fun p => .tuple #[.agg #[.int .i64 (n : Int), .int .i64 (m : Int), .slice p.1.1 (n * m) p.1.2], .int .i64 0]) (ao := fun p => p.1.1) (xs := fun p => p.2) (A := fun p => oF n m xs p.2) (hne := ⟨((none, 0), [])⟩) (fun w' H => HC.out.2.1 w' (H.all (.ls mw ao xs) Cq)) fun q1 => ?_;refine aT ?_;refine dW ?_;refine aW fun g3 => ?_;refine sG ?_;refine aC ?_;obtain ⟨⟨zo, zc⟩, zs⟩ := q1;refine r6 (A := oF n m xs zs /\ ∀ b o, zo = some ⟨b, o, none⟩ -> w.heap.size <= b) Cq fun hq => ?_;have HZ := H5 hq.1;clear hq;refine dO ?_;refine mU (α := Nat × List Int) (mk := fun q => .tuple #[.agg #[.int .i64 (n : Int), .int .i64 (m : Int), .slice (some ⟨q.1, 0, none⟩) (n * m) (n * m)], .int .i64 0]) (ao := fun q => some ⟨q.1, 0, none⟩) (xs := fun q => q.2) (A := fun q => oF n m xs q.2 /\ ∀ x ∈ q.2, ag x.natAbs <= M) (hne := ⟨(0, [])⟩) (fun w' H => HC.out.2.2.1 w' (H.all (.ls mw ao xs) Cq)) fun q2 => ?_;refine aT ?_;refine dW ?_;refine aW fun g5 => ?_;refine sG ?_;refine aC ?_;obtain ⟨hb, hs⟩ := q2;refine r6 (A := (oF n m xs hs /\ ∀ x ∈ hs, ag x.natAbs <= M) /\ ∀ b o, (some ⟨hb, 0, none⟩ : Option Addr) = some ⟨b, o, none⟩ -> w.heap.size <= b) Cq fun hq => ?_;have HB := H5 hq.1;clear hq;obtain rfl := HC.out.2.2.2.1 zs hs HZ.out HB.out.1;refine dO ?_;refine cV (v := .tuple #[.bool true, .int .i64 0]) (fun w' H => HC.out.2.2.2.2.1 zo zc zs w' HB.out.1 HB.out.2 (H.all (.jn zo zs) Cq)) ?_;refine bh ?_;refine aC ?_;refine dO ?_;refine dB true ?_;refine dW ?_;refine dG ?_;refine mQ true ?_;refine aT ?_;refine dG ?_;refine mQ true ?_;refine aT ?_;refine dG ?_;refine aT ?_;refine oz ?_;refine dG ?_;refine mQ true ?_;refine aT ?_;refine oz ?_;refine dG ?_;refine mQ true ?_;refine aT ?_;refine dG ?_;refine dG ?_;refine B8 (v := .bool true) (fun w' H => HC.out.2.2.2.2.2 zo zc hb zs w' HB.out.1 HB.out.2 (H.all (.jn zo zs) Cq) (H.all (.jn (some ⟨hb, 0, none⟩) zs) Cq)) ?_;refine dW ?_;refine aC ?_;refine dZ fun w' H => ?_;exact ⟨_, dT, rfl, H.below⟩
end Go.Proofs.YtjjlmfmoihooiaaGreat
namespace Go.Proofs.YtjjlmfmoihooiaaGreat
open Go.ChangeShapes Go.WideShapes Go.ChangeAt Go.RowKit Go.Deep
namespace lawRo
theorem own : ownKnob Tryz.prog.godebug = none := by kernel_rfl
theorem contract (H : Type) (enc : TypeId × Value -> H) (Wd : World) (base : Nat) (args : Array Value) (ds gs : List (DataW H)) (before : List MemPlace)
 (hval : ∀ (j : Nat) t v, Tryz.f3.params[j]? = some t -> args[j]? = some v -> Value.okWide Tryz.prog Wd .any base t v)
 (hW : DataW.Whole enc Tryz.prog Tryz.f3.params.toList Rows.modhnfRoadsSpec.vars false Wd args.toList ds gs before) (hk : Rows.uptoSmall H (ds ++ gs) = true) :
 Calls Tryz.prog 3 args Wd fun e W' => ∃ v, e = .returned v /\ Rows.modhnfRoadsSpec.post enc Tryz.prog Tryz.f3 false true false false Wd args v W' := by
 have hW' := hW;obtain ⟨p, q, hA0, hV, rfl, hfz, hnd⟩ := hW;have hA : DataW.TrodAll enc Tryz.prog Wd 0 (fun _ => true) true Tryz.f3.params.toList args.toList ds p := hA0;rw [Tryz.params3] at hA hval;obtain ⟨v1, vs1, d1, ds1, p1, q1, hargs, rfl, rfl, h1, r1⟩ := trodAll_cons hA;obtain ⟨rfl, rfl, rfl⟩ := trodAll_nil r1;obtain rfl : args = #[v1] := by cases args; simp_all
 obtain ⟨rfl, rfl⟩ := trodVars_none hV;have hbk := ua hk;simp only [DZ, Rows.uptoBulkAll] at hbk;obtain ⟨m, n, ao, len, cap, xs, rfl, hlen, hcap, hL, hb⟩ := xA (hval 0 _ v1 rfl rfl) h1;have R1 := wg (hval 0 _ _ rfl rfl) h1;obtain ⟨L, hLe, hLm⟩ : ∃ L, Rows.uptoBulk d1 = L /\ L <= 1048576 := ⟨_, rfl, by omega⟩;have hA1 : aQ Wd L ao xs := fun hl => by
  obtain ⟨b, o, e, hlt, hc⟩ := hL hl;exact ⟨b, o, e, hlt, fun i hi => by obtain ⟨p, h0, h1, hx⟩ := hc i hi; exact ⟨p, h0, h1, hx.mono Cp⟩⟩
 have walk : Calls Tryz.prog 3 #[.agg #[.int .i64 m, .int .i64 n, .slice ao len cap]] Wd fun e w' => e = .returned (.bool true) /\ Below Wd.heap.size Wd w' := by
  cases hs : ba m n len with
  | false => exact Af m n ao len cap Wd R1.1 R1.2 hs
  | true =>
   obtain ⟨r, c, rfl, rfl, hr, hc, hrc⟩ := ud hs;exact yR r c len L cap ao xs Wd hr hc hLm hA1 (hlen.symm.trans hrc) hlen.symm
 refine walk.mono fun e W' ⟨he, hg⟩ => ?_;subst he;exact ⟨_, rfl, law_post (by kernel_rfl) rfl (by kernel_rfl) hW' rfl rfl rfl hg⟩
theorem lifted (os : Os) (started : os.Started) (H : Type) (enc : TypeId × Value -> H) (F : Stop.Interp) :
 ReturnsInHanded {} Tryz.checked os 3 .any ((Rows.OpenSpec.upto Rows.modhnfRoadsSpec).pre6 enc Tryz.prog Tryz.f3 Rows.modhnfRoadsUptoRow.domain false) (((Rows.OpenSpec.upto Rows.modhnfRoadsSpec).at F).post enc Tryz.prog Tryz.f3 false true false false) := by
 refine returnsInHanded_of_cond (C := Tryz.checked) (s := Rows.OpenSpec.upto Rows.modhnfRoadsSpec) (k := Rows.uptoSmall) rfl own started (by kernel_rfl) Tryz.func3
  (OpenSpec.witness (enc := enc) (C := Tryz.checked) (s := Rows.OpenSpec.upto Rows.modhnfRoadsSpec) (k := Rows.uptoSmall) rfl false ⟨#[], #[.agg #[.int .i64 0, .int .i64 0, .slice none 0 0]], []⟩ 8 (by kernel_rfl) (by kernel_rfl) (by kernel_rfl)
   (x := ([.agg [.lit (.int .i64 0), .lit (.int .i64 0), .nil]], [], [])) (by kernel_rfl) rfl (by kernel_rfl)) ?_
 intro W base args ds gs before hval hW _ hk _;exact contract H enc W base args ds gs before hval hW hk
theorem over : Rows.modhnfRoadsUptoRow.holds Tryz.pinned (Rows.OpenSpec.upto Rows.modhnfRoadsSpec) :=
 OpenClaim.holds_of_cond 3 Tryz.f3 rfl rfl rfl rfl rfl rfl rfl ⟨rfl, rfl, rfl, rfl, rfl⟩ rfl rfl rfl rfl rfl (by kernel_rfl) Tryz.func3 (by kernel_rfl)
  (of_decide_eq_true (by kernel_rfl)) (by unfold Func.isWrapper; first | (rw [if_pos (by decide +kernel)]; kernel_rfl) | (rw [if_neg (by decide +kernel)]; exact ⟨rfl, rfl⟩))
  (fun os started H enc _ F => lifted os started H enc F)
theorem proved : Rows.ModhnfRoadsUptoSaid := over
end lawRo
end Go.Proofs.YtjjlmfmoihooiaaGreat
