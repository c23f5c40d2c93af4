/- Part 7 of 7 of the proof that the law ModhnfMoves returns true for every input of bulk at most 1048576 and leaves its arguments as they were: the law itself. -/
import Derived.Test.YtjjlmfmoihooiaaMoF
set_option linter.all false
namespace Go.Proofs.Ytjjlmfmoihooiaa
open Go.RowKit
theorem rA.of {w : World} {g : Nat} {t : TypeId} {a b c d e f : Value} (h : ah w g t [a, b, c, d, e, f]) : rA w g (a, b, c) (d, e, f) := ⟨h.cell 0, h.cell 1, h.cell 2, h.cell 3, h.cell 4, h.cell 5⟩
def bc (m d : Nat) (xs ys : List Int) (i j : Nat) : Int := sm m fun k => gi xs (i * m + k) * gi ys (k * d + j)
theorem lh {B k : Nat} {f : Nat -> Int} (h : ∀ t < k, ag (f t).natAbs <= B) (hk : k <= 64) : ag (sm k f).natAbs <= B + 1 := by
 refine an ?_;have h1 := lW (n := k) (f := f) (B := W ^ B) fun t ht => Nat.le_of_lt (Nat.lt_of_lt_of_le (aT _) (Nat.pow_le_pow_right (by decide) (h t ht)));have h2 : k * W ^ B <= 64 * W ^ B := Nat.mul_le_mul_right _ hk;have h3 : W ^ (B + 1) = W ^ B * W := Nat.pow_succ ..;have h4 : 0 < W ^ B := Nat.pow_pos (by unfold W; omega);have h5 : 64 * W ^ B < W ^ B * W := by rw [Nat.mul_comm]; exact Nat.mul_lt_mul_of_pos_left (by unfold W; omega) h4
 omega
theorem nG {a b : Int} {A B : Nat} (h1 : ag a.natAbs <= A) (h2 : ag b.natAbs <= B) : ag (a * b).natAbs <= A + B := by
 rw [Int.natAbs_mul]; have := cK a.natAbs b.natAbs; omega
set_option maxRecDepth 100000 in
set_option maxHeartbeats 4000000 in
theorem x1 (i j ga gb r m d nm kd ca cb L M : Nat) (ao bo : Option Addr) (xs ys : List Int) (w : World) (h1 : w.cell? ⟨ga, 1, none⟩ = some (.int .i64 (m : Int))) (h2 : w.cell? ⟨ga, 2, none⟩ = some (.slice ao nm ca)) (h3 : w.cell? ⟨gb, 1, none⟩ = some (.int .i64 (d : Int))) (h4 : w.cell? ⟨gb, 2, none⟩ = some (.slice bo kd cb))
 (hA : aI w L ao xs) (hB : aI w M bo ys) (hL : L + M <= 17592186044000) (hs : xs.length = r * m) (hnm : xs.length = nm) (ht : ys.length = m * d) (hkd : ys.length = kd) (hi : i < r) (hj : j < d) (hr : r <= 64) (hm : m <= 64) (hd : d <= 64) (hxw : ∀ x ∈ xs, ag x.natAbs <= L) (hyw : ∀ y ∈ ys, ag y.natAbs <= M) :
 Calls Try.prog 86 #[.int .i64 (i : Int), .int .i64 (j : Int), .pointer (some ⟨ga, 0, none⟩), .pointer (some ⟨gb, 0, none⟩)] w fun e w' => (∃ v, e = .returned v /\ ak w' w.heap.size v (bc m d xs ys i j)) /\ Below w.heap.size w w' := by
 have HA : Fr (fun _ => False) w w [.cell ⟨gb, 2, none⟩ (.slice bo kd cb), .cell ⟨gb, 1, none⟩ (.int .i64 (d : Int)), .cell ⟨ga, 2, none⟩ (.slice ao nm ca), .cell ⟨ga, 1, none⟩ (.int .i64 (m : Int)), .ls M bo ys, .ls L ao xs] :=
  Fr.cl (Fr.cl (Fr.cl (Fr.cl (((Fr.nil _ w).l hA (by simp)).l hB (by simp [En.wr])) h1 (by simp [En.wr])) h2 (by simp [En.wr])) h3 (by simp [En.wr])) h4 (by simp [En.wr])
 have hx : ∀ k, k < m -> i * m + k < xs.length := fun k hk => by rw [hs]; exact bQ hi hk
 have hy : ∀ k, k < m -> k * d + j < ys.length := fun k hk => by rw [ht]; exact bQ hk hj
 have hb : ∀ k, k <= m -> ag (sm k fun k => gi xs (i * m + k) * gi ys (k * d + j)).natAbs <= L + M + 1 := fun k hk => lh (fun t h => nG (hxw _ (cD (hx t (by omega)))) (hyw _ (cD (hy t (by omega))))) (by omega);have hb1 : i * m <= 4096 := Nat.mul_le_mul (show i <= 64 by omega) hm;have HS := Lib.hid (And.intro hx (And.intro hy (And.intro hb (And.intro hnm hkd))));unfold bc;obtain ⟨f, hf⟩ : ∃ f : Nat -> Int, (fun k => gi xs (i * m + k) * gi ys (k * d + j)) = f := ⟨_, rfl⟩;have HF := Lib.hid hf;rw [hf];clear hs hnm ht hkd hA hB h1 h2 h3 h4 hxw hyw hx hy hb hf;refine aZ (S0 := fun _ => False) Try.func86 HA ?_;clear HA;refine ae ?_;refine rW [] ?_;refine aW fun g6 => ?_;refine eW ?_;refine ae ?_;refine rW [] ?_;refine aW fun g7 => ?_;refine eW ?_;refine ae ?_;refine rW [] ?_;refine dW ?_;refine dW ?_;refine dW ?_;refine eW ?_;refine ae ?_;refine iZ (e := .own w.heap.size (av p0) 0) (fun w' _ => ak.zero w' _) ?_;refine bF (X := Nat × P4) (fun x => x.1 <= m) (fun x => m - x.1) (fun x => [(11, .int .i64 (x.1 : Int)), (10, .int .i64 (m : Int)), (0, .int .i64 (i : Int)), (1, .int .i64 (j : Int)), (2, .pointer (some ⟨ga, 0, none⟩)), (3, .pointer (some ⟨gb, 0, none⟩)), (6, .pointer (some ⟨g6, 0, none⟩)), (7, .pointer (some ⟨g7, 0, none⟩))])
  (fun x => [.row g7 27 [.bool x.2.1, .slice x.2.2.1 x.2.2.2.1 x.2.2.2.2], .row g6 27 [.bool false, .slice none 0 0], .own w.heap.size (av x.2) (sm x.1 f), .cell ⟨gb, 2, none⟩ (.slice bo kd cb), .cell ⟨gb, 1, none⟩ (.int .i64 (d : Int)), .cell ⟨ga, 2, none⟩ (.slice ao nm ca), .cell ⟨ga, 1, none⟩ (.int .i64 (m : Int)), .ls M bo ys, .ls L ao xs]) (0, p0) (Nat.zero_le _) fun x hx => ?_
 obtain ⟨k, p⟩ := x
 replace hx : k <= m := hx
 have hpw : ag (sm k f).natAbs <= L + M + 1 := by rw [<- HF.out]; exact HS.out.2.2.1 k hx
 by_cases h : k < m
 · have h01 : (k : Int) < (m : Int) := by omega
   have hb2 : k * d <= 4096 := Nat.mul_le_mul (show k <= 64 by omega) hd;obtain ⟨t, ht⟩ : ∃ t, i * m + k = t := ⟨_, rfl⟩;obtain ⟨u, hu⟩ : ∃ u, k * d + j = u := ⟨_, rfl⟩;have htl : t < xs.length := by rw [<- ht]; exact HS.out.1 k h
   have hul : u < ys.length := by rw [<- hu]; exact HS.out.2.1 k h
   have h02 : (t : Int) < (nm : Int) := by have := HS.out.2.2.2.1; omega
   have h03 : (u : Int) < (kd : Int) := by have := HS.out.2.2.2.2; omega
   have hfk : sm (k + 1) f = gi xs t * gi ys u + sm k f := by
    have e : f k = gi xs t * gi ys u := by rw [<- HF.out, <- ht, <- hu]
    show sm k f + f k = _;rw [e]; exact Int.add_comm ..
   have HT := Lib.hid (And.intro ht (And.intro hu hfk));clear ht hu hfk;refine ae ?_;refine rW [] ?_;refine dB true ?_;refine eW ?_;refine ae ?_;refine mJ (L := L) (ao := ao) (xs := xs) (by simp) (by omega) fun bx ox e => ?_;subst e;refine jj (L := L) (xs := xs) (b := bx) (o := ox) t (by simp) htl fun px => ?_;refine mJ (L := M) (ao := bo) (xs := ys) (by simp) (by omega) fun by_ oy e => ?_;subst e;refine jj (L := M) (xs := ys) (b := by_) (o := oy) u (by simp) hul fun py => ?_;refine dO ?_;refine ae ?_;refine rW [] ?_;refine dW ?_;refine dW ?_;refine eW ?_;refine ae ?_;refine rW [] ?_;refine dW ?_;refine dW ?_;refine dW ?_;refine dW ?_;refine dW ?_;refine dE (jR (a := i) (b := m) (by omega)) ?_;refine dW ?_;refine dE ((oe (a := i * m) (b := k) (by omega)).trans (by rw [HT.out.1])) ?_;refine dW ?_;refine dW ?_;refine dW ?_;refine dW ?_;refine dW ?_;refine dW ?_;refine dW ?_;refine dE (jR (a := k) (b := d) (by omega)) ?_;refine dW ?_;refine dE ((oe (a := k * d) (b := j) (by omega)).trans (by rw [HT.out.2.1])) ?_;refine dW ?_;refine dW ?_;refine dW ?_;refine cN (x := sm (k + 1) f) (fun w' H => by
    have := iC (av px) (av py) (av p) (gi xs t) (gi ys u) (sm k f) L M w' (H.all (.at L (av px) (gi xs t)) (by simp [av])) (H.all (.at M (av py) (gi ys u)) (by simp [av])) (ak.int (H.all (.own w.heap.size (av p) (sm k f)) (by simp [av])) (by omega)) (by omega);rw [<- HT.out.2.2] at this; exact this) fun p2 => ?_
   refine sW ?_;refine eW ?_;refine ae ?_;refine rW [] ?_;refine dE (cd (a := k) (by omega)) ?_;refine dW ?_;refine eW ?_;refine ae ?_;exact bh (k + 1, p2) ⟨h, by show m - (k + 1) < m - k; omega⟩
 · obtain rfl : m = k := by omega
   refine ae ?_;refine rW [] ?_;refine dB false ?_;refine eW ?_;refine ae ?_;refine bX ?_;refine ae ?_;refine rW [] ?_;refine dW ?_;refine sW ?_;refine eW ?_;refine ae ?_;refine cQ fun w' H => ?_;exact ⟨_, gD (H.all (.row g6 27 [.bool p.1, .slice p.2.1 p.2.2.1 p.2.2.2]) (by simp)), ⟨_, rfl, H.all (.own w.heap.size (av p) (sm m f)) (by simp [av])⟩, H.below⟩
set_option maxRecDepth 100000 in
set_option maxHeartbeats 2000000 in
theorem vO (r m d nm kd ca cb L M : Nat) (ao bo : Option Addr) (xs ys : List Int) (w : World) (hA : aI w L ao xs) (hB : aI w M bo ys) (hL : L + M <= 17592186044000) (hs : xs.length = r * m) (hnm : xs.length = nm) (ht : ys.length = m * d) (hkd : ys.length = kd) (hr : r <= 64) (hm : m <= 64) (hd : d <= 64) (hxw : ∀ x ∈ xs, ag x.natAbs <= L) (hyw : ∀ y ∈ ys, ag y.natAbs <= M) :
 Calls Try.prog 68 #[.agg #[.int .i64 (r : Int), .int .i64 (m : Int), .slice ao nm ca], .agg #[.int .i64 (m : Int), .int .i64 (d : Int), .slice bo kd cb]] w fun e w' => (∃ p : Option Addr × Nat, e = .returned (.agg #[.int .i64 (r : Int), .int .i64 (d : Int), .slice p.1 (r * d) p.2]) /\ ea w' p.1 (aC d (bc m d xs ys) (r * d)) /\ True /\ ∀ b o, p.1 = some ⟨b, o, none⟩ -> w.heap.size <= b) /\ Below w.heap.size w w' := by
 have HP := Lib.hid (fun i j ga gb (w' : World) a1 a2 a3 a4 a5 a6 hi hj => x1 i j ga gb r m d nm kd ca cb L M ao bo xs ys w' a1 a2 a3 a4 a5 a6 hL hs hnm ht hkd hi hj hr hm hd hxw hyw);clear hs hnm ht hkd hxw hyw;refine aZ (S0 := fun _ => False) Try.func68 (((Fr.nil _ w).l hA (by simp)).l hB (by simp [En.wr, En.ls])) ?_;clear hA hB;refine ae ?_;refine rW [] ?_;refine aW fun g2 => ?_;refine aW fun g3 => ?_;refine aW fun g4 => ?_;refine eW ?_;refine ae ?_;refine rW [] ?_;refine dW ?_;refine dW ?_;refine dW ?_;refine dW ?_;refine fW ?_;refine kJ (α := Option Addr × Nat) (mk := fun p => .agg #[.int .i64 (r : Int), .int .i64 (d : Int), .slice p.1 (r * d) p.2]) (ao := fun p => p.1) (xs := fun _ => aC d (bc m d xs ys) (r * d)) (A := fun _ => True) (fun w' H => (j9 86 (fun _ _ => by go_simp) #[.pointer (some ⟨g2, 0, none⟩), .pointer (some ⟨g3, 0, none⟩)] r d (bc m d xs ys) w' hr hd (fun i j w2 hi hj hb => by
  have a1 : ah w' g2 24 [.int .i64 (r : Int), .int .i64 (m : Int), .slice ao nm ca] := H.all (.row g2 24 [.int .i64 (r : Int), .int .i64 (m : Int), .slice ao nm ca]) (by simp);have a2 : ah w' g3 24 [.int .i64 (m : Int), .int .i64 (d : Int), .slice bo kd cb] := H.all (.row g3 24 [.int .i64 (m : Int), .int .i64 (d : Int), .slice bo kd cb]) (by simp);have a3 : aI w' L ao xs := H.all (.ls L ao xs) (by simp);have a4 : aI w' M bo ys := H.all (.ls M bo ys) (by simp);exact HP.out i j g2 g3 w2 ((a1.below hb a1.lt).cell 1) ((a1.below hb a1.lt).cell 2) ((a2.below hb a2.lt).cell 1) ((a2.below hb a2.lt).cell 2) (a3.below hb) (a4.below hb) hi hj)).mono (by
  rintro e w3 ⟨⟨ao, cap', rfl, hl, _, hS⟩, hb⟩;exact ⟨⟨(ao, cap'), rfl, hl, trivial, hS⟩, hb⟩)) fun q => ?_
 refine sW ?_;refine eW ?_;refine ae ?_;refine cQ fun w' H => ?_;exact ⟨_, lO (H.all (.row g4 24 [.int .i64 (r : Int), .int .i64 (d : Int), .slice q.1 (r * d) q.2]) (by simp)), ⟨q, rfl, H.m0, trivial, (show True /\ ∀ b o, q.1 = some ⟨b, o, none⟩ -> w.heap.size <= b from H.m1).2⟩, H.below⟩
set_option maxRecDepth 100000 in
set_option maxHeartbeats 2000000 in
theorem rG (r m d nm kd ca cb L M : Nat) (ao bo : Option Addr) (xs ys : List Int) (w : World) (hA : aI w L ao xs) (hB : aI w M bo ys) (hL : L + M <= 17592186044000) (hs : xs.length = r * m) (hnm : xs.length = nm) (ht : ys.length = m * d) (hkd : ys.length = kd) (hr : r <= 64) (hm : m <= 64) (hd : d <= 64) (hxw : ∀ x ∈ xs, ag x.natAbs <= L) (hyw : ∀ y ∈ ys, ag y.natAbs <= M) :
 Calls Try.prog 39 #[.agg #[.int .i64 (r : Int), .int .i64 (m : Int), .slice ao nm ca], .agg #[.int .i64 (m : Int), .int .i64 (d : Int), .slice bo kd cb]] w fun e w' => (∃ p : Option Addr × Nat, e = .returned (.tuple #[.agg #[.int .i64 (r : Int), .int .i64 (d : Int), .slice p.1 (r * d) p.2], .int .i64 0]) /\ ea w' p.1 (aC d (bc m d xs ys) (r * d)) /\ True /\ ∀ b o, p.1 = some ⟨b, o, none⟩ -> w.heap.size <= b) /\ Below w.heap.size w w' := by
 have HP := Lib.hid (And.intro (fun (w' : World) a1 a2 => vO r m d nm kd ca cb L M ao bo xs ys w' a1 a2 hL hs hnm ht hkd hr hm hd hxw hyw) (fun g (w' : World) h => mA g r m m d nm kd ao bo ca cb w' hr hm hm hd (hnm.symm.trans hs) (hkd.symm.trans ht) h));clear hs hnm ht hkd hxw hyw;refine aZ (S0 := fun _ => False) Try.func39 (((Fr.nil _ w).l hA (by simp)).l hB (by simp [En.wr, En.ls])) ?_;clear hA hB;refine ae ?_;refine rW [] ?_;refine aW fun g2 => ?_;refine aW fun g3 => ?_;refine aW fun g4 => ?_;refine dW ?_;refine eW ?_;refine ae ?_;refine rW [] ?_;refine dW ?_;refine dW ?_;refine bW (m := 2) fun g9 => ?_;refine cV (v := .int .i64 0) (fun w' H => HP.out.2 g9 w' (rA.of H.m0)) ?_;refine dW ?_;refine eW ?_;refine ae ?_;refine rW [] ?_;refine dW ?_;refine dB false ?_;refine eW ?_;refine ae ?_;refine bX ?_;refine ae ?_;refine rW [] ?_;refine dW ?_;refine dW ?_;refine dW ?_;refine dW ?_;refine dB false ?_;refine eW ?_;refine ae ?_;refine bX ?_;refine ae ?_;refine rW [] ?_;refine dW ?_;refine dW ?_;refine kJ (α := Option Addr × Nat) (mk := fun p => .agg #[.int .i64 (r : Int), .int .i64 (d : Int), .slice p.1 (r * d) p.2]) (ao := fun p => p.1) (xs := fun _ => aC d (bc m d xs ys) (r * d)) (A := fun _ => True) (fun w' H => HP.out.1 w' (H.all (.ls L ao xs) (by simp)) (H.all (.ls M bo ys) (by simp))) fun q => ?_;refine sW ?_;refine dW ?_;refine eW ?_;refine ae ?_;refine dX fun w' H => ?_;exact ⟨_, _, lO (H.all (.row g4 24 [.int .i64 (r : Int), .int .i64 (d : Int), .slice q.1 (r * d) q.2]) (by simp)), cX, ⟨q, rfl, H.m0, trivial, (show True /\ ∀ b o, q.1 = some ⟨b, o, none⟩ -> w.heap.size <= b from H.m1).2⟩, H.below⟩
set_option maxRecDepth 100000 in
set_option maxHeartbeats 2000000 in
theorem ux (n nm cap L : Nat) (ao : Option Addr) (xs : List Int) (w : World) (hn : n <= 64) (hA : aI w L ao xs) (hL : L <= 17592186044000) (hs : xs.length = n * n) (hnm : xs.length = nm) (hxw : ∀ x ∈ xs, ag x.natAbs <= L) :
 Calls Try.prog 64 #[.agg #[.int .i64 (n : Int), .int .i64 (n : Int), .slice ao nm cap]] w fun e w' => (∃ v, e = .returned (.tuple #[v, .int .i64 0]) /\ ak w' w.heap.size v (sm n fun i => gi xs (i * n + i))) /\ Below w.heap.size w w' := by
 have hC : ∀ w', Calls Try.prog 14 #[.agg #[.int .i64 (n : Int), .int .i64 (n : Int), .slice ao nm cap]] w' fun e w'' => e = .returned (.int .i64 0) /\ Below w'.heap.size w' w'' := fun w' => by
  have := cF (n : Int) (n : Int) ao nm cap w' (by omega) (by omega);rw [dm (by unfold aR bB; rw [<- hnm, hs]; simp; omega)] at this; exact this
 have hx : ∀ k, k < n -> k * n + k < xs.length := fun k hk => by rw [hs]; exact bQ hk hk
 obtain ⟨f, hf⟩ : ∃ f : Nat -> Int, (fun k => gi xs (k * n + k)) = f := ⟨_, rfl⟩;have hb : ∀ k, k <= n -> ag (sm k f).natAbs <= L + 1 := fun k hk => lh (fun t h => by rw [<- hf]; exact hxw _ (cD (hx t (by omega)))) (by omega);have HS := Lib.hid (And.intro hC (And.intro hx (And.intro hb (And.intro hf hnm))));rw [hf];clear hC hs hnm hxw hx hb hf;refine aZ (S0 := fun _ => False) Try.func64 ((Fr.nil _ w).l hA (by simp)) ?_;clear hA;refine ae ?_;refine rW [] ?_;refine aW fun g1 => ?_;refine aW fun g2 => ?_;refine dW ?_;refine eW ?_;refine ae ?_;refine rW [] ?_;refine dW ?_;refine cV (v := .int .i64 0) (fun w' H => HS.out.1 w') ?_;refine dW ?_;refine eW ?_;refine ae ?_;refine rW [] ?_;refine dW ?_;refine dB false ?_;refine eW ?_;refine ae ?_;refine bX ?_;refine ae ?_;refine rW [] ?_;refine dW ?_;refine dW ?_;refine dW ?_;refine dW ?_;refine dB false ?_;refine eW ?_;refine ae ?_;refine bX ?_;refine ae ?_;refine rW [] ?_;refine aW fun g5 => ?_;refine eW ?_;refine ae ?_;refine rW [] ?_;refine dW ?_;refine dW ?_;refine dW ?_;refine eW ?_;refine ae ?_;refine iZ (e := .own w.heap.size (av p0) 0) (fun w' _ => ak.zero w' _) ?_;refine bF (X := Nat × P4) (fun x => x.1 <= n) (fun x => n - x.1) (fun x => [(21, .int .i64 (x.1 : Int)), (20, .int .i64 (n : Int)), (1, .pointer (some ⟨g1, 0, none⟩)), (2, .pointer (some ⟨g2, 0, none⟩)), (5, .pointer (some ⟨g5, 0, none⟩))])
  (fun x => [.row g5 27 [.bool x.2.1, .slice x.2.2.1 x.2.2.2.1 x.2.2.2.2], .row g1 24 [.int .i64 (n : Int), .int .i64 (n : Int), .slice ao nm cap], .row g2 27 [.bool false, .slice none 0 0], .own w.heap.size (av x.2) (sm x.1 f), .ls L ao xs]) (0, p0) (Nat.zero_le _) fun x hx => ?_
 obtain ⟨k, p⟩ := x
 replace hx : k <= n := hx
 have hpw : ag (sm k f).natAbs <= L + 1 := HS.out.2.2.1 k hx;by_cases h : k < n
 · have h01 : (k : Int) < (n : Int) := by omega
   have hb2 : k * n <= 4096 := Nat.mul_le_mul (show k <= 64 by omega) hn;obtain ⟨t, ht⟩ : ∃ t, k * n + k = t := ⟨_, rfl⟩;have htl : t < xs.length := by rw [<- ht]; exact HS.out.2.1 k h
   have h02 : (t : Int) < (nm : Int) := by have := HS.out.2.2.2.2; omega
   have hfk : sm (k + 1) f = sm k f + gi xs t := by
    have e : f k = gi xs t := by rw [<- HS.out.2.2.2.1, <- ht]
    show sm k f + f k = _;rw [e]
   have HT := Lib.hid (And.intro ht hfk);clear ht hfk;refine ae ?_;refine rW [] ?_;refine dB true ?_;refine eW ?_;refine ae ?_;refine mJ (L := L) (ao := ao) (xs := xs) (by simp) (by omega) fun bx ox e => ?_;subst e;refine jj (L := L) (xs := xs) (b := bx) (o := ox) t (by simp) htl fun px => ?_;refine dO ?_;refine ae ?_;refine rW [] ?_;refine dW ?_;refine dW ?_;refine eW ?_;refine ae ?_;refine rW [] ?_;refine dW ?_;refine dW ?_;refine dW ?_;refine dW ?_;refine dW ?_;refine dW ?_;refine dE (jR (a := k) (b := n) (by omega)) ?_;refine dW ?_;refine dE ((oe (a := k * n) (b := k) (by omega)).trans (by rw [HT.out.1])) ?_;refine dW ?_;refine dW ?_;refine cN (x := sm (k + 1) f) (fun w' H => by
    have := iX (av p) (av px) (sm k f) (gi xs t) w' (ak.int (H.all (.own w.heap.size (av p) (sm k f)) (by simp [av])) (by omega)) ((H.all (.at L (av px) (gi xs t)) (by simp [av]) : aw ..).mono (by omega));rw [<- HT.out.2] at this; exact this) fun p2 => ?_
   refine sW ?_;refine eW ?_;refine ae ?_;refine rW [] ?_;refine dE (cd (a := k) (by omega)) ?_;refine dW ?_;refine eW ?_;refine ae ?_;exact bh (k + 1, p2) ⟨h, by show n - (k + 1) < n - k; omega⟩
 · obtain rfl : n = k := by omega
   refine ae ?_;refine rW [] ?_;refine dB false ?_;refine eW ?_;refine ae ?_;refine bX ?_;refine ae ?_;refine rW [] ?_;refine dW ?_;refine sW ?_;refine dW ?_;refine eW ?_;refine ae ?_;refine dX fun w' H => ?_;exact ⟨_, _, gD (H.all (.row g2 27 [.bool p.1, .slice p.2.1 p.2.2.1 p.2.2.2]) (by simp)), cX, ⟨_, rfl, H.all (.own w.heap.size (av p) (sm n f)) (by simp [av])⟩, H.below⟩
def ll (d : Nat) (xs ys : List Int) (i j : Nat) : Int := gi xs (i * d + j) + gi ys (i * d + j)
set_option maxRecDepth 100000 in
set_option maxHeartbeats 4000000 in
theorem tU (i j gf ga gb r d nm ca cb L : Nat) (ao bo : Option Addr) (xs ys : List Int) (w : World) (h0 : w.cell? ⟨gf, 0, none⟩ = some (.func (.func 46) #[] #[])) (h1 : w.cell? ⟨ga, 1, none⟩ = some (.int .i64 (d : Int))) (h2 : w.cell? ⟨ga, 2, none⟩ = some (.slice ao nm ca)) (h3 : w.cell? ⟨gb, 1, none⟩ = some (.int .i64 (d : Int))) (h4 : w.cell? ⟨gb, 2, none⟩ = some (.slice bo nm cb))
 (hA : aI w L ao xs) (hB : aI w L bo ys) (hL : L <= 17592186044000) (hs : xs.length = r * d) (hnm : xs.length = nm) (ht : ys.length = nm) (hi : i < r) (hj : j < d) (hr : r <= 64) (hd : d <= 64) :
 Calls Try.prog 95 #[.int .i64 (i : Int), .int .i64 (j : Int), .pointer (some ⟨gf, 0, none⟩), .pointer (some ⟨ga, 0, none⟩), .pointer (some ⟨gb, 0, none⟩)] w fun e w' => (∃ v, e = .returned v /\ ak w' w.heap.size v (ll d xs ys i j)) /\ Below w.heap.size w w' := by
 have hb1 : i * d <= 4096 := Nat.mul_le_mul (show i <= 64 by omega) hd;unfold ll;obtain ⟨t, ht'⟩ : ∃ t, i * d + j = t := ⟨_, rfl⟩;have htl : t < nm := by rw [<- ht', <- hnm, hs]; exact bQ hi hj
 rw [ht'];have htx : t < xs.length := by omega
 have hty : t < ys.length := by omega
 obtain ⟨bx, ox, rfl⟩ := hA.pos htx;obtain ⟨by_, oy, rfl⟩ := hB.pos hty;have HA : Fr (fun _ => False) w w [.cell ⟨gb, 2, none⟩ (.slice (some ⟨by_, oy, none⟩) nm cb), .cell ⟨gb, 1, none⟩ (.int .i64 (d : Int)), .cell ⟨ga, 2, none⟩ (.slice (some ⟨bx, ox, none⟩) nm ca), .cell ⟨ga, 1, none⟩ (.int .i64 (d : Int)), .cell ⟨gf, 0, none⟩ (.func (.func 46) #[] #[]), .ls L (some ⟨by_, oy, none⟩) ys, .ls L (some ⟨bx, ox, none⟩) xs] :=
  Fr.cl (Fr.cl (Fr.cl (Fr.cl (Fr.cl (((Fr.nil _ w).l hA (by simp)).l hB (by simp [En.wr])) h0 (by simp [En.wr])) h1 (by simp [En.wr])) h2 (by simp [En.wr])) h3 (by simp [En.wr])) h4 (by simp [En.wr])
 have HT := Lib.hid ht';have h01 : (t : Int) < (nm : Int) := by omega
 clear hs hnm ht ht' hA hB h0 h1 h2 h3 h4;refine aZ (S0 := fun _ => False) Try.func95 HA ?_;clear HA;refine ae ?_;refine jj (L := L) (xs := xs) (b := bx) (o := ox) t (by simp) htx fun px => ?_;refine jj (L := L) (xs := ys) (b := by_) (o := oy) t (by simp) hty fun py => ?_;refine rW [] ?_;refine aW fun g7 => ?_;refine eW ?_;refine ae ?_;refine rW [] ?_;refine dW ?_;refine dW ?_;refine dW ?_;refine dW ?_;refine dW ?_;refine dW ?_;refine dE (jR (a := i) (b := d) (by omega)) ?_;refine dW ?_;refine dE ((oe (a := i * d) (b := j) (by omega)).trans (by rw [HT.out])) ?_;refine dW ?_;refine dW ?_;refine dW ?_;refine dW ?_;refine dW ?_;refine dW ?_;refine dW ?_;refine dE (jR (a := i) (b := d) (by omega)) ?_;refine dW ?_;refine dE ((oe (a := i * d) (b := j) (by omega)).trans (by rw [HT.out])) ?_;refine dW ?_;refine dW ?_;refine cN (f := 46) (x := gi xs t + gi ys t) (fun w' H => iX (av px) (av py) (gi xs t) (gi ys t) w' ((H.all (.at L (av px) (gi xs t)) (by simp [av]) : aw ..).mono (by omega)) ((H.all (.at L (av py) (gi ys t)) (by simp [av]) : aw ..).mono (by omega))) fun p2 => ?_;refine sW ?_;refine eW ?_;refine ae ?_;refine cQ fun w' H => ?_;exact ⟨_, gD (H.all (.row g7 27 [.bool p2.1, .slice p2.2.1 p2.2.2.1 p2.2.2.2]) (by simp)), ⟨_, rfl, H.all (.own w.heap.size (av p2) (gi xs t + gi ys t)) (by simp [av])⟩, H.below⟩
set_option maxRecDepth 100000 in
set_option maxHeartbeats 2000000 in
theorem u9 (r d nm ca cb L : Nat) (ao bo : Option Addr) (xs ys : List Int) (w : World) (hA : aI w L ao xs) (hB : aI w L bo ys) (hL : L <= 17592186044000) (hs : xs.length = r * d) (hnm : xs.length = nm) (ht : ys.length = nm) (hr : r <= 64) (hd : d <= 64) :
 Calls Try.prog 85 #[.agg #[.int .i64 (r : Int), .int .i64 (d : Int), .slice ao nm ca], .agg #[.int .i64 (r : Int), .int .i64 (d : Int), .slice bo nm cb], .func (.func 46) #[] #[]] w fun e w' => (∃ p : Option Addr × Nat, e = .returned (.tuple #[.agg #[.int .i64 (r : Int), .int .i64 (d : Int), .slice p.1 (r * d) p.2], .int .i64 0]) /\ ea w' p.1 (aC d (ll d xs ys) (r * d)) /\ True /\ ∀ b o, p.1 = some ⟨b, o, none⟩ -> w.heap.size <= b) /\ Below w.heap.size w w' := by
 have HP := Lib.hid (And.intro (fun i j gf ga gb (w' : World) a0 a1 a2 a3 a4 a5 a6 hi hj => tU i j gf ga gb r d nm ca cb L ao bo xs ys w' a0 a1 a2 a3 a4 a5 a6 hL hs hnm ht hi hj hr hd) (fun g (w' : World) h => mA g r d r d nm nm ao bo ca cb w' hr hd hr hd (hnm.symm.trans hs) (hnm.symm.trans hs) h));clear hs hnm ht;refine aZ (S0 := fun _ => False) Try.func85 (((Fr.nil _ w).l hA (by simp)).l hB (by simp [En.wr, En.ls])) ?_;clear hA hB;refine ae ?_;refine rW [] ?_;refine aW fun g3 => ?_;refine aW fun g4 => ?_;refine aW fun g5 => ?_;refine aW fun g6 => ?_;refine dW ?_;refine eW ?_;refine ae ?_;refine rW [] ?_;refine dW ?_;refine dW ?_;refine bW (m := 2) fun g11 => ?_;refine cV (v := .int .i64 0) (fun w' H => HP.out.2 g11 w' (rA.of H.m0)) ?_;refine dW ?_;refine eW ?_;refine ae ?_;refine rW [] ?_;refine dW ?_;refine dB false ?_;refine eW ?_;refine ae ?_;refine bX ?_;refine ae ?_;refine rW [] ?_;refine dW ?_;refine dW ?_;refine dW ?_;refine dW ?_;refine dB false ?_;refine dW ?_;refine dG ?_;refine dG ?_;refine dG ?_;refine dG ?_;refine j8 false ?_;refine dW ?_;refine eW ?_;refine ae ?_;refine bX ?_;refine ae ?_;refine rW [] ?_;refine dW ?_;refine dW ?_;refine dW ?_;refine dW ?_;refine fW ?_;refine kJ (α := Option Addr × Nat) (mk := fun p => .agg #[.int .i64 (r : Int), .int .i64 (d : Int), .slice p.1 (r * d) p.2]) (ao := fun p => p.1) (xs := fun _ => aC d (ll d xs ys) (r * d)) (A := fun _ => True) (fun w' H => (j9 95 (fun _ _ => by go_simp) #[.pointer (some ⟨g5, 0, none⟩), .pointer (some ⟨g3, 0, none⟩), .pointer (some ⟨g4, 0, none⟩)] r d (ll d xs ys) w' hr hd (fun i j w2 hi hj hb => by
  have a0 : ah w' g5 37 [.func (.func 46) #[] #[]] := H.all (.row g5 37 [.func (.func 46) #[] #[]]) (by simp);have a1 : ah w' g3 24 [.int .i64 (r : Int), .int .i64 (d : Int), .slice ao nm ca] := H.all (.row g3 24 [.int .i64 (r : Int), .int .i64 (d : Int), .slice ao nm ca]) (by simp);have a2 : ah w' g4 24 [.int .i64 (r : Int), .int .i64 (d : Int), .slice bo nm cb] := H.all (.row g4 24 [.int .i64 (r : Int), .int .i64 (d : Int), .slice bo nm cb]) (by simp);have a3 : aI w' L ao xs := H.all (.ls L ao xs) (by simp);have a4 : aI w' L bo ys := H.all (.ls L bo ys) (by simp);exact HP.out.1 i j g5 g3 g4 w2 ((a0.below hb a0.lt).cell 0) ((a1.below hb a1.lt).cell 1) ((a1.below hb a1.lt).cell 2) ((a2.below hb a2.lt).cell 1) ((a2.below hb a2.lt).cell 2) (a3.below hb) (a4.below hb) hi hj)).mono (by
  rintro e w3 ⟨⟨ao, cap', rfl, hl, _, hS⟩, hb⟩;exact ⟨⟨(ao, cap'), rfl, hl, trivial, hS⟩, hb⟩)) fun q => ?_
 refine sW ?_;refine dW ?_;refine eW ?_;refine ae ?_;refine dX fun w' H => ?_;exact ⟨_, _, lO (H.all (.row g6 24 [.int .i64 (r : Int), .int .i64 (d : Int), .slice q.1 (r * d) q.2]) (by simp)), cX, ⟨q, rfl, H.m0, trivial, (show True /\ ∀ b o, q.1 = some ⟨b, o, none⟩ -> w.heap.size <= b from H.m1).2⟩, H.below⟩
set_option maxRecDepth 100000 in
set_option maxHeartbeats 2000000 in
theorem xA (r d nm ca cb L : Nat) (ao bo : Option Addr) (xs ys : List Int) (w : World) (hA : aI w L ao xs) (hB : aI w L bo ys) (hL : L <= 17592186044000) (hs : xs.length = r * d) (hnm : xs.length = nm) (ht : ys.length = nm) (hr : r <= 64) (hd : d <= 64) :
 Calls Try.prog 66 #[.agg #[.int .i64 (r : Int), .int .i64 (d : Int), .slice ao nm ca], .agg #[.int .i64 (r : Int), .int .i64 (d : Int), .slice bo nm cb]] w fun e w' => (∃ p : Option Addr × Nat, e = .returned (.tuple #[.agg #[.int .i64 (r : Int), .int .i64 (d : Int), .slice p.1 (r * d) p.2], .int .i64 0]) /\ ea w' p.1 (aC d (ll d xs ys) (r * d)) /\ True /\ ∀ b o, p.1 = some ⟨b, o, none⟩ -> w.heap.size <= b) /\ Below w.heap.size w w' := by
 have HP := Lib.hid (fun (w' : World) a1 a2 => u9 r d nm ca cb L ao bo xs ys w' a1 a2 hL hs hnm ht hr hd);clear hs hnm ht;refine aZ (S0 := fun _ => False) Try.func66 (((Fr.nil _ w).l hA (by simp)).l hB (by simp [En.wr, En.ls])) ?_;clear hA hB;refine ae ?_;refine rW [] ?_;refine aW fun g2 => ?_;refine aW fun g3 => ?_;refine aW fun g4 => ?_;refine dW ?_;refine eW ?_;refine ae ?_;refine rW [] ?_;refine dW ?_;refine dW ?_;refine kJ (α := Option Addr × Nat) (mk := fun p => .tuple #[.agg #[.int .i64 (r : Int), .int .i64 (d : Int), .slice p.1 (r * d) p.2], .int .i64 0]) (ao := fun p => p.1) (xs := fun _ => aC d (ll d xs ys) (r * d)) (A := fun _ => True) (fun w' H => HP.out w' (H.all (.ls L ao xs) (by simp)) (H.all (.ls L bo ys) (by simp))) fun q => ?_;refine dW ?_;refine dW ?_;refine sW ?_;refine dW ?_;refine eW ?_;refine ae ?_;refine dX fun w' H => ?_;exact ⟨_, _, lO (H.all (.row g4 24 [.int .i64 (r : Int), .int .i64 (d : Int), .slice q.1 (r * d) q.2]) (by simp)), cX, ⟨q, rfl, H.m0, trivial, (show True /\ ∀ b o, q.1 = some ⟨b, o, none⟩ -> w.heap.size <= b from H.m1).2⟩, H.below⟩
end Go.Proofs.Ytjjlmfmoihooiaa
namespace Go.Proofs.Ytjjlmfmoihooiaa
def jB (n : Nat) (f : Int -> Int) (l : Int) : Prop := ∃ c : Nat -> Int, (∀ t, f t = sm (n + 1) fun k => c k * t ^ k) /\ c n = l
theorem jB.congr {n : Nat} {f g : Int -> Int} {l l' : Int} (h : jB n f l) (e : ∀ t, g t = f t) (el : l' = l) : jB n g l' := by
 obtain ⟨c, h1, h2⟩ := h;exact ⟨c, fun t => (e t).trans (h1 t), by rw [el]; exact h2⟩
theorem jB.add {n : Nat} {f g : Int -> Int} {l l' : Int} (h : jB n f l) (h' : jB n g l') : jB n (fun t => f t + g t) (l + l') := by
 obtain ⟨c, h1, h2⟩ := h;obtain ⟨d, h3, h4⟩ := h';refine ⟨fun k => c k + d k, fun t => ?_, by show c n + d n = _; rw [h2, h4]⟩;show f t + g t = _;rw [h1, h3, <- fy];exact aj fun k _ => (Int.add_mul ..).symm
theorem jB.smul {n : Nat} {f : Int -> Int} {l : Int} (s : Int) (h : jB n f l) : jB n (fun t => s * f t) (s * l) := by
 obtain ⟨c, h1, h2⟩ := h;refine ⟨fun k => s * c k, fun t => ?_, by show s * c n = _; rw [h2]⟩;show s * f t = _;rw [h1, <- bC];exact aj fun k _ => (Int.mul_assoc ..).symm
theorem jB.zero (n : Nat) : jB n (fun _ => 0) 0 := ⟨fun _ => 0, fun t => (bf fun k _ => Int.zero_mul _).symm, rfl⟩
theorem jB.up {n : Nat} {f : Int -> Int} {l : Int} (h : jB n f l) : jB (n + 1) f 0 := by
 obtain ⟨c, h1, _⟩ := h;refine ⟨fun k => if k <= n then c k else 0, fun t => ?_, if_neg (by omega)⟩;rw [h1];show _ = (sm (n + 1) fun k => (if k <= n then c k else 0) * t ^ k) + (if n + 1 <= n then c (n + 1) else 0) * t ^ (n + 1);rw [if_neg (by omega), Int.zero_mul, Int.add_zero];exact aj fun k hk => by rw [if_pos (by omega)]
theorem jB.shift {n : Nat} {f : Int -> Int} {l : Int} (h : jB n f l) : jB (n + 1) (fun t => t * f t) l := by
 obtain ⟨c, h1, h2⟩ := h;refine ⟨fun k => if k = 0 then 0 else c (k - 1), fun t => ?_, by show (if n + 1 = 0 then 0 else c (n + 1 - 1)) = l; rw [if_neg (by omega)]; exact h2⟩;show t * f t = _;rw [gv, h1, <- bC];show _ = (if 0 = 0 then 0 else c (0 - 1)) * t ^ 0 + sm (n + 1) fun k => (if k + 1 = 0 then 0 else c (k + 1 - 1)) * t ^ (k + 1);rw [if_pos rfl, Int.zero_mul, Int.zero_add];exact aj fun k _ => by rw [if_neg (by omega), Nat.add_sub_cancel, Int.pow_succ]; ac_rfl
theorem jB.lin {n : Nat} {f : Int -> Int} {l : Int} (p q : Int) (h : jB n f l) : jB (n + 1) (fun t => (t * p + q) * f t) (p * l) :=
 ((h.shift.smul p).add (h.up.smul q)).congr (fun t => by rw [Int.add_mul]; ac_rfl) (by omega)
theorem jB.sum {n : Nat} {f : Nat -> Int -> Int} {l : Nat -> Int} : ∀ m, (∀ i < m, jB n (f i) (l i)) -> jB n (fun t => sm m fun i => f i t) (sm m l)
 | 0, _ => jB.zero n
 | m + 1, h => (jB.sum m fun i hi => h i (by omega)).add (h m (by omega))
theorem ny : ∀ (n : Nat) (P Q : Mx), jB n (fun t => aF n fun a b => t * P a b + Q a b) (aF n P)
 | 0, _, _ => ⟨fun _ => 1, fun t => by show (1 : Int) = 0 + 1 * t ^ 0; simp, rfl⟩
 | n + 1, P, Q => by
  refine (jB.sum (f := fun i t => dr i * ((t * P i 0 + Q i 0) * aF n fun a b => t * minor P i a b + minor Q i a b)) (l := fun i => dr i * (P i 0 * aF n (minor P i))) (n + 1) fun i _ => ((ny n (minor P i) (minor Q i)).lin (P i 0) (Q i 0)).smul (dr i)).congr (fun t => ?_) ?_
  · show (sm (n + 1) fun i => dr i * (t * P i 0 + Q i 0) * aF n (minor (fun a b => t * P a b + Q a b) i)) = _;exact aj fun i _ => by rw [Int.mul_assoc]; rfl
  · show (sm (n + 1) fun i => dr i * P i 0 * aF n (minor P i)) = _;exact aj fun i _ => Int.mul_assoc ..
theorem rX {x : Int} (h : ∀ t : Int, 1 <= t -> t ∣ x) : x = 0 := by
 obtain ⟨k, hk⟩ := h (x.natAbs + 1) (by omega);rcases Int.natAbs_eq x with e | e
 · by_cases hk0 : k = 0
   · rw [hk, hk0, Int.mul_zero]
   · exfalso;have h1 : x.natAbs = (x.natAbs + 1) * k.natAbs := by
      have := congrArg Int.natAbs hk;rw [Int.natAbs_mul] at this;have e2 : ((x.natAbs : Int) + 1).natAbs = x.natAbs + 1 := by omega
      rw [e2] at this; exact this
     have h2 : 1 <= k.natAbs := by omega
     have := Nat.mul_le_mul_left (x.natAbs + 1) h2;omega
 · by_cases hk0 : k = 0
   · rw [hk, hk0, Int.mul_zero]
   · exfalso;have h1 : x.natAbs = (x.natAbs + 1) * k.natAbs := by
      have := congrArg Int.natAbs hk;rw [Int.natAbs_mul] at this;have e2 : ((x.natAbs : Int) + 1).natAbs = x.natAbs + 1 := by omega
      rw [e2] at this; exact this
     have h2 : 1 <= k.natAbs := by omega
     have := Nat.mul_le_mul_left (x.natAbs + 1) h2;omega
theorem jE : ∀ (n : Nat) (c : Nat -> Int), (∀ t : Int, 1 <= t -> (sm n fun k => c k * t ^ k) = 0) -> ∀ k < n, c k = 0
 | 0, _, _ => fun k hk => by omega
 | n + 1, c, h => by
  have e : ∀ t : Int, (sm (n + 1) fun k => c k * t ^ k) = c 0 + t * sm n fun k => c (k + 1) * t ^ k := fun t => by
   rw [gv, <- bC];congr 1
   · simp
   · exact aj fun k _ => by rw [Int.pow_succ]; ac_rfl
  have h0 : c 0 = 0 := rX fun t ht => by
   have := h t ht;rw [e] at this;exact ⟨- sm n fun k => c (k + 1) * t ^ k, by rw [Int.mul_neg]; omega⟩
  have h1 := jE n (fun k => c (k + 1)) fun t ht => by
   have := h t ht;rw [e, h0, Int.zero_add] at this;exact (Int.mul_eq_zero.1 this).resolve_left (by omega)
  intro k hk;cases k with
  | zero => exact h0
  | succ k => exact h1 k (by omega)
def uM : Mx := fun i j => if i = j then 1 else 0
def dY (n : Nat) (B : Mx) (i j : Nat) : Int := aF n (bG B j (uM i))
theorem u5 : ∀ n, aF n uM = 1
 | 0 => rfl
 | n + 1 => by
  show (sm (n + 1) fun i => dr i * uM i 0 * aF n (minor uM i)) = 1;rw [dv 0 (by omega) fun i _ hi => by unfold uM; rw [if_neg hi]; simp];have e : aF n (minor uM 0) = aF n uM := aG n fun a _ b _ => by
   show uM (bH 0 a) (b + 1) = uM a b;rw [show bH 0 a = a + 1 by unfold bH; rw [if_neg (Nat.not_lt_zero a)]];show (if a + 1 = b + 1 then (1 : Int) else 0) = if a = b then 1 else 0;by_cases q : a = b
   · rw [if_pos q, if_pos (by omega)]
   · rw [if_neg q, if_neg (by omega)]
  rw [e, u5 n];decide
theorem x9 {n : Nat} (f : Nat -> Int) {b : Nat} (hb : b < n) : (sm n fun l => f l * uM l b) = f b := by
 rw [dv b hb fun l _ hl => by unfold uM; rw [if_neg hl, Int.mul_zero]];unfold uM; rw [if_pos rfl, Int.mul_one]
theorem vZ (n : Nat) (B : Mx) {i j : Nat} (hi : i < n) (hj : j < n) : (sm n fun l => B i l * dY n B l j) = aF n B * uM i j := by
 unfold dY;rw [<- kG n B j hj (B i) uM n];have e : aF n (bG B j fun b => sm n fun l => B i l * uM l b) = aF n (bG B j (B i)) := aG n fun a _ b hb => by
  unfold bG;by_cases h : a = j
  · rw [if_pos h, if_pos h]; exact x9 (B i) hb
  · rw [if_neg h, if_neg h]
 rw [e];unfold uM;by_cases h : i = j
 · subst h;rw [if_pos rfl, Int.mul_one, eo]
 · rw [if_neg h, Int.mul_zero];exact eQ n _ hi hj h fun b => by rw [aK _ h, bA]
theorem sE {h : Int} : ∀ (n : Nat) {M N : Mx}, (∀ a < n, ∀ b < n, h ∣ M a b - N a b) -> h ∣ aF n M - aF n N
 | 0, _, _, _ => by show h ∣ (1 : Int) - 1; simp
 | n + 1, M, N, hM => by
  show h ∣ (sm (n + 1) fun i => dr i * M i 0 * aF n (minor M i)) - sm (n + 1) fun i => dr i * N i 0 * aF n (minor N i);rw [<- jM];refine qP _ fun i hi => ?_;obtain ⟨x, hx⟩ := sE n (M := minor M i) (N := minor N i) fun a ha b hb => hM (bH i a) (by unfold bH; split <;> omega) (b + 1) (by omega);obtain ⟨y, hy⟩ := hM i hi 0 (by omega);have e1 : aF n (minor M i) = aF n (minor N i) + h * x := by omega
  have e2 : M i 0 = N i 0 + h * y := by omega
  refine ⟨dr i * (N i 0 * x + y * aF n (minor N i) + y * (h * x)), ?_⟩;rw [e1, e2]
  grind
theorem pJ (n : Nat) (B : Mx) (h : Int) : ∀ s ≤ n, ∃ x, aF n (fun a b => B a b + if a < s then h * uM a b else 0) = aF n B + h * (sm s fun i => dY n B i i) + h * h * x
 | 0, _ => ⟨0, by
  rw [aG n (N := B) fun a _ b _ => by rw [if_neg (Nat.not_lt_zero a), Int.add_zero]];simp [sm]⟩
 | s + 1, hs => by
  obtain ⟨x, hx⟩ := pJ n B h s (by omega);obtain ⟨M, hM⟩ : ∃ M : Mx, (fun a b => B a b + if a < s then h * uM a b else 0) = M := ⟨_, rfl⟩;rw [hM] at hx;have hMe : ∀ a b, M a b = B a b + if a < s then h * uM a b else 0 := fun a b => by rw [<- hM]
  have e : (fun a b => B a b + if a < s + 1 then h * uM a b else 0) = bG M s fun b => h * uM s b + M s b := by
   funext a b;unfold bG;by_cases q : a = s
   · rw [if_pos q];show _ = h * uM s b + M s b;rw [hMe, if_neg (Nat.lt_irrefl s), q, if_pos (Nat.lt_succ_self s)]; omega
   · rw [if_neg q, hMe];by_cases q2 : a < s
     · rw [if_pos q2, if_pos (by omega)]
     · rw [if_neg q2, if_neg (by omega)]
  rw [e, fR n M s h (uM s) (M s) (by omega), eo, hx];obtain ⟨y, hy⟩ := sE (h := h) n (M := bG M s (uM s)) (N := bG B s (uM s)) fun a _ b _ => by
   unfold bG;by_cases q : a = s
   · rw [if_pos q, if_pos q]; simp
   · rw [if_neg q, if_neg q, hMe];by_cases q2 : a < s
     · rw [if_pos q2]; exact ⟨uM a b, by omega⟩
     · rw [if_neg q2]; exact ⟨0, by omega⟩
  have e2 : aF n (bG M s (uM s)) = dY n B s s + h * y := by unfold dY; omega
  refine ⟨x + y, ?_⟩;rw [e2];show h * (dY n B s s + h * y) + (aF n B + h * (sm s fun i => dY n B i i) + h * h * x) = aF n B + h * ((sm s fun i => dY n B i i) + dY n B s s) + h * h * (x + y)
  grind
theorem pU (t h : Int) : ∀ k : Nat, ∃ x, (t + h) ^ (k + 1) = t ^ (k + 1) + h * (((k : Int) + 1) * t ^ k) + h * h * x
 | 0 => ⟨0, by rw [Int.pow_succ, Int.pow_succ, Int.pow_zero, Int.pow_zero]; simp⟩
 | k + 1 => by
  obtain ⟨x, hx⟩ := pU t h k;refine ⟨((k : Int) + 1) * t ^ k + x * t + x * h, ?_⟩;rw [Int.pow_succ (t + h) (k + 1), hx, Int.pow_succ t (k + 1)];have e : t ^ (k + 1) = t ^ k * t := Int.pow_succ t k;have e2 : ((k + 1 : Nat) : Int) = (k : Int) + 1 := by omega
  rw [e, e2]
  grind
def Bt (A : Mx) (t : Int) : Mx := fun a b => t * uM a b + - A a b
theorem vD {n : Nat} {A : Mx} {a : Nat -> Int} (ha : ∀ t, aF n (Bt A t) = sm (n + 1) fun k => a k * t ^ k) (t : Int) : (sm n fun i => dY n (Bt A t) i i) = sm n fun k => ((k : Int) + 1) * a (k + 1) * t ^ k := by
 have key : (sm n fun k => ((k : Int) + 1) * a (k + 1) * t ^ k) - (sm n fun i => dY n (Bt A t) i i) = 0 := rX fun h hh => by
  obtain ⟨x, hx⟩ := pJ n (Bt A t) h n (Nat.le_refl _);have e1 : aF n (fun a b => Bt A t a b + if a < n then h * uM a b else 0) = aF n (Bt A (t + h)) := aG n fun a ha b _ => by
   rw [if_pos ha]; unfold Bt; rw [Int.add_mul]; omega
  rw [e1, ha, ha] at hx;obtain ⟨y, hy⟩ := Classical.axiomOfChoice fun k => pU t h k;have e2 : (sm (n + 1) fun k => a k * (t + h) ^ k) = (sm (n + 1) fun k => a k * t ^ k) + h * (sm n fun k => ((k : Int) + 1) * a (k + 1) * t ^ k) + h * h * sm n fun k => a (k + 1) * y k := by
   rw [gv, gv n fun k => a k * t ^ k, <- bC, <- bC];have e3 : (sm n fun k => a (k + 1) * (t + h) ^ (k + 1)) = (sm n fun k => a (k + 1) * t ^ (k + 1)) + (sm n fun k => h * (((k : Int) + 1) * a (k + 1) * t ^ k)) + sm n fun k => h * h * (a (k + 1) * y k) := by
    rw [<- fy, <- fy];exact aj fun k _ => by rw [hy k]; grind
   rw [e3];simp only [Int.pow_zero];omega
  rw [e2] at hx;obtain ⟨D, hD⟩ : ∃ D, (sm n fun k => ((k : Int) + 1) * a (k + 1) * t ^ k) = D := ⟨_, rfl⟩;obtain ⟨T, hT⟩ : ∃ T, (sm n fun i => dY n (Bt A t) i i) = T := ⟨_, rfl⟩;obtain ⟨Y, hY⟩ : ∃ Y, (sm n fun k => a (k + 1) * y k) = Y := ⟨_, rfl⟩;obtain ⟨Z, hZ⟩ : ∃ Z, (sm (n + 1) fun k => a k * t ^ k) = Z := ⟨_, rfl⟩;rw [hD, hT, hY, hZ] at hx;rw [hD, hT];refine ⟨x - Y, ?_⟩;have h1 : h * (D - T) = h * (h * (x - Y)) := by grind
  exact Int.eq_of_mul_eq_mul_left (by omega) h1
 omega
theorem wi {n : Nat} (A : Mx) {i j : Nat} (hj : j < n) : ∃ c : Nat -> Int, ∀ t, dY n (Bt A t) i j = sm n fun k => c k * t ^ k := by
 obtain ⟨c, h1, h2⟩ := ny n (bG uM j fun _ => 0) (bG (fun a b => - A a b) j (uM i));have h3 : aF n (bG uM j fun _ => (0 : Int)) = 0 := by
  have := fM n uM j 0 (fun _ => 0) hj;simpa using this
 rw [h3] at h2;refine ⟨c, fun t => ?_⟩;have e : dY n (Bt A t) i j = aF n fun a b => t * bG uM j (fun _ => 0) a b + bG (fun a b => - A a b) j (uM i) a b := aG n fun a _ b _ => by
  unfold bG Bt;by_cases q : a = j
  · rw [if_pos q, if_pos q, if_pos q, Int.mul_zero, Int.zero_add]
  · rw [if_neg q, if_neg q, if_neg q]
 rw [e];refine (h1 t).trans ?_;show (sm n fun k => c k * t ^ k) + c n * t ^ n = _;rw [h2, Int.zero_mul, Int.add_zero]
theorem fl (n : Nat) (A : Mx) (hn : 0 < n) : ∃ (N : Nat -> Mx) (c : Nat -> Int), (∀ i < n, ∀ j < n, N 0 i j = uM i j) /\
 (∀ k, k + 1 < n -> (sm n fun i => sm n fun l => A i l * N k l i) = -(((k : Int) + 1) * c (k + 1)) /\ ∀ i < n, ∀ j < n, N (k + 1) i j = (sm n fun l => A i l * N k l j) + c (k + 1) * uM i j) /\
 ∀ i < n, ∀ j < n, (sm n fun l => A i l * N (n - 1) l j) = -((-1) ^ n * aF n A) * uM i j := by
 obtain ⟨a, ha, hl⟩ := ny n uM fun x y => - A x y;rw [u5] at hl;have ha' : ∀ t, aF n (Bt A t) = sm (n + 1) fun k => a k * t ^ k := ha;obtain ⟨q, hq⟩ : ∃ q : Nat -> Nat -> Nat -> Int, ∀ i j, j < n -> ∀ t, dY n (Bt A t) i j = sm n fun k => q i j k * t ^ k := by
  have h1 : ∀ i, ∃ c : Nat -> Nat -> Int, ∀ j, j < n -> ∀ t, dY n (Bt A t) i j = sm n fun k => c j k * t ^ k := fun i => by
   have h2 : ∀ j, ∃ c : Nat -> Int, j < n -> ∀ t, dY n (Bt A t) i j = sm n fun k => c k * t ^ k := fun j => by
    by_cases hj : j < n
    · obtain ⟨c, hc⟩ := wi A (i := i) hj;exact ⟨c, fun _ => hc⟩
    · exact ⟨fun _ => 0, fun h => absurd h hj⟩
   exact Classical.axiomOfChoice h2
  exact Classical.axiomOfChoice h1
 have hz : ∀ i < n, ∀ j < n, ∀ k < n + 1, ((if k = 0 then 0 else q i j (k - 1)) - (if k < n then sm n fun l => A i l * q l j k else 0)) - a k * uM i j = 0 := fun i hi j hj => by
  refine jE (n + 1) (fun k => ((if k = 0 then 0 else q i j (k - 1)) - (if k < n then sm n fun l => A i l * q l j k else 0)) - a k * uM i j) fun t _ => ?_;have h1 := vZ n (Bt A t) hi hj;have e0 : (sm n fun l => Bt A t i l * dY n (Bt A t) l j) = t * dY n (Bt A t) i j - sm n fun l => A i l * dY n (Bt A t) l j := by
   have e1 : (sm n fun l => Bt A t i l * dY n (Bt A t) l j) = (sm n fun l => t * (uM i l * dY n (Bt A t) l j)) - sm n fun l => A i l * dY n (Bt A t) l j := by
    rw [<- jM];exact aj fun l _ => by unfold Bt; rw [Int.add_mul, Int.neg_mul, Int.mul_assoc]; omega
   rw [e1, bC, dv i hi fun l _ hli => by unfold uM; rw [if_neg fun e => hli e.symm, Int.zero_mul]];unfold uM;rw [if_pos rfl, Int.one_mul]
  have e2 : t * dY n (Bt A t) i j = sm (n + 1) fun k => (if k = 0 then 0 else q i j (k - 1)) * t ^ k := by
   rw [hq i j hj, gv, <- bC];show _ = (if 0 = 0 then 0 else q i j (0 - 1)) * t ^ 0 + sm n fun k => (if k + 1 = 0 then 0 else q i j (k + 1 - 1)) * t ^ (k + 1);rw [if_pos rfl, Int.zero_mul, Int.zero_add];exact aj fun k _ => by rw [if_neg (by omega), Nat.add_sub_cancel, Int.pow_succ]; ac_rfl
  have e3 : (sm n fun l => A i l * dY n (Bt A t) l j) = sm (n + 1) fun k => (if k < n then sm n fun l => A i l * q l j k else 0) * t ^ k := by
   show _ = (sm n fun k => (if k < n then sm n fun l => A i l * q l j k else 0) * t ^ k) + (if n < n then sm n fun l => A i l * q l j n else 0) * t ^ n;rw [if_neg (Nat.lt_irrefl n), Int.zero_mul, Int.add_zero];have e4 : (sm n fun l => A i l * dY n (Bt A t) l j) = sm n fun l => sm n fun k => A i l * q l j k * t ^ k := aj fun l _ => by
    rw [hq l j hj, <- bC];exact aj fun k _ => (Int.mul_assoc ..).symm
   rw [e4, iD];exact aj fun k hk => by rw [if_pos hk, dR]
  have e5 : aF n (Bt A t) * uM i j = sm (n + 1) fun k => a k * uM i j * t ^ k := by
   rw [ha', <- dR];exact aj fun k _ => by ac_rfl
  rw [e0, e2, e3, e5] at h1;have e6 : (sm (n + 1) fun k => (((if k = 0 then 0 else q i j (k - 1)) - (if k < n then sm n fun l => A i l * q l j k else 0)) - a k * uM i j) * t ^ k) = ((sm (n + 1) fun k => (if k = 0 then 0 else q i j (k - 1)) * t ^ k) - sm (n + 1) fun k => (if k < n then sm n fun l => A i l * q l j k else 0) * t ^ k) - sm (n + 1) fun k => a k * uM i j * t ^ k := by
   rw [<- jM, <- jM];exact aj fun k _ => by rw [Int.sub_mul, Int.sub_mul]
  show (sm (n + 1) fun k => (((if k = 0 then 0 else q i j (k - 1)) - (if k < n then sm n fun l => A i l * q l j k else 0)) - a k * uM i j) * t ^ k) = 0;rw [e6]; omega
 have htr : ∀ k < n, (sm n fun i => q i i k) = ((k : Int) + 1) * a (k + 1) := fun k hk => by
  have := jE n (fun k => (sm n fun i => q i i k) - ((k : Int) + 1) * a (k + 1)) (fun t _ => by
   have h1 := vD ha' t;have e1 : (sm n fun i => dY n (Bt A t) i i) = sm n fun k => (sm n fun i => q i i k) * t ^ k := by
    have e2 : (sm n fun i => dY n (Bt A t) i i) = sm n fun i => sm n fun k => q i i k * t ^ k := aj fun i hi => hq i i hi t;rw [e2, iD];exact aj fun k _ => dR ..
   rw [e1] at h1;have e3 : (sm n fun k => ((sm n fun i => q i i k) - ((k : Int) + 1) * a (k + 1)) * t ^ k) = (sm n fun k => (sm n fun i => q i i k) * t ^ k) - sm n fun k => ((k : Int) + 1) * a (k + 1) * t ^ k := by
    rw [<- jM];exact aj fun k _ => Int.sub_mul ..
   rw [e3, h1]; omega) k hk
  show (sm n fun i => q i i k) = _;have h2 : (sm n fun i => q i i k) - ((k : Int) + 1) * a (k + 1) = 0 := this;omega
 refine ⟨fun k i j => q i j (n - 1 - k), fun k => a (n - k), fun i hi j hj => ?_, fun k hk => ?_, fun i hi j hj => ?_⟩
 · have := hz i hi j hj n (by omega);rw [if_neg (by omega), if_neg (by omega), hl] at this;show q i j (n - 1 - 0) = _;rw [Nat.sub_zero]; omega
 · have hN : ∀ i < n, ∀ j < n, q i j (n - 1 - (k + 1)) = (sm n fun l => A i l * q l j (n - 1 - k)) + a (n - (k + 1)) * uM i j := fun i hi j hj => by
    have := hz i hi j hj (n - (k + 1)) (by omega);rw [if_neg (by omega), if_pos (by omega)] at this;rw [show n - 1 - (k + 1) = n - (k + 1) - 1 by omega, show n - 1 - k = n - (k + 1) by omega];omega
   refine ⟨?_, hN⟩;have h1 := htr (n - 1 - (k + 1)) (by omega);have h2 : (sm n fun i => q i i (n - 1 - (k + 1))) = (sm n fun i => sm n fun l => A i l * q l i (n - 1 - k)) + sm n fun _ => a (n - (k + 1)) := by
    rw [<- fy];exact aj fun i hi => by
     rw [hN i hi i hi];show _ + a (n - (k + 1)) * (if i = i then 1 else 0) = _;rw [if_pos rfl, Int.mul_one]
   have h3 : ∀ (m : Nat) (x : Int), (sm m fun _ => x) = (m : Int) * x := fun m x => by
    induction m with
    | zero => show (0 : Int) = ((0 : Nat) : Int) * x; simp
    | succ m ih => show (sm m fun _ => x) + x = _; rw [ih, show ((m + 1 : Nat) : Int) = (m : Int) + 1 by omega, Int.add_mul, Int.one_mul]
   rw [h3] at h2;rw [show n - 1 - (k + 1) + 1 = n - (k + 1) by omega] at h1;show (sm n fun i => sm n fun l => A i l * q l i (n - 1 - k)) = -(((k : Int) + 1) * a (n - (k + 1)));have e4 : ((n - 1 - (k + 1) : Nat) : Int) + 1 = (n : Int) - ((k : Int) + 1) := by omega
   rw [h1, e4, Int.sub_mul] at h2;omega
 · have := hz i hi j hj 0 (by omega);rw [if_pos rfl, if_pos hn] at this;have h0 := ha' 0;have e1 : (sm (n + 1) fun k => a k * (0 : Int) ^ k) = a 0 := by
    rw [dv 0 (by omega) fun k _ hk => by rw [Int.zero_pow (by omega), Int.mul_zero]];simp
   have e2 : aF n (Bt A 0) = (-1) ^ n * aF n A := by
    rw [<- j0];exact aG n fun x _ y _ => by unfold Bt; rw [Int.zero_mul]; omega
   rw [e1, e2] at h0;show (sm n fun l => A i l * q l j (n - 1 - (n - 1))) = _;rw [Nat.sub_self, h0, Int.neg_mul];omega
end Go.Proofs.Ytjjlmfmoihooiaa
namespace Go.Proofs.Ytjjlmfmoihooiaa
open Go.RowKit
structure EaX where
 k : Nat
 ps : List P4
 zs : List Int
structure EaI (n : Nat) (f : Int -> Int) (xs : List Int) (z : EaX) : Prop where
 hk : z.k <= n
 pl : z.ps.length = n
 zl : z.zs.length = n
 val : ∀ t < n, gi z.zs t = if t < z.k then f (gi xs t) else 0
set_option maxRecDepth 100000 in
set_option maxHeartbeats 4000000 in
theorem wJ (F : FuncId) (hF : ∀ (args : Array Value) (w : World), (callFunc F args).run Try.prog w = .ok (.enter F args) w) (lb : Array Value) (f : Int -> Int) (L nm cap : Nat) (ao : Option Addr) (xs : List Int) (w : World) (hA : aI w L ao xs) (hnm : xs.length = nm) (hm : nm <= 4096)
 (hf : ∀ (i : Nat) (p : P4) (w' : World), i < nm -> Below w.heap.size w w' -> aw w' L (av p) (gi xs i) -> Calls Try.prog F (#[av p] ++ lb) w' fun e w'' => (∃ v, e = .returned v /\ ak w'' w'.heap.size v (f (gi xs i))) /\ Below w'.heap.size w' w'') :
 Calls Try.prog 44 #[.slice ao nm cap, .func (.func F) #[] lb] w fun e w' => (∃ q : Nat, e = .returned (.slice (some ⟨q, 0, none⟩) nm nm) /\ ea w' (some ⟨q, 0, none⟩) (xs.map f) /\ True /\ ∀ b o, (some ⟨q, 0, none⟩ : Option Addr) = some ⟨b, o, none⟩ -> w.heap.size <= b) /\ Below w.heap.size w w' := by
 have HN := Lib.hid hnm;refine aZ (S0 := fun _ => False) Try.func44 ((Fr.nil _ w).l hA (by simp)) ?_;clear hnm hA;refine ae ?_;refine rW [] ?_;refine dW ?_;refine eW ?_;refine ae ?_;refine rW [] ?_;refine dW ?_;refine dW ?_;refine mN nm nm rfl rfl (Nat.le_refl _) (by omega) fun g => ?_;refine dW ?_;refine eW ?_;refine ae ?_;refine rW [] ?_;refine dW ?_;refine dW ?_;refine dW ?_;refine eW ?_;refine ae ?_;refine iZ (e := .ns (List.replicate nm p0) (List.replicate nm 0)) (fun w' _ => bg.qq w' nm) ?_;refine bF (X := EaX) (EaI nm f xs) (fun z => nm - z.k) (fun z => [(13, .int .i64 (z.k : Int)), (12, .int .i64 (nm : Int)), (11, .slice ao nm cap), (5, .slice (some ⟨g, 0, none⟩) nm nm), (1, .func (.func F) #[] lb)])
  (fun z => [.row g 27 (rn z.ps []), .ns z.ps z.zs, .ls L ao xs]) ⟨0, List.replicate nm p0, List.replicate nm 0⟩ ⟨Nat.zero_le _, by simp, by simp, fun t ht => by rw [if_neg (by show ¬ t < 0; omega)]; show gi (List.replicate nm 0) t = 0; rw [bV (by simpa using ht)]; simp⟩ fun z hz => ?_
 obtain ⟨k, ps, zs⟩ := z;have hk : k <= nm := hz.hk;have HM : Hid (EaI nm f xs ⟨k, ps, zs⟩) := Lib.hid hz;clear hz;by_cases h : k < nm
 · have h01 : (k : Int) < (nm : Int) := by omega
   refine ae ?_;refine rW [] ?_;refine dB true ?_;refine eW ?_;refine ae ?_;refine mJ (L := L) (ao := ao) (xs := xs) (by simp) (by rw [HN.out]; omega) fun bx ox e => ?_;subst e;refine jj (L := L) (xs := xs) (b := bx) (o := ox) k (by simp) (by rw [HN.out]; exact h) fun p => ?_;refine dO ?_;refine ae ?_;refine rW [] ?_;refine dW ?_;refine dW ?_;refine dW ?_;refine aW fun g7 => ?_;refine dW ?_;refine sG ?_;refine eW ?_;refine ae ?_;refine rW [] ?_;refine dW ?_;refine dW ?_;refine dW ?_;refine dW ?_;refine cN (x := f (gi xs k)) (fun w' H => hf k p w' h H.below (H.all (.at L (av p) (gi xs k)) (by simp [av]))) fun q => ?_;refine fj (e := .ns (ps.set k q) (zs.set k (f (gi xs k)))) (fun w' H => bg.set (H.all (.ns ps zs) (by simp)) k (H.all (.own w.heap.size (av q) (f (gi xs k))) (by simp [av]) : ak ..).num) ?_;refine dW ?_;refine sN (ps := ps) k q (by rw [show ps.length = nm from HM.out.pl]; exact h) aP.nil rfl ?_;refine eW ?_;refine ae ?_;refine rW [] ?_;refine dE (cd (a := k) (by omega)) ?_;refine dW ?_;refine eW ?_;refine ae ?_;exact bh (⟨k + 1, ps.set k q, zs.set k (f (gi xs k))⟩ : EaX) ⟨⟨h, by show (ps.set k q).length = nm; rw [List.length_set]; exact HM.out.pl, by show (zs.set k _).length = nm; rw [List.length_set]; exact HM.out.zl, fun t ht => by
    show gi (zs.set k _) t = if t < k + 1 then _ else _;rw [eY (by rw [show zs.length = nm from HM.out.zl]; exact h)];by_cases e : t = k
    · rw [if_pos e, if_pos (by omega), e]
    · rw [if_neg e];have := HM.out.val t ht;rw [this];show (if t < k then _ else _) = _;by_cases e2 : t < k
      · rw [if_pos e2, if_pos (by omega)]
      · rw [if_neg e2, if_neg (by omega)]⟩, by show nm - (k + 1) < nm - k; omega⟩
 · obtain rfl : nm = k := by omega
   have hE : zs = xs.map f := by
    have zl : zs.length = nm := HM.out.zl;refine List.ext_getElem (by rw [zl, List.length_map, HN.out]) fun t h1 h2 => ?_;have ht : t < nm := by omega
    have := HM.out.val t ht;rw [if_pos (show t < nm from ht), bV h1, bV (by rw [HN.out]; exact ht)] at this;rw [this, List.getElem_map]
   have HE := Lib.hid hE;clear hE;refine ae ?_;refine rW [] ?_;refine dB false ?_;refine eW ?_;refine ae ?_;refine bX ?_;refine ae ?_;refine rW [] ?_;refine dW ?_;refine dW ?_;refine eW ?_;refine ae ?_;refine cQ fun w' H => ?_;refine ⟨_, cX, ⟨g, rfl, ?_, trivial, fun b o e => by cases e; exact (H.own _ (List.mem_cons_self ..) rfl _ rfl).elim (fun h => h.elim) id⟩, H.below⟩;have h1 : ah w' g 27 (rn ps []) := H.m0;have h2 : bg w' ps zs := H.m1;rw [<- HE.out];exact fun _ => ⟨g, 0, rfl, h1.lt, fun i hi => ⟨gp ps i, by rw [h1.cell, Nat.zero_add]; exact ot [] (by rw [h2.1]; exact hi), by rw [h1.cell, Nat.zero_add]; exact pG [] (by rw [h2.1]; exact hi), by have := h2.2 i (by rw [h2.1]; exact hi); rw [bV hi] at this; exact this⟩⟩
set_option maxRecDepth 100000 in
set_option maxHeartbeats 1000000 in
theorem uJ (gk L : Nat) (pk px : P4) (k x : Int) (w : World) (h0 : w.cell? ⟨gk, 0, none⟩ = some (.bool pk.1)) (h1 : w.cell? ⟨gk, 1, none⟩ = some (.slice pk.2.1 pk.2.2.1 pk.2.2.2)) (hk : aw w L (av pk) k) (hx : aw w L (av px) x) (hL : L <= 1000000000) :
 Calls Try.prog 84 #[av px, .pointer (some ⟨gk, 0, none⟩)] w fun e w' => (∃ v, e = .returned v /\ ak w' w.heap.size v (k * x)) /\ Below w.heap.size w w' := by
 have HA : Fr (fun _ => False) w w [.cell ⟨gk, 0, none⟩ (.bool pk.1), .cell ⟨gk, 1, none⟩ (.slice pk.2.1 pk.2.2.1 pk.2.2.2), .at L (av px) x, .at L (av pk) k] :=
  Fr.cl (Fr.cl (((Fr.nil _ w).i hk).i hx) h1 (by simp [En.wr, En.at])) h0 (by simp [En.wr, En.at])
 clear h0 h1 hk hx;refine aZ (S0 := fun _ => False) Try.func84 HA ?_;clear HA;refine ae ?_;refine rW [] ?_;refine aW fun g2 => ?_;refine aW fun g3 => ?_;refine eW ?_;refine ae ?_;refine rW [] ?_;refine dW ?_;refine dW ?_;refine cN (x := k * x) (fun w' H => il (av pk) (av px) k x L L w' (H.all (.at L (av pk) k) (by simp [av])) (H.all (.at L (av px) x) (by simp [av])) (by omega)) fun q => ?_;refine sW ?_;refine eW ?_;refine ae ?_;refine cQ fun w' H => ?_;exact ⟨_, gD (H.all (.row g3 27 [.bool q.1, .slice q.2.1 q.2.2.1 q.2.2.2]) (by simp)), ⟨_, rfl, H.all (.own w.heap.size (av q) (k * x)) (by simp [av])⟩, H.below⟩
set_option maxRecDepth 100000 in
set_option maxHeartbeats 2000000 in
theorem oq (r n nm cap L : Nat) (ao : Option Addr) (xs : List Int) (k : Int) (pk : P4) (w : World) (hr : r <= 64) (hn : n <= 64) (hL : L <= 1000000000) (hk : aw w L (av pk) k) (hA : aI w L ao xs) (hs : xs.length = r * n) (hnm : xs.length = nm) :
 Calls Try.prog 65 #[av pk, .agg #[.int .i64 (r : Int), .int .i64 (n : Int), .slice ao nm cap]] w fun e w' => (∃ q : Nat, e = .returned (.tuple #[.agg #[.int .i64 (r : Int), .int .i64 (n : Int), .slice (some ⟨q, 0, none⟩) nm nm], .int .i64 0]) /\ ea w' (some ⟨q, 0, none⟩) (xs.map (k * ·)) /\ True /\ ∀ b o, (some ⟨q, 0, none⟩ : Option Addr) = some ⟨b, o, none⟩ -> w.heap.size <= b) /\ Below w.heap.size w w' := by
 have hC : ∀ w', Calls Try.prog 14 #[.agg #[.int .i64 (r : Int), .int .i64 (n : Int), .slice ao nm cap]] w' fun e w'' => e = .returned (.int .i64 0) /\ Below w'.heap.size w' w'' := fun w' => by
  have := cF (r : Int) (n : Int) ao nm cap w' (by omega) (by omega);rw [dm (by unfold aR bB; rw [<- hnm, hs]; simp; omega)] at this; exact this
 have hm : nm <= 4096 := by rw [<- hnm, hs]; exact Nat.mul_le_mul hr hn
 have HC := Lib.hid (And.intro hC (And.intro hnm hm));have HF := ((Fr.nil (fun _ => False) w).i hk).l hA (by simp [En.wr, En.at]);clear hC hs hnm hm hk hA;refine aZ (S0 := fun _ => False) Try.func65 HF ?_;clear HF;refine ae ?_;refine rW [] ?_;refine aW fun g2 => ?_;refine aW fun g3 => ?_;refine aW fun g4 => ?_;refine dW ?_;refine eW ?_;refine ae ?_;refine rW [] ?_;refine dW ?_;refine cV (v := .int .i64 0) (fun w' H => HC.out.1 w') ?_;refine dW ?_;refine eW ?_;refine ae ?_;refine rW [] ?_;refine dW ?_;refine dB false ?_;refine eW ?_;refine ae ?_;refine bX ?_;refine ae ?_;refine rW [] ?_;refine dW ?_;refine dW ?_;refine dW ?_;refine dW ?_;refine dW ?_;refine dW ?_;refine fW ?_;refine kJ (α := Nat) (mk := fun q => .slice (some ⟨q, 0, none⟩) nm nm) (ao := fun q => some ⟨q, 0, none⟩) (xs := fun _ => xs.map (k * ·)) (A := fun _ => True) (fun w' H => wJ 84 (fun _ _ => by go_simp) #[.pointer (some ⟨g2, 0, none⟩)] (k * ·) L nm cap ao xs w' (H.all (.ls L ao xs) (by simp)) HC.out.2.1 HC.out.2.2 (fun i p w2 hi hb hx => by
  have a1 : ah w' g2 27 [.bool pk.1, .slice pk.2.1 pk.2.2.1 pk.2.2.2] := H.all (.row g2 27 [.bool pk.1, .slice pk.2.1 pk.2.2.1 pk.2.2.2]) (by simp);have a2 : aw w' L (av pk) k := H.all (.at L (av pk) k) (by simp [av]);exact uJ g2 L pk p k (gi xs i) w2 ((a1.below hb a1.lt).cell 0) ((a1.below hb a1.lt).cell 1) (aw.below a2 hb) hx hL)) fun q => ?_
 refine dW ?_;refine sW ?_;refine dW ?_;refine eW ?_;refine ae ?_;refine dX fun w' H => ?_;exact ⟨_, _, lO (H.all (.row g4 24 [.int .i64 (r : Int), .int .i64 (n : Int), .slice (some ⟨q, 0, none⟩) nm nm]) (by simp)), cX, ⟨q, rfl, H.m0, trivial, (show True /\ ∀ b o, (some ⟨q, 0, none⟩ : Option Addr) = some ⟨b, o, none⟩ -> w.heap.size <= b from H.m1).2⟩, H.below⟩
theorem remI2 {a : Nat} (_ : a < 9223372036854775808) : Value.int .i64 ((a : Int).tmod 2) = .int .i64 ((a % 2 : Nat) : Int) := rfl
theorem vC : ∀ n : Nat, (-1 : Int) ^ n = if n % 2 = 0 then 1 else -1
 | 0 => rfl
 | n + 1 => by
  rw [Int.pow_succ, vC n];by_cases h : n % 2 = 0
  · rw [if_pos h, if_neg (by omega)]; rfl
  · rw [if_neg h, if_pos (by omega)]; rfl
theorem nv {n : Nat} {f : Nat -> Nat -> Int} {i j : Nat} (hi : i < n) (hj : j < n) : ai (aC n f (n * n)) n n i j = f i j := by
 rw [aM hi hj]; exact eP f hi hj
theorem kU {n K B : Nat} {f : Nat -> Nat -> Int} (h : ∀ i j, i < n -> j < n -> ag (f i j).natAbs <= B) (hK : K = n * n) : ∀ x ∈ aC n f K, ag x.natAbs <= B := fun x hx => by
 unfold aC at hx;obtain ⟨q, hq, rfl⟩ := List.mem_map.1 hx;have hq := List.mem_range.1 hq;have hn : 0 < n := by
  rcases Nat.eq_zero_or_pos n with e | e
  · subst e; omega
  · exact e
 exact h _ _ (Nat.div_lt_of_lt_mul (by omega)) (Nat.mod_lt _ hn)
structure jc (n mw : Nat) (N : Nat -> Mx) (s : Nat) (ms : List Int) : Prop where
 len : ms.length = n * n
 eq : ∀ i < n, ∀ j < n, ai ms n n i j = N s i j
 wl : ∀ x ∈ ms, ag x.natAbs <= 1 + s * (mw + 3)
def nY (n mw : Nat) (xs zs : List Int) : Prop := zs.length = n * n /\ (∀ i < n, ∀ j < n, (sm n fun l => ai xs n n i l * ai zs n n l j) = aF n (ai xs n n) * uM i j) /\ ∀ x ∈ zs, ag x.natAbs <= 66 * (mw + 3)
theorem uF : bO = uM := rfl
theorem jc.start {n mw : Nat} {N : Nat -> Mx} (h0 : ∀ i < n, ∀ j < n, N 0 i j = uM i j) : jc n mw N 0 (aC n bO (n * n)) :=
 ⟨aA .., fun i hi j hj => by rw [nv hi hj, h0 i hi j hj, uF], kU (fun i j _ _ => by
  unfold bO; split
  · exact Nat.le_trans (an (k := 1) (by unfold W; decide)) (by omega)
  · simp [aN]) rfl⟩
theorem jc.prod {n mw s : Nat} {N : Nat -> Mx} {xs ms : List Int} (h : jc n mw N s ms) (hs : xs.length = n * n) {i j : Nat} (hi : i < n) (hj : j < n) : bc n n xs ms i j = sm n fun l => ai xs n n i l * N s l j :=
 aj fun l hl => by rw [<- h.eq l hl j hj, aM hi hl, aM hl hj]; rfl
section
variable {n mw s : Nat} {N : Nat -> Mx} {c : Nat -> Int} {xs ms : List Int}
theorem jc.pw (h : jc n mw N s ms) (hn : n <= 64) (hs : xs.length = n * n) (hx : ∀ x ∈ xs, ag x.natAbs <= mw) : ∀ x ∈ aC n (bc n n xs ms) (n * n), ag x.natAbs <= mw + (1 + s * (mw + 3)) + 1 :=
 kU (fun i j hi hj => lh (fun t ht => nG (hx _ (cD (by rw [hs]; exact bQ hi ht))) (h.wl _ (cD (by rw [h.len]; exact bQ ht hj)))) hn) rfl
theorem jc.tr (h : jc n mw N s ms) (hs : xs.length = n * n) : (sm n fun i => gi (aC n (bc n n xs ms) (n * n)) (i * n + i)) = sm n fun i => sm n fun l => ai xs n n i l * N s l i :=
 aj fun i hi => by
  rw [<- h.prod hs hi hi];exact eP _ hi hi
theorem jc.next (h : jc n mw N s ms) (hn : n <= 64) (hs : xs.length = n * n) (hx : ∀ x ∈ xs, ag x.natAbs <= mw) (hN : ∀ i < n, ∀ j < n, N (s + 1) i j = (sm n fun l => ai xs n n i l * N s l j) + c (s + 1) * uM i j) (hc : ag (c (s + 1)).natAbs <= mw + (1 + s * (mw + 3)) + 2) :
 jc n mw N (s + 1) (aC n (ll n (aC n (bc n n xs ms) (n * n)) ((aC n bO (n * n)).map (c (s + 1) * ·))) (n * n)) := by
 have hu : ∀ i j, i < n -> j < n -> gi ((aC n bO (n * n)).map (c (s + 1) * ·)) (i * n + j) = c (s + 1) * uM i j := fun i j hi hj => by
  have h1 : i * n + j < (aC n bO (n * n)).length := by rw [aA]; exact bQ hi hj
  have h2 : gi (aC n bO (n * n)) (i * n + j) = bO i j := eP _ hi hj;unfold gi at h2 ⊢;rw [List.getD_eq_getElem?_getD, List.getElem?_map, List.getElem?_eq_getElem h1];rw [List.getD_eq_getElem?_getD, List.getElem?_eq_getElem h1] at h2;show c (s + 1) * (aC n bO (n * n))[i * n + j] = _;rw [show (aC n bO (n * n))[i * n + j] = bO i j from h2, uF]
 have hp : ∀ i j, i < n -> j < n -> gi (aC n (bc n n xs ms) (n * n)) (i * n + j) = bc n n xs ms i j := fun i j hi hj => eP _ hi hj;refine ⟨aA .., fun i hi j hj => ?_, kU (fun i j hi hj => ?_) rfl⟩
 · rw [nv hi hj, hN i hi j hj];unfold ll;rw [hp i j hi hj, hu i j hi hj, h.prod hs hi hj]
 · unfold ll;rw [hp i j hi hj, hu i j hi hj];have e1 : ag (bc n n xs ms i j).natAbs <= mw + (1 + s * (mw + 3)) + 2 := Nat.le_trans (h.pw hn hs hx _ (by rw [<- hp i j hi hj]; exact cD (by rw [aA]; exact bQ hi hj))) (by omega);have e2 : ag (c (s + 1) * uM i j).natAbs <= mw + (1 + s * (mw + 3)) + 2 := by
    unfold uM; split
    · rw [Int.mul_one]; exact hc
    · rw [Int.mul_zero]; simp [aN]
   have e3 := lh (B := mw + (1 + s * (mw + 3)) + 2) (k := 2) (f := fun t => if t = 0 then bc n n xs ms i j else c (s + 1) * uM i j) (fun t _ => by show ag (if t = 0 then bc n n xs ms i j else c (s + 1) * uM i j).natAbs <= _; split <;> assumption) (by omega);have e4 : (sm 2 fun t => if t = 0 then bc n n xs ms i j else c (s + 1) * uM i j) = bc n n xs ms i j + c (s + 1) * uM i j := by
    show 0 + (if 0 = 0 then bc n n xs ms i j else c (s + 1) * uM i j) + (if 1 = 0 then bc n n xs ms i j else c (s + 1) * uM i j) = _;rw [if_pos rfl, if_neg (by omega), Int.zero_add]
   rw [e4] at e3;have e5 : (s + 1) * (mw + 3) = s * (mw + 3) + (mw + 3) := Nat.succ_mul s _;omega
end
theorem fl0 (n : Nat) (A : Mx) : ∃ (N : Nat -> Mx) (c : Nat -> Int), (∀ i < n, ∀ j < n, N 0 i j = uM i j) /\
 (∀ k, k + 1 < n -> (sm n fun i => sm n fun l => A i l * N k l i) = -(((k : Int) + 1) * c (k + 1)) /\ ∀ i < n, ∀ j < n, N (k + 1) i j = (sm n fun l => A i l * N k l j) + c (k + 1) * uM i j) /\
 (0 < n -> ∀ i < n, ∀ j < n, (sm n fun l => A i l * N (n - 1) l j) = -((-1) ^ n * aF n A) * uM i j) := by
 rcases Nat.eq_zero_or_pos n with e | e
 · subst e;exact ⟨fun _ => uM, fun _ => 0, fun i hi => by omega, fun k hk => by omega, fun h => by omega⟩
 · obtain ⟨N, c, h1, h2, h3⟩ := fl n A e;exact ⟨N, c, h1, h2, fun _ => h3⟩
theorem xq {n mw : Nat} {N : Nat -> Mx} {xs ms : List Int} (h : jc n mw N (n - 1) ms) (hn : n <= 64) (hl : ∀ i < n, ∀ j < n, (sm n fun l => ai xs n n i l * N (n - 1) l j) = -((-1) ^ n * aF n (ai xs n n)) * uM i j) (h0 : 0 < n) : (n % 2 = 0 -> nY n mw xs (ms.map ((-1) * ·))) /\ (¬ n % 2 = 0 -> nY n mw xs ms) := by
 have hw : 1 + (n - 1) * (mw + 3) <= 66 * (mw + 3) := by
  have := Nat.mul_le_mul_right (mw + 3) (show n - 1 <= 64 by omega); omega
 refine ⟨fun he => ⟨by rw [List.length_map]; exact h.len, fun i hi j hj => ?_, fun x hx => ?_⟩, fun he => ⟨h.len, fun i hi j hj => ?_, fun x hx => Nat.le_trans (h.wl x hx) hw⟩⟩
 · have e1 := hl i hi j hj;rw [vC, if_pos he, Int.one_mul] at e1;have e2 : (sm n fun l => ai xs n n i l * ai (ms.map ((-1) * ·)) n n l j) = sm n fun l => (-1) * (ai xs n n i l * N (n - 1) l j) := aj fun l hl' => by
    rw [<- h.eq l hl' j hj, aM hl' hj, aM hl' hj];have h1 : l * n + j < ms.length := by rw [h.len]; exact bQ hl' hj
    rw [List.getD_eq_getElem?_getD, List.getElem?_map, List.getElem?_eq_getElem h1, List.getD_eq_getElem?_getD, List.getElem?_eq_getElem h1];show _ * ((-1) * ms[l * n + j]) = (-1) * (_ * ms[l * n + j])
    ac_rfl
   have q : ∀ a b : Int, (-1) * (-a * b) = a * b := fun a b => by rw [Int.neg_mul, Int.neg_mul, Int.one_mul, Int.neg_neg]
   rw [e2, bC, e1, q]
 · obtain ⟨y, hy, rfl⟩ := List.mem_map.1 hx;show ag ((-1) * y).natAbs <= _;rw [show ((-1) * y).natAbs = y.natAbs by rw [Int.natAbs_mul]; simp];exact Nat.le_trans (h.wl y hy) hw
 · have e1 := hl i hi j hj;rw [vC, if_neg he] at e1;rw [aj (g := fun l => ai xs n n i l * N (n - 1) l j) fun l hl' => by rw [h.eq l hl' j hj], e1];congr 1;omega
theorem ub {mw : Nat} {xs ms : List Int} (h : ms.length = 0 * 0) : nY 0 mw xs ms := ⟨h, fun i hi => by omega, fun x hx => by have : ms = [] := List.eq_nil_of_length_eq_zero (by omega); subst this; cases hx⟩
set_option maxRecDepth 100000 in
set_option maxHeartbeats 4000000 in
theorem ze (n nm cap mw : Nat) (ao : Option Addr) (xs : List Int) (w : World) (hn : n <= 64) (hmw : mw <= 1048577) (hA : aI w mw ao xs) (hs : xs.length = n * n) (hnm : xs.length = nm) (hxw : ∀ x ∈ xs, ag x.natAbs <= mw) :
 Calls Try.prog 38 #[.agg #[.int .i64 (n : Int), .int .i64 (n : Int), .slice ao nm cap]] w fun e w' => (∃ p : (Option Addr × Nat) × List Int, e = .returned (.tuple #[.agg #[.int .i64 (n : Int), .int .i64 (n : Int), .slice p.1.1 (n * n) p.1.2], .int .i64 0]) /\ ea w' p.1.1 p.2 /\ nY n mw xs p.2 /\ ∀ b o, p.1.1 = some ⟨b, o, none⟩ -> w.heap.size <= b) /\ Below w.heap.size w w' := by
 have c0 : ∀ w', Calls Try.prog 14 #[.agg #[.int .i64 (n : Int), .int .i64 (n : Int), .slice ao nm cap]] w' fun e w'' => e = .returned (.int .i64 0) /\ Below w'.heap.size w' w'' := fun w' => by
  have := cF (n : Int) (n : Int) ao nm cap w' (by omega) (by omega);rw [dm (by unfold aR bB; rw [<- hnm, hs]; simp; omega)] at this; exact this
 obtain ⟨N, c, f0, f1, f2⟩ := fl0 n (ai xs n n);have hB : ∀ s, s <= 64 -> 1 + s * (mw + 3) <= 100000000 := fun s h => by have := Nat.mul_le_mul_right (mw + 3) h; omega
 have c1 : ∀ s ms (po : Option Addr) pc w', s + 1 < n -> jc n mw N s ms -> ea w' po ms -> aI w' mw ao xs -> Calls Try.prog 39 #[.agg #[.int .i64 (n : Int), .int .i64 (n : Int), .slice ao nm cap], .agg #[.int .i64 (n : Int), .int .i64 (n : Int), .slice po (n * n) pc]] w' fun e w'' => (∃ p : Option Addr × Nat, e = .returned (.tuple #[.agg #[.int .i64 (n : Int), .int .i64 (n : Int), .slice p.1 (n * n) p.2], .int .i64 0]) /\ ea w'' p.1 (aC n (bc n n xs ms) (n * n)) /\ True /\ ∀ b o, p.1 = some ⟨b, o, none⟩ -> w'.heap.size <= b) /\ Below w'.heap.size w' w'' := fun s ms po pc w' hs' hI h hA => by
  have := hB s (by omega);exact rG n n n nm (n * n) cap pc mw (1 + s * (mw + 3)) ao po xs ms w' hA (h.gK hI.wl) (by omega) hs hnm hI.len hI.len hn hn hn hxw hI.wl
 have c2 : ∀ s ms (po : Option Addr) pc w', s + 1 < n -> jc n mw N s ms -> ea w' po (aC n (bc n n xs ms) (n * n)) -> Calls Try.prog 64 #[.agg #[.int .i64 (n : Int), .int .i64 (n : Int), .slice po (n * n) pc]] w' fun e w'' => (∃ v, e = .returned (.tuple #[v, .int .i64 0]) /\ ak w'' w'.heap.size v (-(((s + 1 : Nat) : Int) * c (s + 1)))) /\ Below w'.heap.size w' w'' := fun s ms po pc w' hs' hI h => by
  have h1 := hI.pw hn hs hxw;have := hB s (by omega);have h2 := ux n (n * n) pc (mw + (1 + s * (mw + 3)) + 1) po (aC n (bc n n xs ms) (n * n)) w' hn (h.gK h1) (by omega) (aA ..) (aA ..) h1;rw [hI.tr hs, (f1 s hs').1, show ((s : Int) + 1) = ((s + 1 : Nat) : Int) by omega] at h2;exact h2
 have c3 : ∀ s ms, s + 1 < n -> jc n mw N s ms -> ag (((s + 1 : Nat) : Int) * c (s + 1)).natAbs <= mw + (1 + s * (mw + 3)) + 2 := fun s ms hs' hI => by
  have h1 := hI.pw hn hs hxw;have h2 := lh (k := n) (f := fun i => gi (aC n (bc n n xs ms) (n * n)) (i * n + i)) (fun t ht => h1 _ (cD (by rw [aA]; exact bQ ht ht))) hn;rw [hI.tr hs, (f1 s hs').1, Int.natAbs_neg, show ((s : Int) + 1) = ((s + 1 : Nat) : Int) by omega] at h2;exact h2
 have c4 : ∀ s ms, s + 1 < n -> jc n mw N s ms -> ag (c (s + 1)).natAbs <= mw + (1 + s * (mw + 3)) + 2 := fun s ms hs' hI => Nat.le_trans (aH (by
  rw [Int.natAbs_mul];exact Nat.le_mul_of_pos_left _ (by omega))) (c3 s ms hs' hI)
 have c5 : ∀ s ms, s + 1 < n -> jc n mw N s ms -> jc n mw N (s + 1) (aC n (ll n (aC n (bc n n xs ms) (n * n)) ((aC n bO (n * n)).map (c (s + 1) * ·))) (n * n)) := fun s ms hs' hI => hI.next hn hs hxw (f1 s hs').2 (c4 s ms hs' hI);have c6 : ∀ s ms (po : Option Addr) pc pk w', s + 1 < n -> jc n mw N s ms -> aw w' (mw + (1 + s * (mw + 3)) + 2) (av pk) (c (s + 1)) -> ea w' po (aC n bO (n * n)) -> Calls Try.prog 65 #[av pk, .agg #[.int .i64 (n : Int), .int .i64 (n : Int), .slice po (n * n) pc]] w' fun e w'' => (∃ q : Nat, e = .returned (.tuple #[.agg #[.int .i64 (n : Int), .int .i64 (n : Int), .slice (some ⟨q, 0, none⟩) (n * n) (n * n)], .int .i64 0]) /\ ea w'' (some ⟨q, 0, none⟩) ((aC n bO (n * n)).map (c (s + 1) * ·)) /\ True /\ ∀ b o, (some ⟨q, 0, none⟩ : Option Addr) = some ⟨b, o, none⟩ -> w'.heap.size <= b) /\ Below w'.heap.size w' w'' := fun s ms po pc pk w' hs' hI hk h => by
  have := hB s (by omega);exact oq n n (n * n) pc (mw + (1 + s * (mw + 3)) + 2) po (aC n bO (n * n)) (c (s + 1)) pk w' hn hn (by omega) hk (h.gK (kU (fun i j _ _ => by
   unfold bO; split
   · exact Nat.le_trans (an (k := 1) (by unfold W; decide)) (by omega)
   · simp [aN]) rfl)) (aA ..) (aA ..)
 have c7 : ∀ s ms (po : Option Addr) pc q w', s + 1 < n -> jc n mw N s ms -> ea w' po (aC n (bc n n xs ms) (n * n)) -> ea w' (some ⟨q, 0, none⟩) ((aC n bO (n * n)).map (c (s + 1) * ·)) -> Calls Try.prog 66 #[.agg #[.int .i64 (n : Int), .int .i64 (n : Int), .slice po (n * n) pc], .agg #[.int .i64 (n : Int), .int .i64 (n : Int), .slice (some ⟨q, 0, none⟩) (n * n) (n * n)]] w' fun e w'' => (∃ p : (Option Addr × Nat) × List Int, e = .returned (.tuple #[.agg #[.int .i64 (n : Int), .int .i64 (n : Int), .slice p.1.1 (n * n) p.1.2], .int .i64 0]) /\ ea w'' p.1.1 p.2 /\ jc n mw N (s + 1) p.2 /\ ∀ b o, p.1.1 = some ⟨b, o, none⟩ -> w'.heap.size <= b) /\ Below w'.heap.size w' w'' := fun s ms po pc q w' hs' hI h1 h2 => by
  have := hB s (by omega);exact (xA n n (n * n) pc (n * n) (mw + (1 + s * (mw + 3)) + 2) po (some ⟨q, 0, none⟩) (aC n (bc n n xs ms) (n * n)) ((aC n bO (n * n)).map (c (s + 1) * ·)) w' (h1.gK fun x hx => Nat.le_trans (hI.pw hn hs hxw x hx) (by omega)) (h2.gK fun x hx => by
   obtain ⟨y, hy, rfl⟩ := List.mem_map.1 hx;obtain ⟨t, _, rfl⟩ := List.mem_map.1 hy;show ag (c (s + 1) * bO (t / n) (t % n)).natAbs <= _;unfold bO; split
   · rw [Int.mul_one]; exact c4 s ms hs' hI
   · rw [Int.mul_zero]; simp [aN]) (by omega) (aA ..) (aA ..) (by rw [List.length_map, aA]) hn hn).mono fun e w'' ⟨⟨p, he, hl, _, hf⟩, hb⟩ => ⟨⟨(p, _), he, hl, c5 s ms hs' hI, hf⟩, hb⟩
 have c8 : jc n mw N 0 (aC n bO (n * n)) := jc.start f0;have c9 : ∀ ms, jc n mw N (n - 1) ms -> 0 < n -> (n % 2 = 0 -> nY n mw xs (ms.map ((-1) * ·))) /\ (¬ n % 2 = 0 -> nY n mw xs ms) := fun ms hI h0 => xq hI hn (f2 h0) h0;have c10 : ∀ s ms (po : Option Addr) pc pk w', s < 64 -> jc n mw N s ms -> aw w' 1 (av pk) (-1) -> ea w' po ms -> Calls Try.prog 65 #[av pk, .agg #[.int .i64 (n : Int), .int .i64 (n : Int), .slice po (n * n) pc]] w' fun e w'' => (∃ q : Nat, e = .returned (.tuple #[.agg #[.int .i64 (n : Int), .int .i64 (n : Int), .slice (some ⟨q, 0, none⟩) (n * n) (n * n)], .int .i64 0]) /\ ea w'' (some ⟨q, 0, none⟩) (ms.map ((-1) * ·)) /\ True /\ ∀ b o, (some ⟨q, 0, none⟩ : Option Addr) = some ⟨b, o, none⟩ -> w'.heap.size <= b) /\ Below w'.heap.size w' w'' := fun s ms po pc pk w' hs' hI hk h => by
  have := hB s (by omega);exact oq n n (n * n) pc (1 + s * (mw + 3)) po ms (-1) pk w' hn hn (by omega) (hk.mono (by omega)) (h.gK hI.wl) hI.len hI.len
 have HC := Lib.hid (And.intro c0 (And.intro c1 (And.intro c2 (And.intro c3 (And.intro c4 (And.intro c6 (And.intro c7 (And.intro c8 (And.intro c9 (And.intro c10 hB))))))))));clear c0 c1 c2 c3 c4 c5 c6 c7 c8 c9 c10 hB f0 f1 f2 hs hnm hxw;refine aZ (S0 := fun _ => False) Try.func38 ((Fr.nil _ w).l hA (by simp)) ?_;clear hA;refine ae ?_;refine rW [] ?_;refine aW fun g1 => ?_;refine aW fun g2 => ?_;refine dW ?_;refine eW ?_;refine ae ?_;refine rW [] ?_;refine dW ?_;refine cV (v := .int .i64 0) (fun w' H => HC.out.1 w') ?_;refine dW ?_;refine eW ?_;refine ae ?_;refine rW [] ?_;refine dW ?_;refine dB false ?_;refine eW ?_;refine ae ?_;refine bX ?_;refine ae ?_;refine rW [] ?_;refine dW ?_;refine dW ?_;refine dW ?_;refine dW ?_;refine dB false ?_;refine eW ?_;refine ae ?_;refine bX ?_;refine ae ?_;refine rW [] ?_;refine dW ?_;refine dW ?_;refine kJ (α := Option Addr × Nat) (mk := fun p => .tuple #[.agg #[.int .i64 (n : Int), .int .i64 (n : Int), .slice p.1 (n * n) p.2], .int .i64 0]) (ao := fun p => p.1) (xs := fun _ => aC n bO (n * n)) (A := fun _ => True) (fun w' H => se n w' hn) fun qU => ?_;refine dW ?_;refine dW ?_;refine dW ?_;refine aW fun g5 => ?_;refine sG ?_;refine dW ?_;refine eW ?_;refine ae ?_;refine lJ (A := True /\ ∀ b o, qU.1 = some ⟨b, o, none⟩ -> w.heap.size <= b) (by simp) fun hU => ?_;have HU := Lib.hid hU.2;clear hU;refine rW [] ?_;refine dW ?_;refine eW ?_;refine ae ?_;refine bF (X := Nat × (Option Addr × Nat) × List Int) (fun x => (x.1 = 0 ∨ x.1 + 1 <= n) /\ jc n mw N x.1 x.2.2 /\ ∀ b o, x.2.1.1 = some ⟨b, o, none⟩ -> w.heap.size <= b) (fun x => n - x.1) (fun x => [(7, .int .i64 ((x.1 + 1 : Nat) : Int)), (6, .int .i64 0), (1, .pointer (some ⟨g1, 0, none⟩)), (2, .pointer (some ⟨g2, 0, none⟩)), (5, .pointer (some ⟨g5, 0, none⟩))])
  (fun x => [.row g5 24 [.int .i64 (n : Int), .int .i64 (n : Int), .slice x.2.1.1 (n * n) x.2.1.2], .row g1 24 [.int .i64 (n : Int), .int .i64 (n : Int), .slice ao nm cap], .row g2 24 [.int .i64 0, .int .i64 0, .slice none 0 0], .gX x.2.1.1 x.2.2, .ls mw ao xs]) (0, qU, aC n bO (n * n)) ⟨.inl rfl, HC.out.2.2.2.2.2.2.2.1, HU.out⟩ fun x hx => ?_
 obtain ⟨s, ⟨po, pc⟩, ms⟩ := x;obtain ⟨hs, hI, hfr⟩ := hx;have HFr := Lib.hid (show ∀ b o, po = some ⟨b, o, none⟩ -> w.heap.size <= b from hfr);clear hfr
 replace hs : s = 0 ∨ s + 1 <= n := hs
 have HI := Lib.hid (show jc n mw N s ms from hI);clear hI;by_cases h : s + 1 < n
 · have h01 : ((s + 1 : Nat) : Int) < (n : Int) := by omega
   have hBs := HC.out.2.2.2.2.2.2.2.2.2.2 s (by omega);refine ae ?_;refine rW [] ?_;refine dW ?_;refine dB true ?_;refine dW ?_;refine dG ?_;refine dG ?_;refine dG ?_;refine j8 true ?_;refine dW ?_;refine eW ?_;refine ae ?_;refine dO ?_;refine ae ?_;refine rW [] ?_;refine dW ?_;refine dW ?_;refine kJ (α := Option Addr × Nat) (mk := fun p => .tuple #[.agg #[.int .i64 (n : Int), .int .i64 (n : Int), .slice p.1 (n * n) p.2], .int .i64 0]) (ao := fun p => p.1) (xs := fun _ => aC n (bc n n xs ms) (n * n)) (A := fun _ => True) (fun w' H => HC.out.2.1 s ms po pc w' h HI.out (H.all (.gX po ms) (by simp)) (H.all (.ls mw ao xs) (by simp))) fun qp => ?_;refine dW ?_;refine dW ?_;refine dW ?_;refine aW fun g8 => ?_;refine sG ?_;refine dW ?_;refine eW ?_;refine ae ?_;refine rW [] ?_;refine dW ?_;refine sq (x := -(((s + 1 : Nat) : Int) * c (s + 1))) (z := .int .i64 0) (fun w' H => HC.out.2.2.1 s ms qp.1 qp.2 w' h HI.out (H.all (.gX qp.1 (aC n (bc n n xs ms) (n * n))) (by simp))) fun pt => ?_;refine dW ?_;refine dW ?_;refine dW ?_;refine aW fun g10 => ?_;refine sG ?_;refine dW ?_;refine eW ?_;refine ae ?_;refine rW [] ?_;refine dW ?_;refine cN (x := ((s + 1 : Nat) : Int) * c (s + 1)) (fun w' H => by
    have := kb (av pt) (-(((s + 1 : Nat) : Int) * c (s + 1))) w' (ak.int (H.all (.own w.heap.size (av pt) (-(((s + 1 : Nat) : Int) * c (s + 1)))) (by simp [av])) (by rw [Int.natAbs_neg]; exact Nat.le_trans (HC.out.2.2.2.1 s ms h HI.out) (by omega)));rw [Int.neg_neg] at this; exact this) fun pn => ?_
   refine dW ?_;refine cN (x := ((s + 1 : Nat) : Int)) (fun w' H => im ((s + 1 : Nat) : Int) w' (by omega) (by omega)) fun pk => ?_;refine sq (x := c (s + 1)) (z := .int .i64 0) (fun w' H => by
    have := fh (av pn) (av pk) (((s + 1 : Nat) : Int) * c (s + 1)) ((s + 1 : Nat) : Int) w' (ak.int (H.all (.own w.heap.size (av pn) (((s + 1 : Nat) : Int) * c (s + 1))) (by simp [av])) (Nat.le_trans (HC.out.2.2.2.1 s ms h HI.out) (by omega))) (ak.int (H.all (.own w.heap.size (av pk) ((s + 1 : Nat) : Int)) (by simp [av])) (by rw [Int.natAbs_natCast]; exact Nat.le_trans (an (k := 1) (by rw [Nat.pow_one]; unfold W; omega)) (by omega))) (by omega) (Int.dvd_mul_right ..);rw [Int.mul_ediv_cancel_left _ (by omega)] at this; exact this) fun pc1 => ?_
   refine dW ?_;refine dW ?_;refine dW ?_;refine aW fun g12 => ?_;refine sG ?_;refine dW ?_;refine eW ?_;refine ae ?_;refine rW [] ?_;refine dW ?_;refine dW ?_;refine kJ (α := Option Addr × Nat) (mk := fun p => .tuple #[.agg #[.int .i64 (n : Int), .int .i64 (n : Int), .slice p.1 (n * n) p.2], .int .i64 0]) (ao := fun p => p.1) (xs := fun _ => aC n bO (n * n)) (A := fun _ => True) (fun w' H => se n w' hn) fun qV => ?_;refine dW ?_;refine dW ?_;refine dW ?_;refine aW fun g14 => ?_;refine sG ?_;refine dW ?_;refine eW ?_;refine ae ?_;refine rW [] ?_;refine dW ?_;refine dW ?_;refine kJ (α := Nat) (mk := fun q => .tuple #[.agg #[.int .i64 (n : Int), .int .i64 (n : Int), .slice (some ⟨q, 0, none⟩) (n * n) (n * n)], .int .i64 0]) (ao := fun q => some ⟨q, 0, none⟩) (xs := fun _ => (aC n bO (n * n)).map (c (s + 1) * ·)) (A := fun _ => True) (fun w' H => HC.out.2.2.2.2.2.1 s ms qV.1 qV.2 pc1 w' h HI.out (ak.int (H.all (.own w.heap.size (av pc1) (c (s + 1))) (by simp [av])) (HC.out.2.2.2.2.1 s ms h HI.out)) (H.all (.gX qV.1 (aC n bO (n * n))) (by simp))) fun qs => ?_;refine dW ?_;refine dW ?_;refine dW ?_;refine sW ?_;refine eW ?_;refine ae ?_;refine rW [] ?_;refine dW ?_;refine dW ?_;refine kJ (α := (Option Addr × Nat) × List Int) (mk := fun p => .tuple #[.agg #[.int .i64 (n : Int), .int .i64 (n : Int), .slice p.1.1 (n * n) p.1.2], .int .i64 0]) (ao := fun p => p.1.1) (xs := fun p => p.2) (A := fun p => jc n mw N (s + 1) p.2) (hne := ⟨((none, 0), [])⟩) (fun w' H => HC.out.2.2.2.2.2.2.1 s ms qp.1 qp.2 qs w' h HI.out (H.all (.gX qp.1 (aC n (bc n n xs ms) (n * n))) (by simp)) (H.all (.gX (some ⟨qs, 0, none⟩) ((aC n bO (n * n)).map (c (s + 1) * ·))) (by simp))) fun qa => ?_;refine dW ?_;refine dW ?_;refine dW ?_;refine sW ?_;refine dW ?_;refine eW ?_;refine ae ?_;refine lJ (A := jc n mw N (s + 1) qa.2 /\ ∀ b o, qa.1.1 = some ⟨b, o, none⟩ -> w.heap.size <= b) (by simp) fun hq => ?_;have HA2 := Lib.hid hq;clear hq;refine rW [] ?_;refine dW ?_;refine dE (cd (a := s + 1) (by omega)) ?_;refine dW ?_;refine eW ?_;refine ae ?_;exact bh (s + 1, qa.1, qa.2) ⟨⟨.inr h, HA2.out.1, HA2.out.2⟩, by show n - (s + 1) < n - s; omega⟩
 · have h01 : ¬ ((s + 1 : Nat) : Int) < (n : Int) := by omega
   refine ae ?_;refine rW [] ?_;refine dW ?_;refine dB true ?_;refine dW ?_;refine dG ?_;refine dG ?_;refine dG ?_;refine j8 false ?_;by_cases h0 : n = 0
   · have HN := Lib.hid h0;have h02 : ¬ (0 : Int) < (n : Int) := by omega
     clear h0;refine dW ?_;refine eW ?_;refine ae ?_;refine bX ?_;refine ae ?_;refine rW [] ?_;refine dW ?_;refine dB true ?_;refine dW ?_;refine dG ?_;refine dG ?_;refine j8 false ?_;refine dW ?_;refine dW ?_;refine uG ?_;refine uG ?_;refine uG ?_;refine uG ?_;refine dW ?_;refine eW ?_;refine ae ?_;refine bX ?_;refine ae ?_;refine rW [] ?_;refine dW ?_;refine dW ?_;refine sW ?_;refine dW ?_;refine eW ?_;refine ae ?_;refine dX fun w' H => ?_;exact ⟨_, _, lO (H.all (.row g2 24 [.int .i64 (n : Int), .int .i64 (n : Int), .slice po (n * n) pc]) (by simp)), cX, ⟨((po, pc), ms), rfl, H.all (.gX po ms) (by simp), by have h1 := HI.out.len; rw [HN.out] at h1 ⊢; exact ub h1, HFr.out⟩, H.below⟩
   · have h02 : (0 : Int) < (n : Int) := by omega
     obtain rfl : s = n - 1 := by omega
     have HE := Lib.hid (HC.out.2.2.2.2.2.2.2.2.1 ms HI.out (by omega));refine dW ?_;refine eW ?_;refine ae ?_;refine bX ?_;refine ae ?_;refine rW [] ?_;refine dW ?_;refine dB true ?_;refine dW ?_;refine dG ?_;refine dG ?_;refine j8 true ?_;refine dW ?_;refine dW ?_;refine dG ?_;refine dG ?_;refine dGE (remI2 (a := n) (by omega)) ?_;by_cases he : n % 2 = 0
     · have h03 : ((n % 2 : Nat) : Int) = 0 := by omega
       refine j8 true ?_;refine dW ?_;refine eW ?_;refine ae ?_;refine dO ?_;refine ae ?_;refine rW [] ?_;refine cN (x := -1) (fun w' H => im (-1) w' (by omega) (by omega)) fun pm => ?_;refine dW ?_;refine kJ (α := Nat) (mk := fun q => .tuple #[.agg #[.int .i64 (n : Int), .int .i64 (n : Int), .slice (some ⟨q, 0, none⟩) (n * n) (n * n)], .int .i64 0]) (ao := fun q => some ⟨q, 0, none⟩) (xs := fun _ => ms.map ((-1) * ·)) (A := fun _ => True) (fun w' H => HC.out.2.2.2.2.2.2.2.2.2.1 (n - 1) ms po pc pm w' (by omega) HI.out (ak.int (H.all (.own w.heap.size (av pm) (-1)) (by simp [av])) (an (k := 1) (by rw [Nat.pow_one]; unfold W; decide))) (H.all (.gX po ms) (by simp))) fun qz => ?_;refine dW ?_;refine dW ?_;refine sW ?_;refine dW ?_;refine eW ?_;refine ae ?_;refine dX fun w' H => ?_;have HQ : True /\ ∀ b o, (some ⟨qz, 0, none⟩ : Option Addr) = some ⟨b, o, none⟩ -> w.heap.size <= b := H.all (.pr (True /\ ∀ b o, (some ⟨qz, 0, none⟩ : Option Addr) = some ⟨b, o, none⟩ -> w.heap.size <= b)) (by simp);exact ⟨_, _, lO (H.all (.row g2 24 [.int .i64 (n : Int), .int .i64 (n : Int), .slice (some ⟨qz, 0, none⟩) (n * n) (n * n)]) (by simp)), cX, ⟨((some ⟨qz, 0, none⟩, n * n), ms.map ((-1) * ·)), rfl, H.all (.gX (some ⟨qz, 0, none⟩) (ms.map ((-1) * ·))) (by simp), HE.out.1 he, HQ.2⟩, H.below⟩
     · have h03 : ¬ ((n % 2 : Nat) : Int) = 0 := by omega
       refine j8 false ?_;refine dW ?_;refine eW ?_;refine ae ?_;refine bX ?_;refine ae ?_;refine rW [] ?_;refine dW ?_;refine dW ?_;refine sW ?_;refine dW ?_;refine eW ?_;refine ae ?_;refine dX fun w' H => ?_;exact ⟨_, _, lO (H.all (.row g2 24 [.int .i64 (n : Int), .int .i64 (n : Int), .slice po (n * n) pc]) (by simp)), cX, ⟨((po, pc), ms), rfl, H.all (.gX po ms) (by simp), HE.out.2 he, HFr.out⟩, H.below⟩
end Go.Proofs.Ytjjlmfmoihooiaa
namespace Go.Proofs.Ytjjlmfmoihooiaa
theorem du.pick {k m : Nat} {H : Mx} {l c : Nat -> Nat} (h : du k m H l) (e : ∀ t < k, c t = l t) : du k k (jx k c H) fun i => i := by
 refine ⟨⟨fun i j hij _ => hij, fun i hi => hi, fun i hi j hj => ?_, fun i hi => ?_⟩, fun i j hij hj => ?_⟩
 · unfold jx;rw [if_pos (by omega), e j (by omega)];exact h.zero i hi _ (h.inc j i hj hi)
 · unfold jx;rw [if_pos hi, e i hi];exact h.pos i hi
 · unfold jx;rw [if_pos hj, if_pos hj, e j hj];exact h.red i j hij hj
section
variable {n m k : Nat} {xs zs : List Int} {c1 c2 : Nat -> Nat}
theorem ei.spEq (h : ei n m xs k c1 c2 zs) {hs : List Int} (hsp : aO n (ai xs n m) k (ai hs k m)) : aO k (ai zs k k) k (jx k c2 (ai hs k m)) := by
 refine ⟨fun t ht => ?_, fun t ht => ?_⟩
 · refine ((h.2.2.2.1.sp _).1 (Sp.row _ ht)).least (P := Sp k (jx k c2 (ai hs k m))) ⟨⟨fun _ => 0, fun i => (bf fun t _ => Int.zero_mul _).symm⟩, fun _ _ h k => h.add k, fun s _ h => h.smul s⟩ (fun i hi => ?_) fun i hi => ?_
   · refine ((hsp.1 i hi).jx (k := k) (c := c2)).congr fun b => ?_;rw [rE (n := n) (r := n) (fun t ht => by rw [show (List.range n).getD t 0 = t by simp [ht]]; exact ht) h.2.1.oD hi b, show (List.range n).getD i 0 = i by simp [hi]]; rfl
   · have h2 := uI (fun a b => ai xs n m (c1 a) (c2 b)) hi;rw [<- nW (n := n) h.1.oD h.2.1.oD] at h2;have h3 : Sp k (jx k c2 (ai hs k m)) (eD (bK m xs k c1 c2) i) := h2.trans fun a ha => (((hsp.1 (c1 a) (h.1.oD a ha)).jx (k := k) (c := c2))).congr fun b => rfl;rcases Int.natAbs_eq (bK m xs k c1 c2) with e | e
     · rw [<- e]; exact h3
     · refine (h3.smul (-1)).congr fun b => ?_;unfold eD; split <;> omega
 · obtain ⟨y, hy⟩ := hsp.2 t ht;refine Sp.trans (E := ai zs k k) (n := k) (F := jx k c2 (ai xs n m)) (m := n) ?_ fun i hi => h.xL hi;exact (show Sp n (ai xs n m) (ai hs k m t) from ⟨y, hy⟩).jx
theorem ei.eqH (h : ei n m xs k c1 c2 zs) {hs : List Int} {l : Nat -> Nat} (hH : du k m (ai hs k m) l) (hsp : aO n (ai xs n m) k (ai hs k m)) {t b : Nat} (ht : t < k) (hb : b < k) : ai zs k k t b = ai hs k m t (c2 b) := by
 have hl := (h.2.1.leads hH hsp).2;have := (h.2.2.2.1.herm.unique (hH.pick hl) (h.spEq hsp)).2.2 t ht b;rw [this];unfold jx;rw [if_pos hb]
theorem uW {n m : Nat} (f : Nat -> Int) (g : Nat -> Nat -> Int) (q : Nat -> Int) : (sm n fun r => (sm m fun s => f s * g s r) * q r) = sm m fun s => f s * sm n fun r => g s r * q r := by
 have e1 : (sm n fun r => (sm m fun s => f s * g s r) * q r) = sm n fun r => sm m fun s => f s * (g s r * q r) := aj fun r _ => by
  rw [<- dR];exact aj fun s _ => Int.mul_assoc ..
 rw [e1, iD];exact aj fun s _ => bC ..
theorem ei.form (h : ei n m xs k c1 c2 zs) {hs : List Int} {l : Nat -> Nat} (hH : du k m (ai hs k m) l) (hsp : aO n (ai xs n m) k (ai hs k m)) {adj : Mx} (ha : ∀ i < k, ∀ j < k, (sm k fun r => ai xs n m (c1 i) (c2 r) * adj r j) = bK m xs k c1 c2 * uM i j) {t j : Nat} (ht : t < k) :
 (sm k fun r => (sm k fun b => ai zs k k t b * adj b r) * ai xs n m (c1 r) j) = bK m xs k c1 c2 * ai hs k m t j := by
 obtain ⟨D, hD⟩ : ∃ D, bK m xs k c1 c2 = D := ⟨_, rfl⟩;rw [hD] at ha ⊢;have h1 := h.1;rw [qI] at h1;obtain ⟨nu, R, d, hb⟩ := h1;have hrow : ∀ i, i < n -> Sp k (fun s => ai xs n m (c1 s)) fun j => d * ai xs n m i j := fun i hi => hb.y4 (fun i j hj => jk hj i) (fun i j hi => dQ j hi) hi;have hHt : Sp k (fun s => ai xs n m (c1 s)) fun j => d * ai hs k m t j := by
  obtain ⟨x, hx⟩ := hsp.2 t ht;refine (Sp.sm (x := x) hrow).congr fun j => ?_;show d * ai hs k m t j = _;rw [hx, <- bC];exact aj fun i _ => by ac_rfl
 obtain ⟨y, hy⟩ := hHt;refine Int.eq_of_mul_eq_mul_left hb.d0 ?_;have e1 : ∀ r, r < k -> d * (sm k fun b => ai zs k k t b * adj b r) = D * y r := fun r hr => by
  have q1 : d * (sm k fun b => ai zs k k t b * adj b r) = sm k fun b => (sm k fun s => y s * ai xs n m (c1 s) (c2 b)) * adj b r := by
   rw [<- bC];exact aj fun b hb' => by
    rw [h.eqH hH hsp ht hb', <- hy (c2 b)];exact (Int.mul_assoc ..).symm
  rw [q1, uW];have q2 : (sm k fun s => y s * sm k fun b => ai xs n m (c1 s) (c2 b) * adj b r) = sm k fun s => y s * (D * uM s r) := aj fun s hs' => by rw [ha s hs' r hr]
  rw [q2, dv r hr fun s _ hsr => by unfold uM; rw [if_neg hsr]; simp];unfold uM;rw [if_pos rfl, Int.mul_one, Int.mul_comm]
 have e2 : d * (sm k fun r => (sm k fun b => ai zs k k t b * adj b r) * ai xs n m (c1 r) j) = sm k fun r => D * (y r * ai xs n m (c1 r) j) := by
  rw [<- bC];exact aj fun r hr => by rw [<- Int.mul_assoc, e1 r hr, Int.mul_assoc]
 rw [e2, bC, <- hy j]
 ac_rfl
theorem ei.jh {mw : Nat} (h : ei n m xs k c1 c2 zs) (hn : n <= 66) (hb : ∀ x ∈ xs, x.natAbs < W ^ mw) : ∃ hs l, hs.length = k * m /\ du k m (ai hs k m) l /\ aO n (ai xs n m) k (ai hs k m) := by
 obtain ⟨hs, K, hB, _⟩ := j1 (c := m) (m := mw) (n := n) (E := ai xs n m) hn (fun i b _ => dC (Nat.pow_pos (by unfold W; omega)) hb i b) fun i b hb => dQ i hb;obtain ⟨l, hl⟩ := hB.herm;obtain ⟨rfl, _⟩ := h.2.1.leads hl hB.sp;exact ⟨hs, l, hB.len, hl, hB.sp⟩
theorem nJ {r c : Nat} {f : Nat -> Nat -> Int} {i j : Nat} (hi : i < r) (hj : j < c) : gi (aC c f (r * c)) (i * c + j) = f i j := eP f hi hj
theorem ei.formL {mw : Nat} (h : ei n m xs k c1 c2 zs) {hs al : List Int} {l : Nat -> Nat} (hhl : hs.length = k * m) (hH : du k m (ai hs k m) l) (hsp : aO n (ai xs n m) k (ai hs k m)) (ha : nY k mw (aC k (bL m xs ((List.range k).map c1) ((List.range k).map c2)) (k * k)) al) {q : Nat} (hq : q < k * m) :
 gi (aC m (bc k m (aC k (bc k k zs al) (k * k)) (aC m (bL m xs ((List.range k).map c1) (List.range m)) (k * m))) (k * m)) q = bK m xs k c1 c2 * gi hs q := by
 have hm : 0 < m := by
  rcases Nat.eq_zero_or_pos m with e | e
  · subst e; omega
  · exact e
 obtain ⟨t, j, ht, hj, rfl⟩ : ∃ t j, t < k /\ j < m /\ q = t * m + j := ⟨q / m, q % m, Nat.div_lt_of_lt_mul (by rw [Nat.mul_comm]; exact hq), Nat.mod_lt _ hm, by rw [Nat.mul_comm]; exact (Nat.div_add_mod q m).symm⟩;rw [nJ ht hj];have e1 := h.form hH hsp (adj := ai al k k) (t := t) (j := j) (fun i hi j hj => by
  have := ha.2.1 i hi j hj;have e : (sm k fun r => ai xs n m (c1 i) (c2 r) * ai al k k r j) = sm k fun l => ai (aC k (bL m xs ((List.range k).map c1) ((List.range k).map c2)) (k * k)) k k i l * ai al k k l j := aj fun r hr => by
   rw [nv hi hr];unfold bL;rw [gn hi, gn hr, aM (h.1.oD i hi) (h.2.1.oD r hr)]; rfl
  rw [e, this]; rfl) ht
 rw [show gi hs (t * m + j) = ai hs k m t j by rw [aM ht hj]; rfl, <- e1];refine aj fun r hr => ?_;rw [nJ ht hr, nJ hr hj];have e2 : bc k k zs al t r = sm k fun b => ai zs k k t b * ai al k k b r := aj fun b hb => by rw [aM ht hb, aM hb hr]; rfl
 have e3 : bL m xs ((List.range k).map c1) (List.range m) r j = ai xs n m (c1 r) j := by
  unfold bL;rw [gn hr, show (List.range m).getD j 0 = j by simp [hj], aM (h.1.oD r hr) hj]; rfl
 rw [e2, e3]
theorem sL {hs ys : List Int} {l : Nat -> Nat} (hk : k <= n) (hhl : hs.length = k * m) (hH : du k m (ai hs k m) l) (hsp : aO n (ai xs n m) k (ai hs k m)) (hyl : ys.length = n * m) (hy : ∀ q, gi ys q = if q < k * m then gi hs q else 0) : ko n m xs ys k l := by
 have e : ∀ i j, ai ys n m i j = if i < k then ai hs k m i j else 0 := fun i j => by
  by_cases hi : i < n /\ j < m
  · rw [aM hi.1 hi.2];have h1 := hy (i * m + j);have h2 : ys.getD (i * m + j) 0 = gi ys (i * m + j) := rfl;rw [h2, h1];by_cases hik : i < k
    · rw [if_pos hik, if_pos (bQ hik hi.2), aM hik hi.2]; rfl
    · rw [if_neg hik, if_neg];have := Nat.mul_le_mul_right m (show k <= i by omega);omega
  · have h1 : ai ys n m i j = 0 := by unfold ai; rw [if_neg hi]
    rw [h1];by_cases hik : i < k
    · rw [if_pos hik];unfold ai;rw [if_neg (fun q => hi ⟨by omega, q.2⟩)]
    · rw [if_neg hik]
 refine ⟨hyl, hk, hH.congr (fun a ha b => by rw [e, if_pos ha]), fun i hi b => by rw [e, if_neg (by omega)], hsp.trans (aO.of_eq fun i hi j => by rw [e, if_pos hi])⟩
end
end Go.Proofs.Ytjjlmfmoihooiaa
namespace Go.Proofs.Ytjjlmfmoihooiaa
open Go.RowKit
theorem lstNw {w w' : World} {ao : Option Addr} {r c K cap : Nat} {ps : List P4} {xs : List Int} (hl : mq ao K cap ps w') (hn : bg w' ps xs) (hS : ∀ b o, ao = some ⟨b, o, none⟩ -> w.heap.size <= b) (hb : Below w.heap.size w w') : ∃ p : (Option Addr × Nat) × List P4, (Ending.returned (.agg #[.int .i64 (r : Int), .int .i64 (c : Int), .slice ao K cap]) = .returned (.agg #[.int .i64 (r : Int), .int .i64 (c : Int), .slice p.1.1 K p.1.2])) /\ Nw w w' [.fV p.1.1 K p.1.2 p.2, .ns p.2 xs] :=
 ⟨((ao, cap), ps), rfl, hb, fun e he => by
  rcases List.mem_cons.1 he with rfl | he
  · exact ⟨hl, fun b ⟨o, e⟩ => hS b o e⟩
  · rcases List.mem_singleton.1 he with rfl;exact ⟨hn, fun _ h => h.elim⟩, .cons (fun x hx => by rcases List.mem_singleton.1 hx with rfl; exact ⟨fun _ _ _ h => h, fun q => nomatch q⟩) (List.pairwise_singleton ..)⟩
set_option maxRecDepth 100000 in
set_option maxHeartbeats 2000000 in
theorem vo (r c : Nat) (la : Option Addr) (cap L : Nat) (xs : List Int) (w : World) (hr : r <= 64) (hc : c <= 64) (hx : xs.length <= min r c) (hA : aI w L la xs) (hL : L <= 17592186044415) :
 Calls Try.prog 69 #[.int .i64 (r : Int), .int .i64 (c : Int), .slice la xs.length cap] w fun e w' => ∃ p : (Option Addr × Nat) × List P4, e = .returned (.tuple #[.agg #[.int .i64 (r : Int), .int .i64 (c : Int), .slice p.1.1 (r * c) p.1.2], .int .i64 0]) /\ Nw w w' [.fV p.1.1 (r * c) p.1.2 p.2, .ns p.2 (aC c (dM xs) (r * c))] := by
 have s1 : bB (r : Int) = true := by unfold bB; simp; omega
 have s2 : bB (c : Int) = true := by unfold bB; simp; omega
 have hS1 : ∀ w', Calls Try.prog 43 #[.int .i64 (r : Int)] w' fun e w'' => e = .returned (.bool true) /\ Below w'.heap.size w' w'' := fun w' => (lf r w').mono fun e w'' ⟨h1, h2⟩ => ⟨by rw [h1, s1], h2 ▸ Below.refl _ _⟩;have hS2 : ∀ w', Calls Try.prog 43 #[.int .i64 (c : Int)] w' fun e w'' => e = .returned (.bool true) /\ Below w'.heap.size w' w'' := fun w' => (lf c w').mono fun e w'' ⟨h1, h2⟩ => ⟨by rw [h1, s2], h2 ▸ Below.refl _ _⟩;clear s1 s2;refine aZ (S0 := fun _ => False) Try.func69 ((Fr.nil _ w).l hA (by simp)) ?_;refine ae ?_;refine rW [] ?_;refine aW fun g5 => ?_;refine aW fun g6 => ?_;refine dW ?_;refine eW ?_;refine ae ?_;refine rW [] ?_;refine dW ?_;refine cV (fun w' H => hS1 w') ?_;refine dW ?_;refine dW ?_;refine dG ?_;refine vR (fun w' H => hS2 w') ?_;refine dG ?_;refine dW ?_;refine eW ?_;refine ae ?_;refine bX ?_;refine ae ?_;refine rW [] ?_;refine dW ?_;refine dW ?_;refine dW ?_;refine dW ?_;refine dE (minI r c) ?_;obtain ⟨k, hk⟩ : ∃ k, min r c = k := ⟨_, rfl⟩;rw [hk] at hx ⊢;clear hk;refine dB false ?_;refine eW ?_;refine ae ?_;refine bX ?_;refine ae ?_;refine rW [] ?_;refine dW ?_;refine dW ?_;refine fW ?_;refine cG (α := (Option Addr × Nat) × List P4) (mk := fun p => .agg #[.int .i64 (r : Int), .int .i64 (c : Int), .slice p.1.1 (r * c) p.1.2]) (ens := fun p => [.fV p.1.1 (r * c) p.1.2 p.2, .ns p.2 (aC c (dM xs) (r * c))]) (hne := ⟨((none, 0), [])⟩)
  (fun w' H => (pW 87 (fun _ _ => by go_simp) #[.pointer (some ⟨g5, 0, none⟩)] r c (dM xs) w' hr hc (fun i j w2 hi hj hb => by
   have h1 : ah w' g5 22 [.slice la xs.length cap] := H.m1;have h2 : aI w' L la xs := H.m2;exact wj i j g5 la cap L xs w2 ((h1.below hb h1.lt).cell 0) (h2.below hb) hL)).mono (by
    rintro e w3 ⟨⟨ao, cap', ps, rfl, hl, hn, hS⟩, hb⟩;exact lstNw hl hn hS hb)) fun q => ?_
 refine sW ?_;refine dW ?_;refine eW ?_;refine ae ?_;refine dX fun w' H => ?_;refine ⟨_, _, lO H.m2, cX, q, rfl, H.below, fun e he => ?_, .cons (fun x hx => by rcases List.mem_singleton.1 hx with rfl; exact ⟨fun _ _ _ h => h, fun q => nomatch q⟩) (List.pairwise_singleton ..)⟩;rcases List.mem_cons.1 he with rfl | he
 · exact ⟨H.m0, fun b hb => (H.own _ (List.mem_cons_self ..) rfl b hb).elim (fun h => h.elim) id⟩
 · rcases List.mem_singleton.1 he with rfl;exact ⟨H.m1, fun _ h => h.elim⟩
set_option maxRecDepth 100000 in
set_option maxHeartbeats 1000000 in
theorem uw (r c : Nat) (w : World) (hr : r <= 64) (hc : c <= 64) :
 Calls Try.prog 40 #[.int .i64 (r : Int), .int .i64 (c : Int)] w fun e w' => ∃ p : (Option Addr × Nat) × List P4, e = .returned (.tuple #[.agg #[.int .i64 (r : Int), .int .i64 (c : Int), .slice p.1.1 (r * c) p.1.2], .int .i64 0]) /\ Nw w w' [.fV p.1.1 (r * c) p.1.2 p.2, .ns p.2 (aC c (dM []) (r * c))] := by
 have HD := Lib.hid (fun w' => vo r c none 0 0 [] w' hr hc (Nat.zero_le _) (fun h => absurd h (Nat.not_lt_zero _)) (by omega));refine aZ (S0 := fun _ => False) Try.func40 (Fr.nil _ w) ?_;refine ae ?_;refine rW [] ?_;refine aW fun g4 => ?_;refine dW ?_;refine eW ?_;refine ae ?_;refine rW [] ?_;refine dW ?_;refine dW ?_;refine cG (α := (Option Addr × Nat) × List P4) (mk := fun p => .tuple #[.agg #[.int .i64 (r : Int), .int .i64 (c : Int), .slice p.1.1 (r * c) p.1.2], .int .i64 0]) (ens := fun p => [.fV p.1.1 (r * c) p.1.2 p.2, .ns p.2 (aC c (dM []) (r * c))]) (hne := ⟨((none, 0), [])⟩) (fun w' H => HD.out w') fun q => ?_;refine dW ?_;refine dW ?_;refine sW ?_;refine dW ?_;refine eW ?_;refine ae ?_;refine dX fun w' H => ?_;refine ⟨_, _, lO (H.all (.row g4 24 [.int .i64 (r : Int), .int .i64 (c : Int), .slice q.1.1 (r * c) q.1.2]) (by simp)), cX, q, rfl, H.below, fun e he => ?_, .cons (fun x hx => by rcases List.mem_singleton.1 hx with rfl; exact ⟨fun _ _ _ h => h, fun q => nomatch q⟩) (List.pairwise_singleton ..)⟩;rcases List.mem_cons.1 he with rfl | he
 · exact ⟨H.m0, fun b hb => (H.own _ (List.mem_cons_self ..) rfl b hb).elim (fun h => h.elim) id⟩
 · rcases List.mem_singleton.1 he with rfl;exact ⟨H.m1, fun _ h => h.elim⟩
set_option maxRecDepth 100000 in
set_option maxHeartbeats 1000000 in
theorem xD (r c : Int) (ao : Option Addr) (len cap : Nat) (w : World) (hr : -9223372036854775808 <= r /\ r <= 9223372036854775807) (hc : -9223372036854775808 <= c /\ c <= 9223372036854775807) (hs : aR r c len = false) :
 Calls Try.prog 75 #[.agg #[.int .i64 r, .int .i64 c, .slice ao len cap]] w fun e w' => e = .returned (.tuple #[.agg #[.int .i64 0, .int .i64 0, .slice none 0 0], .int .i64 1]) /\ Below w.heap.size w w' := by
 have hC := fun w' => cF r c ao len cap w' hr hc;rw [fz hs] at hC;have HC := Lib.hid hC;clear hC hs;refine aZ (S0 := fun _ => False) Try.func75 (Fr.nil _ w) ?_;refine ae ?_;refine rW [] ?_;refine aW fun g1 => ?_;refine aW fun g2 => ?_;refine dW ?_;refine eW ?_;refine ae ?_;refine rW [] ?_;refine dW ?_;refine cV (v := .int .i64 1) (fun w' H => HC.out w') ?_;refine dW ?_;refine eW ?_;refine ae ?_;refine rW [] ?_;refine dW ?_;refine dB true ?_;refine eW ?_;refine ae ?_;refine dO ?_;refine ae ?_;refine rW [] ?_;refine dW ?_;refine dW ?_;refine sW ?_;refine dW ?_;refine eW ?_;refine ae ?_;refine dX fun w' H => ?_;exact ⟨_, _, lO (H.all (.row g2 24 [.int .i64 0, .int .i64 0, .slice none 0 0]) (by simp)), cX, rfl, H.below⟩
set_option maxRecDepth 100000 in
set_option maxHeartbeats 1000000 in
theorem sX (r c : Int) (ao : Option Addr) (len cap : Nat) (w : World) (hr : -9223372036854775808 <= r /\ r <= 9223372036854775807) (hc : -9223372036854775808 <= c /\ c <= 9223372036854775807) (hs : aR r c len = false) :
 Calls Try.prog 53 #[.agg #[.int .i64 r, .int .i64 c, .slice ao len cap]] w fun e w' => e = .returned (.tuple #[.slice none 0 0, .int .i64 1]) /\ Below w.heap.size w w' := by
 have HC := Lib.hid (fun w' => xD r c ao len cap w' hr hc hs);clear hs;refine aZ (S0 := fun _ => False) Try.func53 (Fr.nil _ w) ?_;refine ae ?_;refine rW [] ?_;refine aW fun g1 => ?_;refine dW ?_;refine dW ?_;refine eW ?_;refine ae ?_;refine rW [] ?_;refine dW ?_;refine cV (v := .tuple #[.agg #[.int .i64 0, .int .i64 0, .slice none 0 0], .int .i64 1]) (fun w' H => HC.out w') ?_;refine dW ?_;refine dW ?_;refine dW ?_;refine aW fun g4 => ?_;refine sG ?_;refine dW ?_;refine eW ?_;refine ae ?_;refine rW [] ?_;refine dW ?_;refine dB true ?_;refine eW ?_;refine ae ?_;refine dO ?_;refine ae ?_;refine rW [] ?_;refine dW ?_;refine dW ?_;refine dW ?_;refine eW ?_;refine ae ?_;refine dX fun w' H => ?_;exact ⟨_, _, cX, cX, rfl, H.below⟩
set_option maxRecDepth 100000 in
set_option maxHeartbeats 1000000 in
theorem sI (r c : Int) (ao : Option Addr) (len cap : Nat) (w : World) (hr : -9223372036854775808 <= r /\ r <= 9223372036854775807) (hc : -9223372036854775808 <= c /\ c <= 9223372036854775807) (hs : aR r c len = false) :
 Calls Try.prog 27 #[.agg #[.int .i64 r, .int .i64 c, .slice ao len cap]] w fun e w' => e = .returned (.tuple #[.slice none 0 0, .slice none 0 0, .agg #[.bool false, .slice none 0 0], .int .i64 1]) /\ Below w.heap.size w w' := by
 have HC := Lib.hid (fun w' => sX r c ao len cap w' hr hc hs);clear hs;refine aZ (S0 := fun _ => False) Try.func27 (Fr.nil _ w) ?_;refine ae ?_;refine rW [] ?_;refine aW fun g1 => ?_;refine dW ?_;refine dW ?_;refine aW fun g4 => ?_;refine dW ?_;refine eW ?_;refine ae ?_;refine rW [] ?_;refine dW ?_;refine cV (v := .tuple #[.slice none 0 0, .int .i64 1]) (fun w' H => HC.out w') ?_;refine dW ?_;refine dW ?_;refine dW ?_;refine dW ?_;refine dW ?_;refine eW ?_;refine ae ?_;refine rW [] ?_;refine dW ?_;refine dB true ?_;refine eW ?_;refine ae ?_;refine dO ?_;refine ae ?_;refine rW [] ?_;refine dW ?_;refine dW ?_;refine dW ?_;refine dW ?_;refine sW ?_;refine dW ?_;refine eW ?_;refine ae ?_;refine fin4 fun w' H => ?_;exact ⟨_, _, _, _, cX, cX, gD H.m0, cX, rfl, H.below⟩
set_option maxRecDepth 100000 in
set_option maxHeartbeats 1000000 in
theorem tj (r c : Int) (ao : Option Addr) (len cap : Nat) (pd : P4) (w : World) (hr : -9223372036854775808 <= r /\ r <= 9223372036854775807) (hc : -9223372036854775808 <= c /\ c <= 9223372036854775807) (hs : aR r c len = false) :
 Calls Try.prog 10 #[.agg #[.int .i64 r, .int .i64 c, .slice ao len cap], av pd] w fun e w' => e = .returned (.tuple #[.agg #[.int .i64 0, .int .i64 0, .slice none 0 0], .int .i64 1]) /\ Below w.heap.size w w' := by
 have hC := fun w' => cF r c ao len cap w' hr hc;rw [fz hs] at hC;have HC := Lib.hid hC;clear hC hs;refine aZ (S0 := fun _ => False) Try.func10 (Fr.nil _ w) ?_;refine ae ?_;refine rW [] ?_;refine aW fun g2 => ?_;refine aW fun g3 => ?_;refine aW fun g4 => ?_;refine dW ?_;refine eW ?_;refine ae ?_;refine rW [] ?_;refine dW ?_;refine cV (v := .int .i64 1) (fun w' H => HC.out w') ?_;refine dW ?_;refine eW ?_;refine ae ?_;refine rW [] ?_;refine dW ?_;refine dB true ?_;refine eW ?_;refine ae ?_;refine dO ?_;refine ae ?_;refine rW [] ?_;refine dW ?_;refine dW ?_;refine sW ?_;refine dW ?_;refine eW ?_;refine ae ?_;refine dX fun w' H => ?_;exact ⟨_, _, lO (H.all (.row g4 24 [.int .i64 0, .int .i64 0, .slice none 0 0]) (by simp)), cX, rfl, H.below⟩
set_option maxRecDepth 100000 in
set_option maxHeartbeats 1000000 in
theorem mR (r c : Int) (ao : Option Addr) (len cap : Nat) (w : World) (hr : -9223372036854775808 <= r /\ r <= 9223372036854775807) (hc : -9223372036854775808 <= c /\ c <= 9223372036854775807) (hs : aR r c len = false) :
 Calls Try.prog 25 #[.agg #[.int .i64 r, .int .i64 c, .slice ao len cap]] w fun e w' => e = .returned (.tuple #[.agg #[.int .i64 0, .int .i64 0, .slice none 0 0], .slice none 0 0, .slice none 0 0, .agg #[.bool false, .slice none 0 0], .int .i64 1]) /\ Below w.heap.size w w' := by
 have HC := Lib.hid (fun w' => sI r c ao len cap w' hr hc hs);clear hs;refine aZ (S0 := fun _ => False) Try.func25 (Fr.nil _ w) ?_;refine ae ?_;refine rW [] ?_;refine aW fun g1 => ?_;refine aW fun g2 => ?_;refine dW ?_;refine dW ?_;refine aW fun g5 => ?_;refine dW ?_;refine eW ?_;refine ae ?_;refine rW [] ?_;refine dW ?_;refine cV (v := .tuple #[.slice none 0 0, .slice none 0 0, .agg #[.bool false, .slice none 0 0], .int .i64 1]) (fun w' H => HC.out w') ?_;refine dW ?_;refine dW ?_;refine dW ?_;refine dW ?_;refine dW ?_;refine dW ?_;refine dW ?_;refine sW ?_;refine dW ?_;refine eW ?_;refine ae ?_;refine rW [] ?_;refine dW ?_;refine dB true ?_;refine eW ?_;refine ae ?_;refine dO ?_;refine ae ?_;refine rW [] ?_;refine dW ?_;refine dW ?_;refine dW ?_;refine sW ?_;refine dW ?_;refine dW ?_;refine sW ?_;refine dW ?_;refine eW ?_;refine ae ?_;refine fin5 fun w' H => ?_;exact ⟨_, _, _, _, _, lO (H.all (.row g2 24 [.int .i64 0, .int .i64 0, .slice none 0 0]) (by simp)), cX, cX, gD (H.all (.row g5 27 [.bool false, .slice none 0 0]) (by simp)), cX, rfl, H.below⟩
set_option maxRecDepth 100000 in
set_option maxHeartbeats 1000000 in
theorem xB (r c : Int) (ao : Option Addr) (len cap : Nat) (w : World) (hr : -9223372036854775808 <= r /\ r <= 9223372036854775807) (hc : -9223372036854775808 <= c /\ c <= 9223372036854775807) (hs : aR r c len = false) :
 Calls Try.prog 12 #[.agg #[.int .i64 r, .int .i64 c, .slice ao len cap]] w fun e w' => e = .returned (.tuple #[.agg #[.int .i64 0, .int .i64 0, .slice none 0 0], .int .i64 1]) /\ Below w.heap.size w w' := by
 have HC := Lib.hid (fun w' => mR r c ao len cap w' hr hc hs);clear hs;refine aZ (S0 := fun _ => False) Try.func12 (Fr.nil _ w) ?_;refine ae ?_;refine rW [] ?_;refine aW fun g1 => ?_;refine aW fun g2 => ?_;refine dW ?_;refine eW ?_;refine ae ?_;refine rW [] ?_;refine dW ?_;refine cV (v := .tuple #[.agg #[.int .i64 0, .int .i64 0, .slice none 0 0], .slice none 0 0, .slice none 0 0, .agg #[.bool false, .slice none 0 0], .int .i64 1]) (fun w' H => HC.out w') ?_;refine dW ?_;refine dW ?_;refine dW ?_;refine dW ?_;refine dW ?_;refine dW ?_;refine aW fun g4 => ?_;refine aW fun g7 => ?_;refine sG ?_;refine dW ?_;refine dW ?_;refine sG ?_;refine dW ?_;refine eW ?_;refine ae ?_;refine rW [] ?_;refine dW ?_;refine dB true ?_;refine eW ?_;refine ae ?_;refine dO ?_;refine ae ?_;refine rW [] ?_;refine dW ?_;refine dW ?_;refine sW ?_;refine dW ?_;refine eW ?_;refine ae ?_;refine dX fun w' H => ?_;exact ⟨_, _, lO (H.all (.row g2 24 [.int .i64 0, .int .i64 0, .slice none 0 0]) (by simp)), cX, rfl, H.below⟩
set_option maxRecDepth 100000 in
set_option maxHeartbeats 1000000 in
theorem yG (r c : Int) (ao : Option Addr) (len cap : Nat) (w : World) (hr : -9223372036854775808 <= r /\ r <= 9223372036854775807) (hc : -9223372036854775808 <= c /\ c <= 9223372036854775807) (hs : aR r c len = false) :
 Calls Try.prog 8 #[.agg #[.int .i64 r, .int .i64 c, .slice ao len cap]] w fun e w' => e = .returned (.tuple #[.agg #[.bool false, .slice none 0 0], .int .i64 1]) /\ Below w.heap.size w w' := by
 have HC := Lib.hid (fun w' => mR r c ao len cap w' hr hc hs);clear hs;refine aZ (S0 := fun _ => False) Try.func8 (Fr.nil _ w) ?_;refine ae ?_;refine rW [] ?_;refine aW fun g1 => ?_;refine aW fun g2 => ?_;refine dW ?_;refine eW ?_;refine ae ?_;refine rW [] ?_;refine dW ?_;refine cV (v := .tuple #[.agg #[.int .i64 0, .int .i64 0, .slice none 0 0], .slice none 0 0, .slice none 0 0, .agg #[.bool false, .slice none 0 0], .int .i64 1]) (fun w' H => HC.out w') ?_;refine dW ?_;refine dW ?_;refine dW ?_;refine dW ?_;refine dW ?_;refine dW ?_;refine aW fun g4 => ?_;refine aW fun g7 => ?_;refine sG ?_;refine dW ?_;refine dW ?_;refine sG ?_;refine dW ?_;refine eW ?_;refine ae ?_;refine rW [] ?_;refine dW ?_;refine dB true ?_;refine eW ?_;refine ae ?_;refine dO ?_;refine ae ?_;refine rW [] ?_;refine dW ?_;refine dW ?_;refine sW ?_;refine dW ?_;refine eW ?_;refine ae ?_;refine dX fun w' H => ?_;exact ⟨_, _, gD (H.all (.row g2 27 [.bool false, .slice none 0 0]) (by simp)), cX, rfl, H.below⟩
theorem n5 (w : World) (L : Nat) : aw w L (.agg #[.bool false, .slice none 0 0]) 0 := ak.int (ak.zero w 0) (by simp [aN])
set_option maxRecDepth 100000 in
set_option maxHeartbeats 1000000 in
theorem xi (r c : Int) (ao : Option Addr) (len cap : Nat) (w : World) (hr : -9223372036854775808 <= r /\ r <= 9223372036854775807) (hc : -9223372036854775808 <= c /\ c <= 9223372036854775807) (hs : aR r c len = false) :
 Calls Try.prog 9 #[.agg #[.int .i64 r, .int .i64 c, .slice ao len cap]] w fun e w' => (∃ v, e = .returned (.tuple #[v, .int .i64 1]) /\ ak w' w.heap.size v 0) /\ Below w.heap.size w w' := by
 have HC := Lib.hid (fun w' => sI r c ao len cap w' hr hc hs);clear hs;refine aZ (S0 := fun _ => False) Try.func9 (Fr.nil _ w) ?_;refine ae ?_;refine rW [] ?_;refine aW fun g1 => ?_;refine aW fun g2 => ?_;refine dW ?_;refine eW ?_;refine ae ?_;refine rW [] ?_;refine dW ?_;refine cV (v := .tuple #[.slice none 0 0, .slice none 0 0, .agg #[.bool false, .slice none 0 0], .int .i64 1]) (fun w' H => HC.out w') ?_;refine dW ?_;refine dW ?_;refine dW ?_;refine dW ?_;refine dW ?_;refine aW fun g6 => ?_;refine dW ?_;refine dW ?_;refine sG ?_;refine dW ?_;refine eW ?_;refine ae ?_;refine rW [] ?_;refine dW ?_;refine cN (x := ((0 : Nat) : Int)) (fun w' H => jQ _ 0 w' (n5 w' _)) fun p => ?_;refine dW ?_;refine sW ?_;refine dW ?_;refine eW ?_;refine ae ?_;refine dX fun w' H => ?_;exact ⟨_, _, gD (H.all (.row g2 27 [.bool p.1, .slice p.2.1 p.2.2.1 p.2.2.2]) (by simp)), cX, ⟨_, rfl, H.all (.own w.heap.size (av p) ((0 : Nat) : Int)) (by simp [av])⟩, H.below⟩
set_option maxRecDepth 100000 in
set_option maxHeartbeats 1000000 in
theorem we (r c : Int) (ao : Option Addr) (len cap : Nat) (w : World) (hr : -9223372036854775808 <= r /\ r <= 9223372036854775807) (hc : -9223372036854775808 <= c /\ c <= 9223372036854775807) (hs : aR r c len = false) :
 Calls Try.prog 15 #[.agg #[.int .i64 r, .int .i64 c, .slice ao len cap]] w fun e w' => e = .returned (.bool true) /\ Below w.heap.size w w' := by
 have HC := Lib.hid (And.intro (fun pd w' => tj r c ao len cap pd w' hr hc hs) (And.intro (fun w' => xB r c ao len cap w' hr hc hs) (And.intro (fun w' => yG r c ao len cap w' hr hc hs) (fun w' => xi r c ao len cap w' hr hc hs))));clear hs;refine aZ (S0 := fun _ => False) Try.func15 (Fr.nil _ w) ?_;refine ae ?_;refine rW [] ?_;refine aW fun g1 => ?_;refine dW ?_;refine eW ?_;refine ae ?_;refine rW [] ?_;refine dW ?_;refine cN (x := ((1 : Nat) : Int)) (fun w' H => rQ 1 w' (by omega) (by unfold W; omega)) fun p1 => ?_;refine cV (v := .tuple #[.agg #[.int .i64 0, .int .i64 0, .slice none 0 0], .int .i64 1]) (fun w' H => HC.out.1 p1 w') ?_;refine dW ?_;refine dW ?_;refine dW ?_;refine aW fun g3 => ?_;refine sG ?_;refine dW ?_;refine eW ?_;refine ae ?_;refine rW [] ?_;refine dW ?_;refine cV (v := .tuple #[.agg #[.int .i64 0, .int .i64 0, .slice none 0 0], .int .i64 1]) (fun w' H => HC.out.2.1 w') ?_;refine dW ?_;refine dW ?_;refine dW ?_;refine aW fun g5 => ?_;refine sG ?_;refine dW ?_;refine eW ?_;refine ae ?_;refine rW [] ?_;refine dW ?_;refine cV (v := .tuple #[.agg #[.bool false, .slice none 0 0], .int .i64 1]) (fun w' H => HC.out.2.2.1 w') ?_;refine dW ?_;refine dW ?_;refine dW ?_;refine aW fun g7 => ?_;refine sG ?_;refine dW ?_;refine eW ?_;refine ae ?_;refine rW [] ?_;refine dW ?_;refine sq (x := 0) (z := .int .i64 1) (fun w' H => HC.out.2.2.2 w') fun p2 => ?_;refine dW ?_;refine dW ?_;refine dW ?_;refine aW fun g9 => ?_;refine sG ?_;refine dW ?_;refine eW ?_;refine ae ?_;refine rW [] ?_;refine dW ?_;refine dB true ?_;refine dW ?_;refine dG ?_;refine j8 true ?_;refine dW ?_;refine dW ?_;refine dG ?_;refine j8 true ?_;refine dW ?_;refine dW ?_;refine dG ?_;refine j8 true ?_;refine dW ?_;refine dW ?_;refine dG ?_;refine dG ?_;refine dG ?_;refine j8 true ?_;refine dW ?_;refine dW ?_;refine dG ?_;refine vR (v := .int .i64 0) (fun w' H => dy _ 0 w' (n5 w' _)) ?_;refine j8 true ?_;refine dW ?_;refine dW ?_;refine dG ?_;refine vR (v := .int .i64 0) (fun w' H => dy (av p2) 0 w' (ak.int (H.all (.own w.heap.size (av p2) 0) (by simp [av])) (by simp [aN]))) ?_;refine j8 true ?_;refine dW ?_;refine dW ?_;refine eW ?_;refine ae ?_;refine cQ fun w' H => ?_;exact ⟨_, cX, rfl, H.below⟩
section
variable {P : Program} {Q : Exit -> Act -> World -> Prop} {ds : List Deferred} {S0 : Nat -> Prop} {w0 : World} {n : Nat} {ls : List (Nat × Value)} {es : List En} {c : Code}
theorem vm {ao : Option Addr} {K cap : Nat} {ps : List P4} (hK : 0 < K) (k : ∀ b tl, ao = some ⟨b, 0, none⟩ -> aP tl -> ps.length = K -> dL ds P n S0 w0 c Q ls (.row b 27 (rn ps tl) :: es)) : dL ds P n S0 w0 c Q ls (.fV ao K cap ps :: es) := fun a w ha hw => by
 obtain ⟨h1, h2, ⟨_, h3⟩ | ⟨b, tl, rfl, ht, hr, _⟩⟩ := (hw.m0 : mq ao K cap ps w)
 · omega
 · exact k b tl rfl ht h1 a w ha (hw.lv (X := [.row b 27 (rn ps tl)]) rfl (fun x hx => by
    rcases List.mem_singleton.1 hx with rfl;exact ⟨hr, fun b' e => ⟨0, by cases e; rfl⟩⟩) (List.pairwise_singleton ..))
end
theorem oL {m K : Nat} (q : Nat) : gi (aC m (dM []) K) q = 0 := by
 unfold gi;rw [List.getD_eq_getElem?_getD];cases e : (aC m (dM []) K)[q]? with
 | none => rfl
 | some x =>
  have h := List.mem_of_getElem? e;unfold aC at h;obtain ⟨t, _, rfl⟩ := List.mem_map.1 h;show dM [] _ _ = 0;unfold dM;split <;> first | rfl | simp
def ka (n m : Nat) (xs zs : List Int) : Prop := ∃ k l, ko n m xs zs k l
set_option maxRecDepth 100000 in
set_option maxHeartbeats 8000000 in
theorem uA (n m nm mw cap : Nat) (ao : Option Addr) (xs : List Int) (w : World) (hn : n <= 64) (hm : m <= 64) (hmw : mw <= 1048577) (hA : aI w mw ao xs) (hs : xs.length = n * m) (hnm : xs.length = nm) :
 Calls Try.prog 12 #[.agg #[.int .i64 (n : Int), .int .i64 (m : Int), .slice ao nm cap]] w fun e w' => (∃ p : (Option Addr × Nat) × List Int, e = .returned (.tuple #[.agg #[.int .i64 (n : Int), .int .i64 (m : Int), .slice p.1.1 (n * m) p.1.2], .int .i64 0]) /\ ea w' p.1.1 p.2 /\ (ka n m xs p.2 /\ n * m <= p.1.2) /\ ∀ b o, p.1.1 = some ⟨b, o, none⟩ -> w.heap.size <= b) /\ Below w.heap.size w w' := by
 have hxb := fT hA;have hwx : ∀ x ∈ xs, ag x.natAbs <= mw := fun x hx => an (hxb x hx);have c1 := fun w' (h : aI w' mw ao xs) => mQ n m nm mw cap ao xs w' hn hm hmw h hs hnm (fun _ _ _ _ h1 h2 => h1.rank h2) (fun _ _ _ h1 h2 => h1.core h2);have c2 := fun k1 q1 k2 q2 ro co (rs cs : List Nat) w' a1 a2 (a3 : aI w' mw ao xs) a4 a5 a6 a7 a8 a9 => nT n m nm cap k1 q1 k2 q2 mw ao ro co rs cs xs w' a1 a2 a3 (by omega) a4 a5 hs hnm a6 a7 hn hm a8 a9;obtain ⟨B1, hB1⟩ : ∃ B, 64 * (mw + 1) = B := ⟨_, rfl⟩;obtain ⟨B2, hB2⟩ : ∃ B, B1 + 66 * (mw + 3) + 1 = B := ⟨_, rfl⟩;obtain ⟨B3, hB3⟩ : ∃ B, B2 + mw + 1 = B := ⟨_, rfl⟩;have hb1 : B1 <= 100000000 := by omega
 have hb2 : B2 <= 300000000 := by omega
 have hb3 : B3 <= 400000000 := by omega
 have c3 := fun k c1 c2 zs (h : ei n m xs k c1 c2 zs) => h.jh (by omega) hxb;have c4 : ∀ k c1 c2 zs, ei n m xs k c1 c2 zs -> ∀ x ∈ zs, ag x.natAbs <= B1 := fun k c1 c2 zs h => by
  rw [<- hB1];exact h.2.2.wl (ir (Nat.le_trans (eu.lt h.2.1).1 hn) hwx)
 have HC := Lib.hid (And.intro c1 (And.intro c2 (And.intro c3 (And.intro c4 (And.intro hwx (And.intro hB1 (And.intro hB2 hB3)))))));clear c1 c2 c3 c4 hwx hxb hs hnm hB1 hB2 hB3;refine aZ (S0 := fun _ => False) Try.func12 ((Fr.nil _ w).l hA (by simp)) ?_;clear hA;refine ae ?_;refine rW [] ?_;refine aW fun g1 => ?_;refine aW fun g2 => ?_;refine dW ?_;refine eW ?_;refine ae ?_;refine rW [] ?_;refine dW ?_;refine cG (α := (((Option Addr × Nat) × List Int) × (Option Addr × Nat) × (Option Addr × Nat)) × (Nat × (Nat -> Nat) × (Nat -> Nat)) × P4) (mk := fun p => .tuple #[.agg #[.int .i64 (p.2.1.1 : Int), .int .i64 (p.2.1.1 : Int), .slice p.1.1.1.1 (p.2.1.1 * p.2.1.1) p.1.1.1.2], .slice p.1.2.1.1 p.2.1.1 p.1.2.1.2, .slice p.1.2.2.1 p.2.1.1 p.1.2.2.2, .agg #[.bool p.2.2.1, .slice p.2.2.2.1 p.2.2.2.2.1 p.2.2.2.2.2], .int .i64 0]) (ens := fun p => [.pr (ei n m xs p.2.1.1 p.2.1.2.1 p.2.1.2.2 p.1.1.2), .gX p.1.1.1.1 p.1.1.2, .lg 3 1 p.1.2.1.1 p.2.1.1 p.1.2.1.2 (iL ((List.range p.2.1.1).map p.2.1.2.1)), .lg 3 1 p.1.2.2.1 p.2.1.1 p.1.2.2.2 (iL ((List.range p.2.1.1).map p.2.1.2.2)), .own w.heap.size (av p.2.2) (bK m xs p.2.1.1 p.2.1.2.1 p.2.1.2.2)]) (hne := ⟨(((((none, 0), []), (none, 0), (none, 0))), (0, fun _ => 0, fun _ => 0), p0)⟩) (fun w' H => (HC.out.1 w' (H.all (.ls mw ao xs) (by simp))).mono fun e w'' ⟨p, he, hb, hx, hp⟩ => ⟨p, he, hb, fun e he => by
  simp only [List.mem_cons, List.mem_nil_iff, or_false] at he;rcases he with rfl | rfl | rfl | rfl | rfl
  · exact hx _ (by simp)
  · exact hx _ (by simp)
  · exact hx _ (by simp)
  · exact hx _ (by simp)
  · exact ⟨ak.mono (hx (.own w'.heap.size (av p.2.2) (bK m xs p.2.1.1 p.2.1.2.1 p.2.1.2.2)) (by simp [av])).1 H.size, fun _ h => h.elim⟩, by
  have h1 := List.pairwise_cons.1 hp;have h2 := List.pairwise_cons.1 h1.2;have h3 := List.pairwise_cons.1 h2.2;have h4 := List.pairwise_cons.1 h3.2;refine .cons (fun x _ => ⟨(fun q => nomatch q), fun _ _ _ h => h⟩) (.cons (fun x hx => ?_) (.cons (fun x hx => ?_) (.cons (fun x hx => ?_) (List.pairwise_singleton ..))))
  · rcases List.mem_cons.1 hx with rfl | hx
    · exact h2.1 _ (by simp)
    · rcases List.mem_cons.1 hx with rfl | hx
      · exact h2.1 _ (by simp)
      · rcases List.mem_singleton.1 hx with rfl;exact ⟨(fun q => nomatch q), fun q => nomatch q⟩
  · rcases List.mem_cons.1 hx with rfl | hx
    · exact h3.1 _ (by simp)
    · rcases List.mem_singleton.1 hx with rfl;exact ⟨fun _ _ _ h => h, fun q => nomatch q⟩
  · rcases List.mem_singleton.1 hx with rfl;exact ⟨fun _ _ _ h => h, fun q => nomatch q⟩⟩) fun q1 => ?_
 refine dW ?_;refine dW ?_;refine dW ?_;refine dW ?_;refine dW ?_;refine dW ?_;refine aW fun g4 => ?_;refine aW fun g7 => ?_;refine sG ?_;refine dW ?_;refine dW ?_;refine sG ?_;refine dW ?_;refine eW ?_;refine ae ?_;obtain ⟨⟨⟨⟨zo, zc⟩, zs⟩, ⟨ro, rc⟩, ⟨co, cc⟩⟩, ⟨k, c1, c2⟩, pd⟩ := q1;refine lJ (A := ei n m xs k c1 c2 zs) (by simp) fun hp => ?_;have hk64 : k <= 64 := by have := (eu.lt hp.2.1).1; omega
 obtain ⟨hs, l, hhl, hH, hsp⟩ := HC.out.2.2.1 k c1 c2 zs hp;obtain ⟨D, hD⟩ : ∃ D, bK m xs k c1 c2 = D := ⟨_, rfl⟩;have hD0 : D ≠ 0 := by rw [<- hD]; exact hp.1.core hp.2.1
 have hDw : ag D.natAbs <= B1 := by rw [<- hD, <- HC.out.2.2.2.2.2.1]; exact ir hk64 HC.out.2.2.2.2.1
 rw [hD];have HP := Lib.hid (And.intro hp (And.intro hhl (And.intro hH (And.intro hsp (And.intro hD (And.intro hD0 hDw))))));clear hp hhl hH hsp hD hD0 hDw;refine rW [] ?_;refine dW ?_;refine dB false ?_;refine eW ?_;refine ae ?_;refine bX ?_;refine ae ?_;refine rW [] ?_;refine dW ?_;refine dW ?_;refine dW ?_;refine kJ (α := Option Addr × Nat) (mk := fun p => .tuple #[.agg #[.int .i64 (k : Int), .int .i64 (k : Int), .slice p.1 (k * k) p.2], .int .i64 0]) (ao := fun p => p.1) (xs := fun _ => aC k (bL m xs ((List.range k).map c1) ((List.range k).map c2)) (k * k)) (A := fun _ => True) (fun w' H => HC.out.2.1 k rc k cc ro co ((List.range k).map c1) ((List.range k).map c2) w' (kv.rl (H.all (.lg 3 1 ro k rc (iL ((List.range k).map c1))) (by simp))) (kv.rl (H.all (.lg 3 1 co k cc (iL ((List.range k).map c2))) (by simp))) (H.all (.ls mw ao xs) (by simp)) (by simp) (by simp) (fun i hi => by rw [gn hi]; exact HP.out.1.1.oD i hi) (fun i hi => by rw [gn hi]; exact HP.out.1.2.1.oD i hi) hk64 hk64) fun qc => ?_;refine dW ?_;refine dW ?_;refine dW ?_;refine aW fun g9 => ?_;refine sG ?_;refine dW ?_;refine eW ?_;refine ae ?_;refine rW [] ?_;refine dW ?_;refine dW ?_;refine dW ?_;refine dW ?_;refine cG (α := Nat) (mk := fun g => .slice (some ⟨g, 0, none⟩) m m) (ens := fun g => [.row g 3 (iL (List.range m))]) (fun w' H => sb m w' hm) fun gu => ?_;refine kJ (α := Option Addr × Nat) (mk := fun p => .tuple #[.agg #[.int .i64 (k : Int), .int .i64 (m : Int), .slice p.1 (k * m) p.2], .int .i64 0]) (ao := fun p => p.1) (xs := fun _ => aC m (bL m xs ((List.range k).map c1) (List.range m)) (k * m)) (A := fun _ => True) (fun w' H => HC.out.2.1 k rc m m ro (some ⟨gu, 0, none⟩) ((List.range k).map c1) (List.range m) w' (kv.rl (H.all (.lg 3 1 ro k rc (iL ((List.range k).map c1))) (by simp))) (fun _ => by have h1 : ah w' gu 3 (iL (List.range m)) := H.all (.row gu 3 (iL (List.range m))) (by simp); exact ⟨gu, rfl, h1.lt, fun i v hv => by rw [h1.cell]; exact hv⟩) (H.all (.ls mw ao xs) (by simp)) (by simp) (by simp) (fun i hi => by rw [gn hi]; exact HP.out.1.1.oD i hi) (fun i hi => by simpa [hi] using hi) hk64 hm) fun qw => ?_;refine dW ?_;refine dW ?_;refine dW ?_;refine aW fun g11 => ?_;refine sG ?_;refine dW ?_;refine eW ?_;refine ae ?_;refine rW [] ?_;refine dW ?_;refine kJ (α := (Option Addr × Nat) × List Int) (mk := fun p => .tuple #[.agg #[.int .i64 (k : Int), .int .i64 (k : Int), .slice p.1.1 (k * k) p.1.2], .int .i64 0]) (ao := fun p => p.1.1) (xs := fun p => p.2) (A := fun p => nY k mw (aC k (bL m xs ((List.range k).map c1) ((List.range k).map c2)) (k * k)) p.2) (hne := ⟨((none, 0), [])⟩) (fun w' H => ze k (k * k) qc.2 mw qc.1 (aC k (bL m xs ((List.range k).map c1) ((List.range k).map c2)) (k * k)) w' hk64 hmw (ea.gK (H.all (.gX qc.1 (aC k (bL m xs ((List.range k).map c1) ((List.range k).map c2)) (k * k))) (by simp)) (fm HC.out.2.2.2.2.1)) (aA ..) (aA ..) (fm HC.out.2.2.2.2.1)) fun qa => ?_;refine dW ?_;refine dW ?_;refine dW ?_;refine aW fun g13 => ?_;refine sG ?_;refine dW ?_;refine eW ?_;refine ae ?_;obtain ⟨⟨ado, adc⟩, al⟩ := qa;refine lJ (A := nY k mw (aC k (bL m xs ((List.range k).map c1) ((List.range k).map c2)) (k * k)) al /\ ∀ b o, ado = some ⟨b, o, none⟩ -> w.heap.size <= b) (by simp) fun hq => ?_;have HAd := Lib.hid hq.1;have hpw : ∀ x ∈ aC k (bc k k zs al) (k * k), ag x.natAbs <= B2 := kU (fun i j hi hj => by rw [<- HC.out.2.2.2.2.2.2.1]; exact lh (fun t ht => nG (HC.out.2.2.2.1 k c1 c2 zs HP.out.1 _ (cD (by rw [HP.out.1.2.2.1]; exact bQ hi ht))) (HAd.out.2.2 _ (cD (by rw [HAd.out.1]; exact bQ ht hj)))) hk64) rfl;have HPw := Lib.hid hpw;clear hq hpw;refine rW [] ?_;refine dW ?_;refine dW ?_;refine kJ (α := Option Addr × Nat) (mk := fun p => .tuple #[.agg #[.int .i64 (k : Int), .int .i64 (k : Int), .slice p.1 (k * k) p.2], .int .i64 0]) (ao := fun p => p.1) (xs := fun _ => aC k (bc k k zs al) (k * k)) (A := fun _ => True) (fun w' H => rG k k k (k * k) (k * k) zc adc B1 (66 * (mw + 3)) zo ado zs al w' (ea.gK (H.all (.gX zo zs) (by simp)) (HC.out.2.2.2.1 k c1 c2 zs HP.out.1)) (ea.gK (H.all (.gX ado al) (by simp)) HAd.out.2.2) (by omega) HP.out.1.2.2.1 HP.out.1.2.2.1 HAd.out.1 HAd.out.1 hk64 hk64 hk64 (HC.out.2.2.2.1 k c1 c2 zs HP.out.1) HAd.out.2.2) fun qm => ?_;refine dW ?_;refine dW ?_;refine dW ?_;refine sW ?_;refine eW ?_;refine ae ?_;refine rW [] ?_;refine dW ?_;refine dW ?_;refine cG (α := Option Addr × Nat) (mk := fun p => .tuple #[.agg #[.int .i64 (k : Int), .int .i64 (m : Int), .slice p.1 (k * m) p.2], .int .i64 0]) (ens := fun p => [.ls B3 p.1 (aC m (bc k m (aC k (bc k k zs al) (k * k)) (aC m (bL m xs ((List.range k).map c1) (List.range m)) (k * m))) (k * m))]) (fun w' H => (rG k k m (k * k) (k * m) qm.2 qw.2 B2 mw qm.1 qw.1 (aC k (bc k k zs al) (k * k)) (aC m (bL m xs ((List.range k).map c1) (List.range m)) (k * m)) w' (ea.gK (H.all (.gX qm.1 (aC k (bc k k zs al) (k * k))) (by simp)) HPw.out) (ea.gK (H.all (.gX qw.1 (aC m (bL m xs ((List.range k).map c1) (List.range m)) (k * m))) (by simp)) (fm HC.out.2.2.2.2.1)) (by omega) (aA ..) (aA ..) (aA ..) (aA ..) hk64 hk64 hm HPw.out (fm HC.out.2.2.2.2.1)).mono fun e w'' ⟨⟨p, he, hl, _, hf⟩, hb⟩ => ⟨p, he, hb, fun e he => by rcases List.mem_singleton.1 he with rfl; exact ⟨hl.gK fun x hx => by
  unfold aC at hx;obtain ⟨t, ht, rfl⟩ := List.mem_map.1 hx;have ht := List.mem_range.1 ht;have hm0 : 0 < m := by
   rcases Nat.eq_zero_or_pos m with e | e
   · subst e; omega
   · exact e
  have h1 : t / m < k := Nat.div_lt_of_lt_mul (by rw [Nat.mul_comm]; exact ht);rw [<- HC.out.2.2.2.2.2.2.2];exact lh (fun u hu => nG (HPw.out _ (cD (by rw [aA]; exact bQ h1 hu))) (fm HC.out.2.2.2.2.1 _ (cD (by rw [aA]; exact bQ hu (Nat.mod_lt _ hm0))))) hk64, fun b ⟨_, o, e⟩ => hf b o e⟩, List.pairwise_singleton ..⟩) fun qf => ?_
 refine dW ?_;refine dW ?_;refine dW ?_;refine sW ?_;refine eW ?_;refine ae ?_;obtain ⟨fo, fc⟩ := qf;obtain ⟨FL, hFL⟩ : ∃ FL, aC m (bc k m (aC k (bc k k zs al) (k * k)) (aC m (bL m xs ((List.range k).map c1) (List.range m)) (k * m))) (k * m) = FL := ⟨_, rfl⟩;have hfl : ∀ q, q < k * m -> gi FL q = D * gi hs q := fun q hq => by rw [<- hFL, <- HP.out.2.2.2.2.1]; exact HP.out.1.formL HP.out.2.1 HP.out.2.2.1 HP.out.2.2.2.1 HAd.out hq
 have hfll : FL.length = k * m := by rw [<- hFL, aA]
 rw [hFL];have HFl := Lib.hid (And.intro hfl hfll);clear hFL hfl hfll;refine rW [] ?_;refine dW ?_;refine dW ?_;refine dW ?_;refine dW ?_;refine cG (α := (Option Addr × Nat) × List P4) (mk := fun p => .tuple #[.agg #[.int .i64 (n : Int), .int .i64 (m : Int), .slice p.1.1 (n * m) p.1.2], .int .i64 0]) (ens := fun p => [.fV p.1.1 (n * m) p.1.2 p.2, .ns p.2 (aC m (dM []) (n * m))]) (hne := ⟨((none, 0), [])⟩) (fun w' H => uw n m w' hn hm) fun qz => ?_;refine dW ?_;refine dW ?_;refine dW ?_;refine aW fun g15 => ?_;refine sG ?_;refine dW ?_;refine eW ?_;refine ae ?_;obtain ⟨⟨oo, oc⟩, ps0⟩ := qz;have hkn : k <= n := (eu.lt HP.out.1.2.1).1;have hKN : k * m <= n * m := Nat.mul_le_mul_right m hkn;have hNb : n * m <= 4096 := Nat.mul_le_mul hn hm;obtain ⟨K, hK⟩ : ∃ K, k * m = K := ⟨_, rfl⟩;obtain ⟨NM, hNM⟩ : ∃ NM, n * m = NM := ⟨_, rfl⟩;rw [hK] at hKN HFl ⊢;rw [hNM] at hKN hNb ⊢;have HK := Lib.hid (And.intro hK hNM);clear hK hNM;refine cZ (es' := [.fV oo NM oc ps0, .ns ps0 (aC m (dM []) NM), .row g4 24 [.int .i64 (k : Int), .int .i64 (m : Int), .slice fo K fc], .row g15 24 [.int .i64 (n : Int), .int .i64 (m : Int), .slice oo NM oc], .row g7 27 [.bool pd.1, .slice pd.2.1 pd.2.2.1 pd.2.2.2], .row g2 24 [.int .i64 0, .int .i64 0, .slice none 0 0], .own w.heap.size (av pd) D, .ls B3 fo FL]) ?_;refine sk (A := NM <= oc) (fun w H => (H.all (.fV oo NM oc ps0) (by simp) : mq ..).2.1) fun hcz => ?_;refine rW [] ?_;by_cases hK0 : 0 < K
 · refine dW ?_;refine dW ?_;refine dW ?_;refine dW ?_;refine eW ?_;refine ae ?_;refine vm (by omega) fun b tl hoo htl hpl => ?_;subst hoo;have HTl := Lib.hid htl;clear htl;refine bF (X := Nat × List P4 × List Int) (fun x => x.1 <= K /\ x.2.1.length = NM /\ x.2.2.length = NM /\ ∀ q, gi x.2.2 q = if q < x.1 then gi hs q else 0) (fun x => K - x.1) (fun x => [(74, .int .i64 (x.1 : Int)), (73, .int .i64 (K : Int)), (72, .slice fo K fc), (15, .pointer (some ⟨g15, 0, none⟩)), (7, .pointer (some ⟨g7, 0, none⟩)), (2, .pointer (some ⟨g2, 0, none⟩)), (8, .int .i64 0)])
    (fun x => [.row b 27 (rn x.2.1 tl), .ns x.2.1 x.2.2, .row g15 24 [.int .i64 (n : Int), .int .i64 (m : Int), .slice (some ⟨b, 0, none⟩) NM oc], .row g7 27 [.bool pd.1, .slice pd.2.1 pd.2.2.1 pd.2.2.2], .row g2 24 [.int .i64 0, .int .i64 0, .slice none 0 0], .own w.heap.size (av pd) D, .ls B3 fo FL]) (0, ps0, aC m (dM []) NM) ⟨Nat.zero_le _, hpl, aA .., fun q => by rw [if_neg (Nat.not_lt_zero q)]; exact oL q⟩ fun x hx => ?_
   clear hpl;obtain ⟨i, ps, ys⟩ := x;obtain ⟨hi, hpl, hyl, hyq⟩ := hx
   replace hi : i <= K := hi
   replace hpl : ps.length = NM := hpl
   replace hyl : ys.length = NM := hyl
   have HY := Lib.hid (And.intro hpl (And.intro hyl (show ∀ q, gi ys q = if q < i then gi hs q else 0 from hyq)));clear hpl hyl hyq;by_cases h : i < K
   · have h01 : (i : Int) < (K : Int) := by omega
     have h02 : (i : Int) < (NM : Int) := by omega
     have hfl := HFl.out.1 i h;have HFi := Lib.hid hfl;clear hfl;refine ae ?_;refine rW [] ?_;refine dB true ?_;refine eW ?_;refine ae ?_;refine mJ (L := B3) (ao := fo) (xs := FL) (by simp) (by rw [HFl.out.2]; omega) fun bx ox e => ?_;subst e;refine jj (L := B3) (xs := FL) (b := bx) (o := ox) i (by simp) (by rw [HFl.out.2]; exact h) fun px => ?_;refine dO ?_;refine ae ?_;refine rW [] ?_;refine dW ?_;refine dW ?_;refine dW ?_;refine aW fun g17 => ?_;refine dW ?_;refine sG ?_;refine eW ?_;refine ae ?_;refine rW [] ?_;refine dW ?_;refine dW ?_;refine dW ?_;refine dW ?_;refine dW ?_;refine sq (x := gi hs i) (z := .int .i64 0) (fun w' H => by
      have := fh (av px) (av pd) (gi FL i) D w' ((H.all (.at B3 (av px) (gi FL i)) (by simp [av]) : aw ..).mono (by omega)) (ak.int (H.all (.own w.heap.size (av pd) D) (by simp [av])) (Nat.le_trans HP.out.2.2.2.2.2.2 (by omega))) HP.out.2.2.2.2.2.1 (by rw [HFi.out]; exact Int.dvd_mul_right ..);rw [HFi.out, Int.mul_ediv_cancel_left _ HP.out.2.2.2.2.2.1] at this; exact this) fun p2 => ?_
     refine fj (e := .ns (ps.set i p2) (ys.set i (gi hs i))) (fun w' H => bg.set (H.all (.ns ps ys) (by simp)) i (H.all (.own w.heap.size (av p2) (gi hs i)) (by simp [av]) : ak ..).num) ?_;refine dW ?_;refine dW ?_;refine dW ?_;refine dW ?_;refine sN (ps := ps) i p2 (by rw [HY.out.1]; omega) HTl.out rfl ?_;refine eW ?_;refine ae ?_;refine rW [] ?_;refine dE (cd (a := i) (by omega)) ?_;refine dW ?_;refine eW ?_;refine ae ?_;exact bh (i + 1, ps.set i p2, ys.set i (gi hs i)) ⟨⟨h, by rw [List.length_set]; exact HY.out.1, by rw [List.length_set]; exact HY.out.2.1, fun q => by
      rw [eY (by rw [HY.out.2.1]; omega), HY.out.2.2 q];by_cases e : q = i
      · rw [if_pos e, e, if_pos (by omega)]
      · rw [if_neg e];by_cases e2 : q < i
        · rw [if_pos e2, if_pos (by omega)]
        · rw [if_neg e2, if_neg (by omega)]⟩, by show K - (i + 1) < K - i; omega⟩
   · obtain rfl : K = i := by omega
     refine ae ?_;refine rW [] ?_;refine dB false ?_;refine eW ?_;refine ae ?_;refine bX ?_;refine ae ?_;refine rW [] ?_;refine dW ?_;refine dW ?_;refine sW ?_;refine dW ?_;refine eW ?_;refine ae ?_;refine dX fun w' H => ?_;exact ⟨_, _, lO (H.all (.row g2 24 [.int .i64 (n : Int), .int .i64 (m : Int), .slice (some ⟨b, 0, none⟩) NM oc]) (by simp)), cX, ⟨((some ⟨b, 0, none⟩, oc), ys), rfl, (bM.mk' (H.all (.row b 27 (rn ps tl)) (by simp)) HTl.out (H.all (.ns ps ys) (by simp))).lsN, ⟨⟨k, l, sL hkn HP.out.2.1 HP.out.2.2.1 HP.out.2.2.2.1 (HY.out.2.1.trans HK.out.2.symm) fun q => by rw [HK.out.1]; exact HY.out.2.2 q⟩, by first | exact hcz | (rw [HK.out.2]; exact hcz)⟩, fun b' o e => by cases e; exact (H.own (.row b 27 (rn ps tl)) (by simp) rfl b rfl).elim (fun h => h.elim) id⟩, H.below⟩
 · refine dW ?_;refine dW ?_;refine dW ?_;refine dW ?_;refine eW ?_;refine ae ?_;refine bF (X := Nat) (fun x => x = 0) (fun x => 0) (fun x => [(74, .int .i64 (x : Int)), (73, .int .i64 (K : Int)), (72, .slice fo K fc), (15, .pointer (some ⟨g15, 0, none⟩)), (2, .pointer (some ⟨g2, 0, none⟩)), (8, .int .i64 0)])
    (fun x => [.fV oo NM oc ps0, .ns ps0 (aC m (dM []) NM), .row g15 24 [.int .i64 (n : Int), .int .i64 (m : Int), .slice oo NM oc], .row g7 27 [.bool pd.1, .slice pd.2.1 pd.2.2.1 pd.2.2.2], .row g2 24 [.int .i64 0, .int .i64 0, .slice none 0 0], .own w.heap.size (av pd) D, .ls B3 fo FL]) 0 rfl fun x hx => ?_
   obtain rfl : x = 0 := hx;have h01 : ¬ ((0 : Nat) : Int) < (K : Int) := by omega
   refine ae ?_;refine rW [] ?_;refine dB false ?_;refine eW ?_;refine ae ?_;refine bX ?_;refine ae ?_;refine rW [] ?_;refine dW ?_;refine dW ?_;refine sW ?_;refine dW ?_;refine eW ?_;refine ae ?_;refine dX fun w' H => ?_;exact ⟨_, _, lO (H.all (.row g2 24 [.int .i64 (n : Int), .int .i64 (m : Int), .slice oo NM oc]) (by simp)), cX, ⟨((oo, oc), aC m (dM []) NM), rfl, kO (H.all (.fV oo NM oc ps0) (by simp)) (H.all (.ns ps0 (aC m (dM []) NM)) (by simp)), ⟨⟨k, l, sL hkn HP.out.2.1 HP.out.2.2.1 HP.out.2.2.2.1 ((aA ..).trans HK.out.2.symm) fun q => by rw [HK.out.1, if_neg (by omega)]; exact oL q⟩, by first | exact hcz | (rw [HK.out.2]; exact hcz)⟩, fun b o e => (H.own (.fV oo NM oc ps0) (by simp) rfl b ⟨o, e⟩).elim (fun h => h.elim) id⟩, H.below⟩
theorem oN (n m nm mw cap : Nat) (ao : Option Addr) (xs : List Int) (w : World) (hn : n <= 64) (hm : m <= 64) (hmw : mw <= 1048577) (hA : aI w mw ao xs) (hs : xs.length = n * m) (hnm : xs.length = nm) :
 Calls Try.prog 12 #[.agg #[.int .i64 (n : Int), .int .i64 (m : Int), .slice ao nm cap]] w fun e w' => (∃ p : (Option Addr × Nat) × List Int, e = .returned (.tuple #[.agg #[.int .i64 (n : Int), .int .i64 (m : Int), .slice p.1.1 (n * m) p.1.2], .int .i64 0]) /\ ea w' p.1.1 p.2 /\ ka n m xs p.2 /\ ∀ b o, p.1.1 = some ⟨b, o, none⟩ -> w.heap.size <= b) /\ Below w.heap.size w w' :=
 (uA n m nm mw cap ao xs w hn hm hmw hA hs hnm).mono fun e w' ⟨⟨p, h1, h2, h3, h4⟩, h5⟩ => ⟨⟨p, h1, h2, h3.1, h4⟩, h5⟩
structure nj where
 i : Int
 j : Int
 K : Int
def ru (ms : List nj) (s : Nat) : nj := ms.getD s ⟨0, 0, 0⟩
def ng (ms : List nj) : Nat -> Nat
 | 0 => 0
 | k + 1 => ng ms k + ag (ru ms k).K.natAbs + 1
theorem oU (ms : List nj) {s t : Nat} (h : s <= t) : ng ms s <= ng ms t := by
 induction h with
 | refl => exact Nat.le_refl _
 | step _ ih => exact Nat.le_trans ih (by show ng ms _ <= ng ms _ + _ + 1; omega)
def l7 (w : World) (L : Nat) (ao : Option Addr) (ms : List nj) : Prop :=
 0 < ms.length -> ∃ b o, ao = some ⟨b, o, none⟩ /\ b < w.heap.size /\ ∀ k, k < ms.length -> ∃ p : P4, w.cell? ⟨b, o + k * 4, none⟩ = some (.int .i64 (ru ms k).i) /\ w.cell? ⟨b, o + k * 4 + 1, none⟩ = some (.int .i64 (ru ms k).j) /\ w.cell? ⟨b, o + k * 4 + 2, none⟩ = some (.bool p.1) /\ w.cell? ⟨b, o + k * 4 + 3, none⟩ = some (.slice p.2.1 p.2.2.1 p.2.2.2) /\ aw w L (av p) (ru ms k).K
abbrev En.tO (L : Nat) (ao : Option Addr) (ms : List nj) : En := .fact true false (fun g => 0 < ms.length /\ ∃ o, ao = some ⟨g, o, none⟩) (fun w => l7 w L ao ms) (fun h b ⟨hl, o, e⟩ => by
 obtain ⟨b', o', e', hb, _⟩ := h hl;rw [e] at e'; cases e'; exact hb)
 (fun {w w' T} h hc hT hs hl => by
  obtain ⟨b, o, e, hb, hcl⟩ := h hl;refine ⟨b, o, e, Nat.lt_of_lt_of_le hb hc.size, fun i hi => ?_⟩;obtain ⟨p, h0, h1, h2, h3, hn⟩ := hcl i hi;have q := hs b ⟨hl, o, e⟩;exact ⟨p, (hc.cell (p := ⟨b, o + i * 4, none⟩) hb q).trans h0, (hc.cell (p := ⟨b, o + i * 4 + 1, none⟩) hb q).trans h1, (hc.cell (p := ⟨b, o + i * 4 + 2, none⟩) hb q).trans h2, (hc.cell (p := ⟨b, o + i * 4 + 3, none⟩) hb q).trans h3, hc.int (hT rfl).bS hn⟩)
theorem Fr.tO {S0 : Nat -> Prop} {w0 w : World} {es : List En} (h : Fr S0 w0 w es) {L : Nat} {ao : Option Addr} {ms : List nj} (hx : l7 w L ao ms) (hS : ∀ e ∈ es, e.wr = false) : Fr S0 w0 w (.tO L ao ms :: es) :=
 h.cons hx (fun e he => ⟨(fun q => nomatch q), fun q => by rw [hS e he] at q; cases q⟩) (fun q => nomatch q)
section
variable {P : Program} {Q : Exit -> Act -> World -> Prop} {ds : List Deferred} {S0 : Nat -> Prop} {w0 : World} {n : Nat} {ls : List (Nat × Value)} {es : List En} {c : Code}
theorem posMW {L : Nat} {ao : Option Addr} {ms : List nj} (hm : En.tO L ao ms ∈ es) (hl : 0 < ms.length) (k : ∀ b o, ao = some ⟨b, o, none⟩ -> dL ds P n S0 w0 c Q ls es) : dL ds P n S0 w0 c Q ls es := fun a w ha hw => by
 obtain ⟨b, o, e, _⟩ := (hw.all _ hm : l7 w L ao ms) hl;exact k b o e a w ha hw
theorem movW {L : Nat} {ms : List nj} {b o : Nat} (i : Nat) {I J K : Int} (hm : En.tO L (some ⟨b, o, none⟩) ms ∈ es) (hi : i < ms.length) (hq : ru ms i = ⟨I, J, K⟩) (k : ∀ p : P4, dL ds P n S0 w0 c Q ls (.cell ⟨b, o + i * 4, none⟩ (.int .i64 I) :: .cell ⟨b, o + i * 4 + 1, none⟩ (.int .i64 J) :: .cell ⟨b, o + i * 4 + 2, none⟩ (.bool p.1) :: .cell ⟨b, o + i * 4 + 3, none⟩ (.slice p.2.1 p.2.2.1 p.2.2.2) :: .at L (av p) K :: es)) : dL ds P n S0 w0 c Q ls es := fun a w ha hw => by
 have hA : l7 w L (some ⟨b, o, none⟩) ms := hw.all _ hm;obtain ⟨b', o', e, hb, hc⟩ := hA (by omega);cases e;obtain ⟨p, h0, h1, h2, h3, hx⟩ := hc i hi;rw [hq] at h0 h1 hx;have hS : (En.tO L (some ⟨b, o, none⟩) ms).S b := ⟨by omega, o, rfl⟩;have q := List.mem_cons_of_mem (En.at L (av p) K) hm;exact k p a w ha (((((hw.pure (e := .at L (av p) K) hx (fun _ h => h)).cellOf q rfl hS h3).cellOf (List.mem_cons_of_mem _ q) rfl hS h2).cellOf (List.mem_cons_of_mem _ (List.mem_cons_of_mem _ q)) rfl hS h1).cellOf (List.mem_cons_of_mem _ (List.mem_cons_of_mem _ (List.mem_cons_of_mem _ q))) rfl hS h0)
end
theorem vf {n m mw : Nat} {xs ys : List Int} {v v' : Int} (hn : n <= 64) (hb : ∀ x ∈ xs, x.natAbs < W ^ mw) (hsp : aO n (ai ys n m) n (ai xs n m)) (hv : kz n m xs v) (hv' : kz n m ys v') : v = v' := by
 obtain ⟨k, c1, c2, zs, hN, rfl⟩ := hv;obtain ⟨k', d1, d2, zs', hN', rfl⟩ := hv';obtain ⟨hs, K, hB, _⟩ := j1 (c := m) (m := mw) (n := n) (E := ai xs n m) (by omega) (fun i b _ => dC (Nat.pow_pos (by unfold W; omega)) hb i b) fun i b hb => dQ i hb;obtain ⟨l, hl⟩ := hB.herm;obtain ⟨rfl, _⟩ := hN.2.1.leads hl hB.sp;obtain ⟨rfl, _⟩ := hN'.2.1.leads hl (hsp.trans hB.sp);rw [hN.prod hl hB.sp, hN'.prod hl (hsp.trans hB.sp)]
theorem ka.wl {n m mw : Nat} {xs zs : List Int} (h : ka n m xs zs) (hn : n <= 64) (hb : ∀ x ∈ xs, x.natAbs < W ^ mw) : ∀ x ∈ zs, ag x.natAbs <= hW mw := fun x hx => by
 obtain ⟨k, l, hH⟩ := h;obtain ⟨hs, K, hB, hbd⟩ := j1 (c := m) (m := mw) (n := n) (E := ai xs n m) (by omega) (fun i b _ => dC (Nat.pow_pos (by unfold W; omega)) hb i b) fun i b hb => dQ i hb;obtain ⟨l', hl'⟩ := hB.herm;have hu := hH.herm.unique hl' (hH.sp.symm.trans hB.sp);obtain ⟨q, hq, rfl⟩ := List.getElem_of_mem hx;have hm0 : 0 < m := by
  rcases Nat.eq_zero_or_pos m with e | e
  · subst e; have := hH.len; omega
  · exact e
 have h1 : q / m < n := Nat.div_lt_of_lt_mul (by rw [Nat.mul_comm]; have := hH.len; omega);have e1 : zs[q] = ai zs n m (q / m) (q % m) := by
  rw [aM h1 (Nat.mod_lt _ hm0), Nat.div_add_mod' q m]; simp [hq]
 rw [e1];refine an ?_;by_cases e2 : q / m < k
 · rw [hu.2.2 _ e2];exact dC (Nat.pow_pos (by unfold W; omega)) hbd _ _
 · rw [hH.zero _ (by omega)];exact Nat.pow_pos (by unfold W; omega)
theorem ka.same {n m : Nat} {xs ys hs gs : List Int} (h : ka n m xs hs) (h' : ka n m ys gs) (e : aO n (ai ys n m) n (ai xs n m)) : hs = gs := by
 obtain ⟨k, l, hH⟩ := h;obtain ⟨k', l', hH'⟩ := h';exact ((hH.same e).unique hH').1
structure o3 (n m mw : Nat) (xs ys : List Int) (ms : List nj) (s : Nat) : Prop where
 len : ys.length = n * m
 sp : aO n (ai ys n m) n (ai xs n m)
 bd : ∀ a b, a < n -> b < m -> (ai ys n m a b).natAbs < W ^ (mw + ng ms s)
structure pH (n m : Nat) (ys zs : List Int) (I J : Nat) (K : Int) (d : Nat) : Prop where
 len : zs.length = n * m
 val : ∀ a b, ai zs n m a b = if b < d then l5 I J false K (ai ys n m) a b else ai ys n m a b
theorem o3.start {n m mw : Nat} {xs : List Int} {ms : List nj} (hs : xs.length = n * m) (hb : ∀ x ∈ xs, x.natAbs < W ^ mw) : o3 n m mw xs xs ms 0 :=
 ⟨hs, aO.refl _ _, fun a b _ _ => dC (Nat.pow_pos (by unfold W; omega)) hb a b⟩
theorem o3.idle {n m mw s : Nat} {xs ys : List Int} {ms : List nj} (h : o3 n m mw xs ys ms s) : o3 n m mw xs ys ms (s + 1) :=
 ⟨h.len, h.sp, fun a b ha hb => Nat.lt_of_lt_of_le (h.bd a b ha hb) (Nat.pow_le_pow_right (by decide) (by have := oU ms (show s <= s + 1 by omega); omega))⟩
theorem pH.start {n m : Nat} {ys : List Int} (I J : Nat) (K : Int) (h : ys.length = n * m) : pH n m ys ys I J K 0 := ⟨h, fun a b => by rw [if_neg (Nat.not_lt_zero _)]⟩
theorem pH.bd {n m mw s I J d : Nat} {xs ys zs : List Int} {ms : List nj} {i j K : Int} (hJ : o3 n m mw xs ys ms s) (h : pH n m ys zs I J K d) (hi : I < n) (hj : J < n) (hq : ru ms s = ⟨i, j, K⟩) : ∀ a b, a < n -> b < m -> (ai zs n m a b).natAbs < W ^ (mw + ng ms (s + 1)) := fun a b ha hb => by
 have e : mw + ng ms (s + 1) = mw + ng ms s + ag K.natAbs + 1 := by
  show mw + (ng ms s + ag (ru ms s).K.natAbs + 1) = _;rw [hq]; show mw + (ng ms s + ag K.natAbs + 1) = _; omega
 rw [h.val, e];split
 · exact yX hi hj false hJ.bd (aT _) a b ha hb
 · exact Nat.lt_of_lt_of_le (hJ.bd a b ha hb) (Nat.pow_le_pow_right (by decide) (by omega))
theorem pH.fin {n m mw s I J : Nat} {xs ys zs : List Int} {ms : List nj} {i j K : Int} (hJ : o3 n m mw xs ys ms s) (h : pH n m ys zs I J K m) (hi : I < n) (hj : J < n) (hq : ru ms s = ⟨i, j, K⟩) : o3 n m mw xs zs ms (s + 1) := by
 have e : ∀ a b, ai zs n m a b = l5 I J false K (ai ys n m) a b := fun a b => by
  rw [h.val];by_cases hb : b < m
  · rw [if_pos hb]
  · rw [if_neg hb];have z : ∀ a, ai ys n m a b = 0 := fun a => dQ a (by omega);unfold l5;rw [z, z, z]
    (repeat' split) <;> simp
 refine ⟨h.len, ?_, h.bd hJ hi hj hq⟩;have e1 : aO n (ai zs n m) n (l5 I J false K (ai ys n m)) := aO.of_eq fun a _ b => e a b;exact (e1.trans (yk hi hj false K (ai ys n m)).symm).trans hJ.sp
theorem pH.wl {n m mw s I J d T : Nat} {xs ys zs : List Int} {ms : List nj} {i j K : Int} (hJ : o3 n m mw xs ys ms s) (h : pH n m ys zs I J K d) (hi : I < n) (hj : J < n) (hq : ru ms s = ⟨i, j, K⟩) (hT : mw + ng ms (s + 1) <= T) {a b : Nat} (ha : a < n) (hb : b < m) : ag (gi zs (a * m + b)).natAbs <= T := by
 have h1 := h.bd hJ hi hj hq a b ha hb;rw [aM ha hb] at h1;exact Nat.le_trans (an h1) hT
theorem o3.wl {n m mw s T : Nat} {xs ys : List Int} {ms : List nj} (h : o3 n m mw xs ys ms s) (hT : mw + ng ms s <= T) : ∀ x ∈ ys, ag x.natAbs <= T := fun x hx => by
 obtain ⟨q, hq, rfl⟩ := List.getElem_of_mem hx;have hm0 : 0 < m := by
  rcases Nat.eq_zero_or_pos m with e | e
  · subst e; have := h.len; omega
  · exact e
 have h1 : q / m < n := Nat.div_lt_of_lt_mul (by rw [Nat.mul_comm]; have := h.len; omega);have := h.bd (q / m) (q % m) h1 (Nat.mod_lt _ hm0);rw [aM h1 (Nat.mod_lt _ hm0), Nat.div_add_mod' q m, show ys.getD q 0 = ys[q] by simp [hq]] at this;exact Nat.le_trans (an this) hT
theorem pH.neg {n m I d q : Nat} {ys zs : List Int} {K : Int} (h : pH n m ys zs I I K d) (hi : I < n) (hd : d < m) (hq : I * m + d = q) : pH n m ys (zs.set q (-gi zs q)) I I K (d + 1) :=
 ⟨by rw [List.length_set]; exact h.len, yt h.len hi hd h.val hq (by rw [<- hq, aM hi hd]; rfl)⟩
theorem pH.add {n m I J d q p : Nat} {ys zs : List Int} {K : Int} (h : pH n m ys zs I J K d) (hi : I < n) (hj : J < n) (hij : I ≠ J) (hd : d < m) (hq : I * m + d = q) (hp : J * m + d = p) : pH n m ys (zs.set q (K * gi zs p + gi zs q)) I J K (d + 1) :=
 ⟨by rw [List.length_set]; exact h.len, yj h.len hi hij hd h.val hq (by rw [<- hq, aM hi hd]; rfl) (by rw [<- hp, aM hj hd]; rfl)⟩
section
variable {ops : Array Oper} {Q : Exit -> Act -> World -> Prop} {ds : List Deferred} {S0 : Nat -> Prop} {w0 : World} {E0 : List En} {n j s : Nat} {l : List Nat} {G E : List En} {ls : List (Nat × Value)} {ty : TypeId} {pos : String} {af : Array Edge}
set_option maxRecDepth 100000 in
theorem slW {sx sl sh : Operand} (a : Option Addr) (len cap x y : Nat) (v : Value) (hxy : x <= y) (hy : y <= cap) (hv : sliced a x y cap 2 = v) (k : cW ds ⟨Try.prog, ops, Q, S0, w0, E0, []⟩ n l G E ((s, v) :: ls))
 (ho : ops[j]? = some ⟨some s, .slice 22 sx (some sl) (some sh) none, ty, pos, af, none⟩ := by rfl) (hk : (bE (.slice 22 sx (some sl) (some sh) none) && di ls (.slice 22 sx (some sl) (some sh) none) && Nat.blt s n) = true := by kernel_rfl)
 (h1 : cj ls sx = .slice a len cap := by (simp only [bN, Nat.reduceEqDiff, ↓reduceIte]) <;> rfl) (h2 : cj ls sl = .int .i64 (x : Int) := by (simp only [bN, Nat.reduceEqDiff, ↓reduceIte]) <;> rfl) (h3 : cj ls sh = .int .i64 (y : Int) := by (simp only [bN, Nat.reduceEqDiff, ↓reduceIte]) <;> rfl) : cW ds ⟨Try.prog, ops, Q, S0, w0, E0, []⟩ n (j :: l) G E ls := by
 refine dW k ho hk fun w _ => ?_;subst hv;obtain ⟨i, hi, hz, hs, hbt⟩ := info_parts jn;have e := run_slice_lh (P := Try.prog) w 22 a len cap Try.underlying22 .i64 .i64 (x : Int) (y : Int) (by omega) (by omega) (by omega);have e2 := run_sliceAt_slice (P := Try.prog) w 22 (.slice a len cap) (some (.int .i64 (x : Int))) (some (.int .i64 (y : Int))) none Try.underlying22;have e3 : (sizeOf (Try.prog.elem 22)).run Try.prog w = .ok 2 w := by go_simp <;> rfl
 rw [e3] at e;simp only [Int.toNat_natCast, Result.andThen] at e;simp [execOp, h1, h2, h3, e2, e, Result.andThen]
end
theorem r5 {b o c i cap : Nat} (hc : 0 < c) (h : (i + 1) * c <= cap) : sliced (some ⟨b, o, none⟩) (i * c) ((i + 1) * c) cap 2 = .slice (some ⟨b, o + i * c * 2, none⟩) c (cap - i * c) := by
 have e : (i + 1) * c = i * c + c := Nat.succ_mul i c;unfold sliced;rw [if_neg (by omega), Option.map_some, Go.WideShapes.add_plain, e, Nat.add_sub_cancel_left]
def o5 (b r c : Nat) (I : Int) (q : Option Addr × Nat × Nat) : Prop := q.2.1 = 0 ∨ (0 <= I /\ I < r /\ 0 < c /\ q.2.1 = c /\ q.1 = some ⟨b, I.toNat * c * 2, none⟩)
set_option maxRecDepth 100000 in
set_option maxHeartbeats 1000000 in
theorem wm (r c nm cap b : Nat) (I : Int) (w : World) (h1 : I < 0) :
 Calls Try.prog 17 #[.agg #[.int .i64 (r : Int), .int .i64 (c : Int), .slice (some ⟨b, 0, none⟩) nm cap], .int .i64 I] w fun e w' => (∃ q : Option Addr × Nat × Nat, e = .returned (.slice q.1 q.2.1 q.2.2) /\ o5 b r c I q) /\ Below w.heap.size w w' := by
 refine aZ (S0 := fun _ => False) Try.func17 (Fr.nil _ w) ?_;refine ae ?_;refine rW [] ?_;refine aW fun g2 => ?_;refine dW ?_;refine eW ?_;refine ae ?_;refine rW [] ?_;refine dW ?_;refine dB true ?_;refine dW ?_;refine uG ?_;refine uG ?_;refine uG ?_;refine uG ?_;refine dW ?_;refine dW ?_;refine uG ?_;refine uG ?_;refine uG ?_;refine uG ?_;refine uG ?_;refine uG ?_;refine uG ?_;refine uG ?_;refine uG ?_;refine dW ?_;refine eW ?_;refine ae ?_;refine dO ?_;refine ae ?_;refine rW [] ?_;refine dW ?_;refine eW ?_;refine ae ?_;refine cQ fun w' H => ?_;exact ⟨_, cX, ⟨(none, 0, 0), rfl, .inl rfl⟩, H.below⟩
set_option maxRecDepth 100000 in
set_option maxHeartbeats 1000000 in
theorem wD (r c nm cap b : Nat) (I : Int) (w : World) (h1 : ¬ I < 0) (h2 : (r : Int) <= I) :
 Calls Try.prog 17 #[.agg #[.int .i64 (r : Int), .int .i64 (c : Int), .slice (some ⟨b, 0, none⟩) nm cap], .int .i64 I] w fun e w' => (∃ q : Option Addr × Nat × Nat, e = .returned (.slice q.1 q.2.1 q.2.2) /\ o5 b r c I q) /\ Below w.heap.size w w' := by
 refine aZ (S0 := fun _ => False) Try.func17 (Fr.nil _ w) ?_;refine ae ?_;refine rW [] ?_;refine aW fun g2 => ?_;refine dW ?_;refine eW ?_;refine ae ?_;refine rW [] ?_;refine dW ?_;refine dB false ?_;refine dW ?_;refine dG ?_;refine dG ?_;refine dG ?_;refine j8 true ?_;refine dW ?_;refine dW ?_;refine uG ?_;refine uG ?_;refine uG ?_;refine uG ?_;refine uG ?_;refine uG ?_;refine uG ?_;refine uG ?_;refine uG ?_;refine dW ?_;refine eW ?_;refine ae ?_;refine dO ?_;refine ae ?_;refine rW [] ?_;refine dW ?_;refine eW ?_;refine ae ?_;refine cQ fun w' H => ?_;exact ⟨_, cX, ⟨(none, 0, 0), rfl, .inl rfl⟩, H.below⟩
set_option maxRecDepth 100000 in
set_option maxHeartbeats 1000000 in
theorem wL (r c nm cap b i : Nat) (w : World) (hi : i < r) (hr : r <= 64) (hc : c <= 64) (hnm : r * c = nm) (hcap : nm <= cap) :
 Calls Try.prog 17 #[.agg #[.int .i64 (r : Int), .int .i64 (c : Int), .slice (some ⟨b, 0, none⟩) nm cap], .int .i64 (i : Int)] w fun e w' => (∃ q : Option Addr × Nat × Nat, e = .returned (.slice q.1 q.2.1 q.2.2) /\ o5 b r c (i : Int) q) /\ Below w.heap.size w w' := by
 have h1 : ¬ (i : Int) < 0 := by omega
 have h2 : ¬ (r : Int) <= (i : Int) := by omega
 have hic : i * c <= 4096 := Nat.mul_le_mul (show i <= 64 by omega) hc;have hic1 : (i + 1) * c <= r * c := Nat.mul_le_mul_right c hi;have hrc : r * c <= 4096 := Nat.mul_le_mul hr hc;have e1 : (i + 1) * c = i * c + c := Nat.succ_mul i c;have hv : ∃ q : Option Addr × Nat × Nat, sliced (some ⟨b, 0, none⟩) (i * c) ((i + 1) * c) cap 2 = .slice q.1 q.2.1 q.2.2 /\ o5 b r c (i : Int) q := by
  by_cases h0 : 0 < c
  · exact ⟨(some ⟨b, 0 + i * c * 2, none⟩, c, cap - i * c), r5 h0 (by omega), .inr ⟨by omega, by omega, h0, rfl, by rw [Nat.zero_add, Int.toNat_natCast]⟩⟩
  · obtain rfl : c = 0 := by omega
    exact ⟨(_, 0, cap - i * 0), by unfold sliced; rw [Nat.mul_zero, Nat.mul_zero, Nat.sub_self], .inl rfl⟩
 obtain ⟨q, hv, hQ⟩ := hv;obtain ⟨x, hx⟩ : ∃ x, i * c = x := ⟨_, rfl⟩;obtain ⟨y, hy⟩ : ∃ y, (i + 1) * c = y := ⟨_, rfl⟩;rw [hnm] at hic1 hrc;rw [hx, hy] at hv;rw [hx] at hic e1;rw [hy] at hic1 e1;have HX := Lib.hid (And.intro hx (And.intro hy (And.intro hv hQ)));have h3 : ¬ (nm : Int) < (y : Int) := by omega
 clear hx hy hv hQ hnm;refine aZ (S0 := fun _ => False) Try.func17 (Fr.nil _ w) ?_;refine ae ?_;refine rW [] ?_;refine aW fun g2 => ?_;refine dW ?_;refine eW ?_;refine ae ?_;refine rW [] ?_;refine dW ?_;refine dB false ?_;refine dW ?_;refine dG ?_;refine dG ?_;refine dG ?_;refine j8 false ?_;refine dW ?_;refine dW ?_;refine dG ?_;refine dGE (cd (a := i) (by omega)) ?_;refine dG ?_;refine dG ?_;refine dGE ((jR (a := i + 1) (b := c) (by have := HX.out.2.1; omega)).trans (by rw [HX.out.2.1])) ?_;refine dG ?_;refine dG ?_;refine dG ?_;refine j8 false ?_;refine dW ?_;refine eW ?_;refine ae ?_;refine bX ?_;refine ae ?_;refine rW [] ?_;refine dW ?_;refine dW ?_;refine dW ?_;refine dW ?_;refine dW ?_;refine dE ((jR (a := i) (b := c) (by have := HX.out.1; omega)).trans (by rw [HX.out.1])) ?_;refine dW ?_;refine dE (cd (a := i) (by omega)) ?_;refine dW ?_;refine dW ?_;refine dE ((jR (a := i + 1) (b := c) (by have := HX.out.2.1; omega)).trans (by rw [HX.out.2.1])) ?_;refine slW (some ⟨b, 0, none⟩) nm cap x y (.slice q.1 q.2.1 q.2.2) (by omega) (by omega) HX.out.2.2.1 ?_;refine dW ?_;refine eW ?_;refine ae ?_;refine cQ fun w' H => ?_;exact ⟨_, cX, ⟨q, rfl, HX.out.2.2.2⟩, H.below⟩
theorem vU (r c nm cap b : Nat) (I : Int) (w : World) (hr : r <= 64) (hc : c <= 64) (hnm : r * c = nm) (hcap : nm <= cap) :
 Calls Try.prog 17 #[.agg #[.int .i64 (r : Int), .int .i64 (c : Int), .slice (some ⟨b, 0, none⟩) nm cap], .int .i64 I] w fun e w' => (∃ q : Option Addr × Nat × Nat, e = .returned (.slice q.1 q.2.1 q.2.2) /\ o5 b r c I q) /\ Below w.heap.size w w' := by
 by_cases h1 : I < 0
 · exact wm r c nm cap b I w h1
 · by_cases h2 : (r : Int) <= I
   · exact wD r c nm cap b I w h1 h2
   · obtain ⟨i, rfl⟩ : ∃ i : Nat, I = (i : Int) := ⟨I.toNat, by omega⟩;exact wL r c nm cap b i w (by omega) hr hc hnm hcap
section
variable {ops : Array Oper} {Q : Exit -> Act -> World -> Prop} {ds : List Deferred} {S0 : Nat -> Prop} {w0 : World} {E0 : List En} {hd : List (List Nat)} {n j s : Nat} {l : List Nat} {G E : List En} {ls : List (Nat × Value)} {op : Op} {ty : TypeId} {pos : String} {af : Array Edge}
theorem sNo {b i : Nat} {ps ps' : List P4} {tl : List Value} {ad x : Operand} {sty : TypeId} {E' : List En} (o q : Nat) (p : P4) (hoq : o = q * 2) (hq : q < ps.length) (ht : aP tl) (hs : ps.set q p = ps')
 (k' : cW ds ⟨Try.prog, ops, Q, S0, w0, E0, hd⟩ n l G E' ls)
 (ho : ops[j]? = some ⟨none, .store sty ad x, ty, pos, af, none⟩ := by rfl) (hk : di ls (.store sty ad x) = true := by kernel_rfl)
 (ha : cj ls ad = .pointer (some ⟨b, o, none⟩) := by (simp only [bN, Nat.reduceEqDiff, ↓reduceIte]) <;> rfl)
 (hv : cj ls x = .agg #[.bool p.1, .slice p.2.1 p.2.2.1 p.2.2.2] := by (simp only [bN, Nat.reduceEqDiff, ↓reduceIte, av]) <;> rfl)
 (hE : Up (.row b 27 (rn ps tl)) (.row b 27 (rn ps' tl)) i E E' := by repeat first | exact .z | apply Up.s)
 (hr : ∀ w u v, w.cell? ⟨b, o, none⟩ = some u -> w.cell? ⟨b, o + 1, none⟩ = some v -> w.frozen? ⟨b, o, none⟩ = false -> w.frozen? ⟨b, o + 1, none⟩ = false -> (execOp (cj ls) ⟨none, .store sty ad x, ty, pos, af, none⟩).run Try.prog w = .ok .skip (mV w b o [.bool p.1, .slice p.2.1 p.2.2.1 p.2.2.2]) := by intro w u v c0 c1 f0 f1; (try simp only [av]); go_simp <;> rfl)
 (hst : ew ops hd j [i] = true := by kernel_rfl) : cW ds ⟨Try.prog, ops, Q, S0, w0, E0, hd⟩ n (j :: l) G E ls := by
 subst hoq;exact sN q p hq ht hs k' ho hk ha hv hE hr hst
end
theorem zcM (x : Int) : o7 x x = 0 := by unfold o7; rw [if_neg (by omega), if_pos rfl]
theorem rnO {ps : List P4} {X j q : Nat} (tl : List Value) {p : P4} (hq : X + j = q) (h : q < ps.length) (hp : gp ps q = p) : (rn ps tl)[X * 2 + j * 2]? = some (.bool p.1) /\ (rn ps tl)[X * 2 + j * 2 + 1]? = some (.slice p.2.1 p.2.2.1 p.2.2.2) := by
 rw [show X * 2 + j * 2 = q * 2 by omega, <- hp];exact ⟨ot tl h, pG tl h⟩
set_option maxRecDepth 100000 in
set_option maxHeartbeats 1000000 in
theorem Mov_u (r c : Int) (ao mo : Option Addr) (len cap ml mc : Nat) (w : World) (hr : -9223372036854775808 <= r /\ r <= 9223372036854775807) (hc : -9223372036854775808 <= c /\ c <= 9223372036854775807) (hs : aR r c len = false) :
 Calls Try.prog 4 #[.agg #[.int .i64 r, .int .i64 c, .slice ao len cap], .slice mo ml mc] w fun e w' => e = .returned (.bool true) /\ Below w.heap.size w w' := by
 have hC := fun w' => cF r c ao len cap w' hr hc;rw [fz hs] at hC;have HC := Lib.hid (And.intro hC (fun w' => we r c ao len cap w' hr hc hs));clear hC hs;refine aZ (S0 := fun _ => False) Try.func4 (Fr.nil _ w) ?_;refine ae ?_;refine rW [] ?_;refine aW fun g2 => ?_;refine dW ?_;refine eW ?_;refine ae ?_;refine rW [] ?_;refine cV (v := .bool true) (fun w' H => ly w') ?_;refine dW ?_;refine eW ?_;refine ae ?_;refine bX ?_;refine ae ?_;refine rW [] ?_;refine dW ?_;refine cV (v := .int .i64 1) (fun w' H => HC.out.1 w') ?_;refine dB true ?_;refine eW ?_;refine ae ?_;refine dO ?_;refine ae ?_;refine rW [] ?_;refine dW ?_;refine cV (v := .bool true) (fun w' H => HC.out.2 w') ?_;refine dW ?_;refine eW ?_;refine ae ?_;refine cQ fun w' H => ?_;exact ⟨_, cX, rfl, H.below⟩
set_option maxRecDepth 100000 in
set_option maxHeartbeats 16000000 in
theorem Mov_s (n m nm mw T cap ml mc : Nat) (ao mo : Option Addr) (xs : List Int) (ms : List nj) (w : World) (hn : n <= 64) (hm : m <= 64) (hT : T <= 1048576) (hmT : mw + ng ms ml <= T) (hA : aI w mw ao xs) (hs : xs.length = n * m) (hnm : xs.length = nm) (hM : l7 w T mo ms) (hml : ms.length = ml) (hml2 : ml <= 1048576) :
 Calls Try.prog 4 #[.agg #[.int .i64 (n : Int), .int .i64 (m : Int), .slice ao nm cap], .slice mo ml mc] w fun e w' => e = .returned (.bool true) /\ Below w.heap.size w w' := by
 have hxb := fT hA;have hnm4 : n * m <= 4096 := Nat.mul_le_mul hn hm;have hmw : mw <= 1048576 := by omega
 have hW1 : hW mw <= 150000000 := by unfold hW gI; omega
 have c0 : ∀ w', Calls Try.prog 14 #[.agg #[.int .i64 (n : Int), .int .i64 (m : Int), .slice ao nm cap]] w' fun e w'' => e = .returned (.int .i64 0) /\ Below w'.heap.size w' w'' := fun w' => by
  have := cF (n : Int) (m : Int) ao nm cap w' (by omega) (by omega);rw [dm (by unfold aR bB; rw [<- hnm, hs]; simp; omega)] at this; exact this
 have c1 : ∀ w', aI w' mw ao xs -> Calls Try.prog 16 #[.agg #[.int .i64 (n : Int), .int .i64 (m : Int), .slice ao nm cap]] w' fun e w'' => ∃ q : Nat × List P4 × List Value, e = .returned (.tuple #[.agg #[.int .i64 (n : Int), .int .i64 (m : Int), .slice (some ⟨q.1, 0, none⟩) nm nm], .int .i64 0]) /\ Nw w' w'' [.pr (aP q.2.2 /\ q.2.1.length = nm), .row q.1 27 (rn q.2.1 q.2.2), .ns q.2.1 xs] := fun w' h => by
  refine (qn (n : Int) (m : Int) ao nm cap xs w' (by omega) (by omega) (h.up (by omega)) hnm.symm (by unfold aR bB; rw [<- hnm, hs]; simp; omega) (by omega)).mono fun e w'' ⟨⟨b, he, hge, hR⟩, hb⟩ => ?_;obtain ⟨ps, tl, ht, hrow, hns⟩ := hR.un;refine ⟨(b, ps, tl), by rw [he, hnm], hb, fun e he => ?_, .cons (fun x hx => ⟨(fun q => nomatch q), fun _ _ _ h => h⟩) (.cons (fun x hx => ?_) (List.pairwise_singleton ..))⟩
  · rcases List.mem_cons.1 he with rfl | he
    · exact ⟨⟨ht, hns.1.trans hnm⟩, fun _ h => h.elim⟩
    · rcases List.mem_cons.1 he with rfl | he
      · exact ⟨hrow, fun b' e => by cases e; exact hge⟩
      · rcases List.mem_singleton.1 he with rfl;exact ⟨hns, fun _ h => h.elim⟩
  · rcases List.mem_singleton.1 hx with rfl;exact ⟨fun _ _ _ h => h, fun q => nomatch q⟩
 have c2 := fun b I w' => vU n m nm nm b I w' hn hm (by omega) (Nat.le_refl _);have c3 := fun w' (h : aI w' mw ao xs) => oN n m nm mw cap ao xs w' hn hm (by omega) h hs hnm;have c4 := fun w' (h : aI w' mw ao xs) => sQ n m nm mw cap ao xs w' hn hm (by omega) h hs hnm;have c5 := fun b ys w' (hJ : o3 n m mw xs ys ms ml) (h : bM w' b ys) => oN n m nm T nm (some ⟨b, 0, none⟩) ys w' hn hm (by omega) (h.lsN.gK (hJ.wl hmT)) hJ.len (hJ.len.trans (hs.symm.trans hnm));have c6 := fun b ys w' (hJ : o3 n m mw xs ys ms ml) (h : bM w' b ys) => sQ n m nm T nm (some ⟨b, 0, none⟩) ys w' hn hm (by omega) (h.lsN.gK (hJ.wl hmT)) hJ.len (hJ.len.trans (hs.symm.trans hnm));have c7 : ∀ (zo ho : Option Addr) zc hc hs ys gs w', o3 n m mw xs ys ms ml -> ka n m xs hs -> ka n m ys gs -> ea w' zo hs -> ea w' ho gs -> Calls Try.prog 13 #[.agg #[.int .i64 (n : Int), .int .i64 (m : Int), .slice zo nm zc], .agg #[.int .i64 (n : Int), .int .i64 (m : Int), .slice ho nm hc]] w' fun e w'' => e = .returned (.bool true) /\ Below w'.heap.size w' w'' := by
  intro zo ho zc hc hs' ys gs w' hJ hF hG hN hN2;obtain rfl := hF.same hG hJ.sp;have hw : ∀ x ∈ hs', ag x.natAbs <= 17592186044415 := fun x hx => Nat.le_trans (hF.wl hn hxb x hx) (by omega);have hl : hs'.length = nm := by obtain ⟨k, l, hH⟩ := hF; rw [hH.len, <- hs, hnm]
  have := rf n m zo ho zc hc hs' hs' w' hN hN2 (by omega) (by omega) hw hw;rw [hl, decide_eq_true rfl] at this;exact this
 have f1 := fun ys v v' (hJ : o3 n m mw xs ys ms ml) (hv : kz n m xs v) (hv' : kz n m ys v') => vf hn hxb hJ.sp hv hv';have f2 : ∀ v, kz n m xs v -> ag v.natAbs <= 17592186044415 := fun v h => Nat.le_trans (h.wl hn fun x hx => an (hxb x hx)) (by omega);have f3 : o3 n m mw xs xs ms 0 := o3.start hs hxb;have f4 : ∀ s, s < ml -> mw + ng ms (s + 1) <= T := fun s h => by have := oU ms (show s + 1 <= ml by omega); omega
 have HC := Lib.hid (And.intro c0 (And.intro c1 (And.intro c2 (And.intro c3 (And.intro c4 (And.intro c5 (And.intro c6 (And.intro c7 (And.intro f1 (And.intro f2 (And.intro f3 (And.intro f4 (And.intro (hs.symm.trans hnm) hml)))))))))))));clear c0 c1 c2 c3 c4 c5 c6 c7 f1 f2 f3 f4 hxb hs hnm hml hnm4 hW1 hmT;have HF := ((Fr.nil (fun _ => False) w).tO hM (by simp)).l hA (by simp [En.wr]);clear hA hM;refine aZ (S0 := fun _ => False) Try.func4 HF ?_;clear HF;refine ae ?_;refine rW [] ?_;refine aW fun g2 => ?_;refine dW ?_;refine eW ?_;refine ae ?_;refine rW [] ?_;refine cV (v := .bool true) (fun w' H => ly w') ?_;refine dW ?_;refine eW ?_;refine ae ?_;refine bX ?_;refine ae ?_;refine rW [] ?_;refine dW ?_;refine cV (v := .int .i64 0) (fun w' H => HC.out.1 w') ?_;refine dB false ?_;refine eW ?_;refine ae ?_;refine bX ?_;refine ae ?_;refine rW [] ?_;refine dW ?_;refine cG (α := Nat × List P4 × List Value) (mk := fun q => .tuple #[.agg #[.int .i64 (n : Int), .int .i64 (m : Int), .slice (some ⟨q.1, 0, none⟩) nm nm], .int .i64 0]) (ens := fun q => [.pr (aP q.2.2 /\ q.2.1.length = nm), .row q.1 27 (rn q.2.1 q.2.2), .ns q.2.1 xs]) (hne := ⟨(0, [], [])⟩) (fun w' H => HC.out.2.1 w' (H.all (.ls mw ao xs) (by simp))) fun qL => ?_;refine dW ?_;refine dW ?_;refine dW ?_;refine aW fun g5 => ?_;refine sG ?_;refine dW ?_;refine eW ?_;refine ae ?_;obtain ⟨b, ps0, tl⟩ := qL;refine lJ (A := aP tl /\ ps0.length = nm) (by simp) fun hq => ?_;have HTl := Lib.hid hq.1;have HP0 := Lib.hid hq.2;clear hq;refine rW [] ?_;refine dW ?_;refine eW ?_;refine ae ?_;refine cZ (es' := [.row b 27 (rn ps0 tl), .ns ps0 xs, .row g2 24 [.int .i64 (n : Int), .int .i64 (m : Int), .slice ao nm cap], .row g5 24 [.int .i64 (n : Int), .int .i64 (m : Int), .slice (some ⟨b, 0, none⟩) nm nm], .ls mw ao xs, .tO T mo ms]) ?_;refine bF (X := Nat × List P4 × List Int) (fun x => x.1 <= ml /\ x.2.1.length = nm /\ o3 n m mw xs x.2.2 ms x.1) (fun x => ml - x.1) (fun x => [(7, .int .i64 (x.1 : Int)), (1, .slice mo ml mc), (5, .pointer (some ⟨g5, 0, none⟩)), (2, .pointer (some ⟨g2, 0, none⟩))])
  (fun x => [.row b 27 (rn x.2.1 tl), .ns x.2.1 x.2.2, .row g2 24 [.int .i64 (n : Int), .int .i64 (m : Int), .slice ao nm cap], .row g5 24 [.int .i64 (n : Int), .int .i64 (m : Int), .slice (some ⟨b, 0, none⟩) nm nm], .ls mw ao xs, .tO T mo ms]) (0, ps0, xs) ⟨Nat.zero_le _, HP0.out, HC.out.2.2.2.2.2.2.2.2.2.2.1⟩ fun x hx => ?_
 obtain ⟨i, ps, ys⟩ := x;obtain ⟨hi, hpl, hJ⟩ := hx
 replace hi : i <= ml := hi
 have HJ := Lib.hid (show o3 n m mw xs ys ms i from hJ);have HPl := Lib.hid (show ps.length = nm from hpl);clear hJ hpl;by_cases h : i < ml
 · have h01 : (i : Int) < (ml : Int) := by omega
   refine ae ?_;refine rW [] ?_;refine dW ?_;refine dW ?_;refine dW ?_;refine dB true ?_;obtain ⟨⟨I, J, K⟩, hQ⟩ : ∃ q, ru ms i = q := ⟨_, rfl⟩;have HQ := Lib.hid hQ;clear hQ;refine eW ?_;refine ae ?_;refine posMW (L := T) (ao := mo) (ms := ms) (by simp) (by rw [HC.out.2.2.2.2.2.2.2.2.2.2.2.2.2]; omega) fun bm om e => ?_;subst e;refine movW (L := T) (ms := ms) (b := bm) (o := om) i (by simp) (by rw [HC.out.2.2.2.2.2.2.2.2.2.2.2.2.2]; exact h) HQ.out fun pk => ?_;refine dO ?_;refine ae ?_;refine rW [] ?_;refine dW ?_;refine dW ?_;refine dW ?_;refine dW ?_;refine dW ?_;refine dW ?_;refine cG (α := Option Addr × Nat × Nat) (mk := fun q => .slice q.1 q.2.1 q.2.2) (ens := fun q => [.pr (o5 b n m I q)]) (fun w' H => (HC.out.2.2.1 b I w').mono fun e w'' ⟨⟨p, he, h0⟩, hbb⟩ => ⟨p, he, hbb, fun e he => by rcases List.mem_singleton.1 he with rfl; exact ⟨h0, fun _ h => h.elim⟩, List.pairwise_singleton ..⟩) fun qx => ?_;refine dW ?_;refine dW ?_;refine dW ?_;refine dW ?_;refine dW ?_;refine dW ?_;refine cG (α := Option Addr × Nat × Nat) (mk := fun q => .slice q.1 q.2.1 q.2.2) (ens := fun q => [.pr (o5 b n m J q)]) (fun w' H => (HC.out.2.2.1 b J w').mono fun e w'' ⟨⟨p, he, h0⟩, hbb⟩ => ⟨p, he, hbb, fun e he => by rcases List.mem_singleton.1 he with rfl; exact ⟨h0, fun _ h => h.elim⟩, List.pairwise_singleton ..⟩) fun qy => ?_;refine dW ?_;refine dW ?_;refine eW ?_;refine ae ?_;obtain ⟨xa, xl, xc⟩ := qx;obtain ⟨ya, yl, yc⟩ := qy;refine lJ (A := o5 b n m I (xa, xl, xc)) (by simp) fun hqx => ?_;refine lJ (A := o5 b n m J (ya, yl, yc)) (by simp) fun hqy => ?_;refine cZ (es' := [.row b 27 (rn ps tl), .ns ps ys, .row g2 24 [.int .i64 (n : Int), .int .i64 (m : Int), .slice ao nm cap], .row g5 24 [.int .i64 (n : Int), .int .i64 (m : Int), .slice (some ⟨b, 0, none⟩) nm nm], .ls mw ao xs, .tO T (some ⟨bm, om, none⟩) ms]) ?_;refine rW [] ?_;by_cases hxl : xl = 0
   · clear hqx hqy;subst hxl;refine dW ?_;refine eW ?_;refine ae ?_;refine bF (X := Nat) (fun x => x = 0) (fun x => 0) (fun x => [(10, .int .i64 (x : Int)), (8, .slice xa 0 xc), (9, .slice ya yl yc), (7, .int .i64 (i : Int)), (1, .slice (some ⟨bm, om, none⟩) ml mc), (5, .pointer (some ⟨g5, 0, none⟩)), (2, .pointer (some ⟨g2, 0, none⟩))])
      (fun x => [.row b 27 (rn ps tl), .ns ps ys, .row g2 24 [.int .i64 (n : Int), .int .i64 (m : Int), .slice ao nm cap], .row g5 24 [.int .i64 (n : Int), .int .i64 (m : Int), .slice (some ⟨b, 0, none⟩) nm nm], .ls mw ao xs, .tO T (some ⟨bm, om, none⟩) ms]) 0 rfl fun x hx => ?_
     obtain rfl : x = 0 := hx;refine ae ?_;refine rW [] ?_;refine dW ?_;refine dW ?_;refine dW ?_;refine dB false ?_;refine dW ?_;refine uG ?_;refine uG ?_;refine uG ?_;refine uG ?_;refine dW ?_;refine eW ?_;refine ae ?_;refine bX ?_;refine ae ?_;refine rW [] ?_;refine dW ?_;refine dE (cd (a := i) (by omega)) ?_;refine dW ?_;refine eW ?_;refine ae ?_;exact bh (i + 1, ps, ys) ⟨⟨h, HPl.out, HJ.out.idle⟩, by show ml - (i + 1) < ml - i; omega⟩
   · by_cases hyl : yl = 0
     · clear hqy;subst hyl;have hxl0 : (0 : Int) < (xl : Int) := by omega
       refine dW ?_;refine eW ?_;refine ae ?_;refine bF (X := Nat) (fun x => x = 0) (fun x => 0) (fun x => [(10, .int .i64 (x : Int)), (8, .slice xa xl xc), (9, .slice ya 0 yc), (7, .int .i64 (i : Int)), (1, .slice (some ⟨bm, om, none⟩) ml mc), (5, .pointer (some ⟨g5, 0, none⟩)), (2, .pointer (some ⟨g2, 0, none⟩))])
        (fun x => [.row b 27 (rn ps tl), .ns ps ys, .row g2 24 [.int .i64 (n : Int), .int .i64 (m : Int), .slice ao nm cap], .row g5 24 [.int .i64 (n : Int), .int .i64 (m : Int), .slice (some ⟨b, 0, none⟩) nm nm], .ls mw ao xs, .tO T (some ⟨bm, om, none⟩) ms]) 0 rfl fun x hx => ?_
       obtain rfl : x = 0 := hx;refine ae ?_;refine rW [] ?_;refine dW ?_;refine dW ?_;refine dW ?_;refine dB true ?_;refine dW ?_;refine dG ?_;refine dG ?_;refine dG ?_;refine j8 false ?_;refine dW ?_;refine eW ?_;refine ae ?_;refine bX ?_;refine ae ?_;refine rW [] ?_;refine dW ?_;refine dE (cd (a := i) (by omega)) ?_;refine dW ?_;refine eW ?_;refine ae ?_;exact bh (i + 1, ps, ys) ⟨⟨h, HPl.out, HJ.out.idle⟩, by show ml - (i + 1) < ml - i; omega⟩
     · obtain ⟨hI0, hI1, hm0, e1, e2⟩ := hqx.resolve_left hxl;obtain ⟨hJ0, hJ1, _, e3, e4⟩ := hqy.resolve_left hyl;clear hqx hqy hxl hyl
       replace e1 : xl = m := e1
       replace e2 : xa = some ⟨b, I.toNat * m * 2, none⟩ := e2
       replace e3 : yl = m := e3
       replace e4 : ya = some ⟨b, J.toNat * m * 2, none⟩ := e4
       subst e1 e2 e3 e4;obtain ⟨ia, rfl⟩ : ∃ k : Nat, I = (k : Int) := ⟨I.toNat, by omega⟩;obtain ⟨ja, rfl⟩ : ∃ k : Nat, J = (k : Int) := ⟨J.toNat, by omega⟩;rw [Int.toNat_natCast, Int.toNat_natCast];have hia : ia < n := by omega
       have hja : ja < n := by omega
       obtain ⟨X, hX⟩ : ∃ X, ia * yl = X := ⟨_, rfl⟩;obtain ⟨Y, hY⟩ : ∃ Y, ja * yl = Y := ⟨_, rfl⟩;rw [hX, hY];have HXY := Lib.hid (And.intro hX (And.intro hY (And.intro (fun j (hj : j < yl) => show X + j < nm by rw [<- hX, <- HC.out.2.2.2.2.2.2.2.2.2.2.2.2.1]; exact bQ hia hj) (fun j (hj : j < yl) => show Y + j < nm by rw [<- hY, <- HC.out.2.2.2.2.2.2.2.2.2.2.2.2.1]; exact bQ hja hj))));clear hX hY hI0 hI1 hJ0 hJ1;refine dW ?_;refine eW ?_;refine ae ?_;refine bF (X := Nat × List P4 × List Int) (fun x => x.1 <= yl /\ x.2.1.length = nm /\ pH n yl ys x.2.2 ia ja K x.1) (fun x => yl - x.1) (fun x => [(10, .int .i64 (x.1 : Int)), (8, .slice (some ⟨b, X * 2, none⟩) yl xc), (9, .slice (some ⟨b, Y * 2, none⟩) yl yc), (7, .int .i64 (i : Int)), (1, .slice (some ⟨bm, om, none⟩) ml mc), (5, .pointer (some ⟨g5, 0, none⟩)), (2, .pointer (some ⟨g2, 0, none⟩))])
        (fun x => [.row b 27 (rn x.2.1 tl), .ns x.2.1 x.2.2, .row g2 24 [.int .i64 (n : Int), .int .i64 (yl : Int), .slice ao nm cap], .row g5 24 [.int .i64 (n : Int), .int .i64 (yl : Int), .slice (some ⟨b, 0, none⟩) nm nm], .ls mw ao xs, .tO T (some ⟨bm, om, none⟩) ms]) (0, ps, ys) ⟨Nat.zero_le _, HPl.out, pH.start ia ja K HJ.out.len⟩ fun x hx => ?_
       obtain ⟨j, qs, zs⟩ := x;obtain ⟨hj, hql, hI⟩ := hx
       replace hj : j <= yl := hj
       have HI := Lib.hid (show pH n yl ys zs ia ja K j from hI);have HQl := Lib.hid (show qs.length = nm from hql);clear hI hql;by_cases hjm : j < yl
       · have h02 : (j : Int) < (yl : Int) := by omega
         refine ae ?_;refine rW [] ?_;refine dW ?_;refine dW ?_;refine dW ?_;refine dB true ?_;refine dW ?_;refine dG ?_;refine dG ?_;refine dG ?_;refine j8 true ?_;obtain ⟨q, hq⟩ : ∃ q, X + j = q := ⟨_, rfl⟩;obtain ⟨p, hp⟩ : ∃ p, Y + j = p := ⟨_, rfl⟩;have hqn : q < nm := by rw [<- hq]; exact HXY.out.2.2.1 j hjm
         have hpn : p < nm := by rw [<- hp]; exact HXY.out.2.2.2 j hjm
         obtain ⟨px, hpx⟩ : ∃ p, gp qs q = p := ⟨_, rfl⟩;obtain ⟨py, hpy⟩ : ∃ q, gp qs p = q := ⟨_, rfl⟩;obtain ⟨q1, q2⟩ := rnO tl hq (by rw [HQl.out]; exact hqn) hpx;obtain ⟨q3, q4⟩ := rnO tl hp (by rw [HQl.out]; exact hpn) hpy;have hw1 : ag (gi zs q).natAbs <= T := by rw [<- hq, <- HXY.out.1]; exact HI.out.wl HJ.out hia hja HQ.out (HC.out.2.2.2.2.2.2.2.2.2.2.2.1 i h) hia hjm
         have hw2 : ag (gi zs p).natAbs <= T := by rw [<- hp, <- HXY.out.2.1]; exact HI.out.wl HJ.out hia hja HQ.out (HC.out.2.2.2.2.2.2.2.2.2.2.2.1 i h) hja hjm
         have HB := Lib.hid (And.intro hq (And.intro hp (And.intro hpx (And.intro hpy (And.intro hw1 hw2)))));clear hq hp hpx hpy hw1 hw2;refine dW ?_;refine eW ?_;refine ae ?_;refine iZ (e := .at T (av px) (gi zs q)) (fun w H => by have := (H.all (.ns qs zs) (by simp) : bg w qs zs).2 q (by rw [HQl.out]; exact hqn); rw [HB.out.2.2.1] at this; exact this.int HB.out.2.2.2.2.1) ?_;refine iZ (e := .at T (av py) (gi zs p)) (fun w H => by have := (H.all (.ns qs zs) (by simp) : bg w qs zs).2 p (by rw [HQl.out]; exact hpn); rw [HB.out.2.2.2.1] at this; exact this.int HB.out.2.2.2.2.2) ?_;refine movW (L := T) (ms := ms) (b := bm) (o := om) i (by simp) (by rw [HC.out.2.2.2.2.2.2.2.2.2.2.2.2.2]; exact h) HQ.out fun pk => ?_;by_cases hij : ia = ja
         · subst hij;refine ae ?_;refine dO ?_;refine ae ?_;refine rW [] ?_;refine dW ?_;refine dW ?_;refine dW ?_;refine dW ?_;refine dW ?_;refine dW ?_;refine dW ?_;refine dW ?_;refine dW ?_;refine dW ?_;refine dB true ?_;refine eW ?_;refine ae ?_;refine dO ?_;refine ae ?_;refine rW [] ?_;refine dW ?_;refine dW ?_;refine dW ?_;refine dW ?_;refine dW ?_;refine dW ?_;refine cN (x := -gi zs q) (fun w' H => kb (av px) (gi zs q) w' ((H.all (.at T (av px) (gi zs q)) (by simp [av]) : aw ..).mono (by omega))) fun p2 => ?_;refine fj (e := .ns (qs.set q p2) (zs.set q (-gi zs q))) (fun w' H => bg.set (H.all (.ns qs zs) (by simp)) q (H.all (.own w.heap.size (av p2) (-gi zs q)) (by simp [av]) : ak ..).num) ?_;refine dW ?_;refine sNo (ps := qs) (X * 2 + j * 2) q p2 (by have := HB.out.1; omega) (by rw [HQl.out]; exact hqn) HTl.out rfl ?_;refine eW ?_;refine ae ?_;refine rW [] ?_;refine dW ?_;refine dE (cd (a := j) (by omega)) ?_;refine dW ?_;refine eW ?_;refine ae ?_;exact bh (j + 1, qs.set q p2, zs.set q (-gi zs q)) ⟨⟨hjm, by rw [List.length_set]; exact HQl.out, HI.out.neg hia hjm (by rw [HXY.out.1]; exact HB.out.1)⟩, by show yl - (j + 1) < yl - j; omega⟩
         · have hij2 : ¬ (ia : Int) = (ja : Int) := by omega
           refine ae ?_;refine dO ?_;refine ae ?_;refine rW [] ?_;refine dW ?_;refine dW ?_;refine dW ?_;refine dW ?_;refine dW ?_;refine dW ?_;refine dW ?_;refine dW ?_;refine dW ?_;refine dW ?_;refine dB false ?_;refine eW ?_;refine ae ?_;refine bX ?_;refine ae ?_;refine rW [] ?_;refine dW ?_;refine dW ?_;refine dW ?_;refine dW ?_;refine dW ?_;refine dW ?_;refine dW ?_;refine dW ?_;refine dW ?_;refine dW ?_;refine dW ?_;refine dW ?_;refine dW ?_;refine dW ?_;refine dW ?_;refine cN (x := K * gi zs p + gi zs q) (fun w' H => iC (av pk) (av py) (av px) K (gi zs p) (gi zs q) T T w' (H.all (.at T (av pk) K) (by simp [av])) (H.all (.at T (av py) (gi zs p)) (by simp [av])) ((H.all (.at T (av px) (gi zs q)) (by simp [av]) : aw ..).mono (by omega)) (by omega)) fun p2 => ?_;refine fj (e := .ns (qs.set q p2) (zs.set q (K * gi zs p + gi zs q))) (fun w' H => bg.set (H.all (.ns qs zs) (by simp)) q (H.all (.own w.heap.size (av p2) (K * gi zs p + gi zs q)) (by simp [av]) : ak ..).num) ?_;refine dW ?_;refine sNo (ps := qs) (X * 2 + j * 2) q p2 (by have := HB.out.1; omega) (by rw [HQl.out]; exact hqn) HTl.out rfl ?_;refine eW ?_;refine ae ?_;refine rW [] ?_;refine dW ?_;refine dE (cd (a := j) (by omega)) ?_;refine dW ?_;refine eW ?_;refine ae ?_;exact bh (j + 1, qs.set q p2, zs.set q (K * gi zs p + gi zs q)) ⟨⟨hjm, by rw [List.length_set]; exact HQl.out, HI.out.add hia hja hij hjm (by rw [HXY.out.1]; exact HB.out.1) (by rw [HXY.out.2.1]; exact HB.out.2.1)⟩, by show yl - (j + 1) < yl - j; omega⟩
       · obtain rfl : yl = j := by omega
         refine ae ?_;refine rW [] ?_;refine dW ?_;refine dW ?_;refine dW ?_;refine dB false ?_;refine dW ?_;refine uG ?_;refine uG ?_;refine uG ?_;refine uG ?_;refine dW ?_;refine eW ?_;refine ae ?_;refine bX ?_;refine ae ?_;refine rW [] ?_;refine dW ?_;refine dE (cd (a := i) (by omega)) ?_;refine dW ?_;refine eW ?_;refine ae ?_;exact bh (i + 1, qs, zs) ⟨⟨h, HQl.out, HI.out.fin HJ.out hia hja HQ.out⟩, by show ml - (i + 1) < ml - i; omega⟩
 · obtain rfl : ml = i := by omega
   refine ae ?_;refine rW [] ?_;refine dW ?_;refine dW ?_;refine dW ?_;refine dB false ?_;refine eW ?_;refine ae ?_;refine bX ?_;refine ae ?_;refine rW [] ?_;refine dW ?_;refine kJ (α := (Option Addr × Nat) × List Int) (mk := fun p => .tuple #[.agg #[.int .i64 (n : Int), .int .i64 (m : Int), .slice p.1.1 nm p.1.2], .int .i64 0]) (ao := fun p => p.1.1) (xs := fun p => p.2) (A := fun p => ka n m xs p.2) (hne := ⟨((none, 0), [])⟩) (fun w' H => by have := HC.out.2.2.2.1 w' (H.all (.ls mw ao xs) (by simp)); rw [HC.out.2.2.2.2.2.2.2.2.2.2.2.2.1] at this; exact this) fun q1 => ?_;refine dW ?_;refine dW ?_;refine dW ?_;refine aW fun g11 => ?_;refine sG ?_;refine dW ?_;refine eW ?_;refine ae ?_;obtain ⟨⟨zo, zc⟩, hs⟩ := q1;refine lJ (A := ka n m xs hs /\ ∀ b o, zo = some ⟨b, o, none⟩ -> w.heap.size <= b) (by simp) fun hq => ?_;have HH := Lib.hid hq.1;clear hq;refine rW [] ?_;refine dW ?_;refine kJ (α := (Option Addr × Nat) × List Int) (mk := fun p => .tuple #[.agg #[.int .i64 (n : Int), .int .i64 (m : Int), .slice p.1.1 nm p.1.2], .int .i64 0]) (ao := fun p => p.1.1) (xs := fun p => p.2) (A := fun p => ka n m ys p.2) (hne := ⟨((none, 0), [])⟩) (fun w' H => by have := HC.out.2.2.2.2.2.1 b ys w' HJ.out (bM.mk' (H.all (.row b 27 (rn ps tl)) (by simp)) HTl.out (H.all (.ns ps ys) (by simp))); rw [HC.out.2.2.2.2.2.2.2.2.2.2.2.2.1] at this; exact this) fun q2 => ?_;refine dW ?_;refine dW ?_;refine dW ?_;refine aW fun g13 => ?_;refine sG ?_;refine dW ?_;refine eW ?_;refine ae ?_;obtain ⟨⟨yo, yc⟩, gs⟩ := q2;refine lJ (A := ka n m ys gs /\ ∀ b o, yo = some ⟨b, o, none⟩ -> w.heap.size <= b) (by simp) fun hq => ?_;have HG := Lib.hid hq.1;clear hq;refine rW [] ?_;refine dW ?_;refine cG (α := Int × P4) (mk := fun q => .tuple #[.agg #[.bool q.2.1, .slice q.2.2.1 q.2.2.2.1 q.2.2.2.2], .int .i64 0]) (ens := fun q => [.own w.heap.size (av q.2) q.1, .pr (kz n m xs q.1)]) (hne := ⟨(0, p0)⟩) (fun w' H => cND9 (HC.out.2.2.2.2.1 w' (H.all (.ls mw ao xs) (by simp))) H.size) fun qv => ?_;refine dW ?_;refine dW ?_;refine dW ?_;refine aW fun g15 => ?_;refine sG ?_;refine dW ?_;refine eW ?_;refine ae ?_;obtain ⟨xv, pv⟩ := qv;refine lJ (A := kz n m xs xv) (by simp) fun hv => ?_;have HVr := Lib.hid hv;clear hv;refine rW [] ?_;refine dW ?_;refine cG (α := Int × P4) (mk := fun q => .tuple #[.agg #[.bool q.2.1, .slice q.2.2.1 q.2.2.2.1 q.2.2.2.2], .int .i64 0]) (ens := fun q => [.own w.heap.size (av q.2) q.1, .pr (kz n m ys q.1)]) (hne := ⟨(0, p0)⟩) (fun w' H => cND9 (HC.out.2.2.2.2.2.2.1 b ys w' HJ.out (bM.mk' (H.all (.row b 27 (rn ps tl)) (by simp)) HTl.out (H.all (.ns ps ys) (by simp)))) H.size) fun qw => ?_;refine dW ?_;refine dW ?_;refine dW ?_;refine aW fun g17 => ?_;refine sG ?_;refine dW ?_;refine eW ?_;refine ae ?_;obtain ⟨xw, pw⟩ := qw;refine lJ (A := kz n m ys xw) (by simp) fun hv => ?_;obtain rfl := HC.out.2.2.2.2.2.2.2.2.1 ys xv xw HJ.out HVr.out hv;clear hv;refine rW [] ?_;refine dW ?_;refine dB true ?_;refine dW ?_;refine dG ?_;refine j8 true ?_;refine dW ?_;refine dW ?_;refine dG ?_;refine j8 true ?_;refine dW ?_;refine dW ?_;refine dG ?_;refine j8 true ?_;refine dW ?_;refine dW ?_;refine dG ?_;refine dG ?_;refine vR (v := .bool true) (fun w' H => HC.out.2.2.2.2.2.2.2.1 zo yo zc yc hs ys gs w' HJ.out HH.out HG.out (H.all (.gX zo hs) (by simp)) (H.all (.gX yo gs) (by simp))) ?_;refine dW ?_;refine dW ?_;refine dG ?_;refine dG ?_;refine vR (v := .int .i64 0) (fun w' H => by have := yh (av pv) (av pw) xv xv w' (ak.int (H.all (.own w.heap.size (av pv) xv) (by simp [av])) (HC.out.2.2.2.2.2.2.2.2.2.1 xv HVr.out)) (ak.int (H.all (.own w.heap.size (av pw) xv) (by simp [av])) (HC.out.2.2.2.2.2.2.2.2.2.1 xv HVr.out)); rw [zcM] at this; exact this) ?_;refine j8 true ?_;refine dW ?_;refine dW ?_;refine eW ?_;refine ae ?_;refine cQ fun w' H => ?_;exact ⟨_, cX, rfl, H.below⟩
end Go.Proofs.Ytjjlmfmoihooiaa
namespace Go.Proofs.Ytjjlmfmoihooiaa
open Go.ChangeShapes Go.WideShapes Go.ChangeAt Go.RowKit Go.Deep
section
variable {H : Type} {enc : TypeId × Value -> H} {w : World} {base : Nat} {sp : Nat -> Bool} {held : Bool}
set_option maxRecDepth 100000 in
theorem tM {fuel : Nat} {cs : List Value} {x : DataW H × List MemPlace} (h : DataW.trod enc Try.prog w base sp held fuel 46 cs = some x) :
 ∃ (s : nj) (p : P4) (L : Nat), cs = [.int .i64 s.i, .int .i64 s.j, .bool p.1, .slice p.2.1 p.2.2.1 p.2.2.2] /\ aw w L (av p) s.K /\ L + 4 <= Rows.uptoBulk x.1 := by
 obtain ⟨y1, y2, y3, n, rfl, hl, h1, h2, h3⟩ := trod_struct3 Try.underlying46 h;obtain ⟨c0, c1, c2, c3, rfl⟩ : ∃ c0 c1 c2 c3, cs = [c0, c1, c2, c3] := by
  have e : cs.length = 4 := hl.trans (by kernel_rfl);match cs, e with
  | [a, b, c, d], _ => exact ⟨a, b, c, d, rfl⟩
 rw [show Try.prog.cellsOf 3 = 1 by kernel_rfl] at h1 h2;rw [show Try.prog.cellsOf 27 = 2 by kernel_rfl] at h3;obtain ⟨i, e1, -, -⟩ := DataW.trod_int Try.underlying3 h1;obtain ⟨j, e2, -, -⟩ := DataW.trod_int Try.underlying3 h2;obtain ⟨p, L, z, e3, hI, hbk⟩ := oE h3;simp at e1 e2 e3;obtain ⟨e3, e4⟩ := e3;subst e1 e2 e3 e4;refine ⟨⟨i, j, z⟩, p, L, rfl, hI, ?_⟩;rw [lX];simp only [Rows.uptoBulkAll];have := lM y1.1;omega
set_option maxRecDepth 100000 in
theorem qA {fuel : Nat} {cs : List Value} {x : DataW H × List MemPlace} (h : DataW.trod enc Try.prog w base sp held fuel 41 cs = some x) :
 ∃ so slen scap ss, cs = [.slice so slen scap] /\ slen = ss.length /\ l7 w (Rows.uptoBulk x.1) so ss /\ ng ss ss.length <= Rows.uptoBulk x.1 /\ ss.length <= Rows.uptoBulk x.1 := by
 rcases open_slice Try.underlying41 h with ⟨rfl, rfl⟩ | ⟨a, len, cap, m, n, D, Pl, rfl, hb, hl, hm, hmm, rfl, hi⟩
 · exact ⟨none, 0, 0, [], rfl, rfl, fun h => absurd h (by simp), Nat.zero_le _, Nat.zero_le _⟩
 · have hlm : len <= m := by rw [hmm]; split <;> omega
   have hD : ∀ i, i < len -> Rows.uptoBulk (D i) <= Rows.uptoBulkAll ((List.range len).map D) := fun i hi => pR (List.mem_map.2 ⟨i, List.mem_range.2 hi, rfl⟩);obtain ⟨l, hll, hp⟩ := rM (n := len) (p := fun i (q : P4 × nj) => (w.cell? (a.add (i * 4)) = some (.int .i64 q.2.i) /\ w.cell? (a.add (i * 4 + 1)) = some (.int .i64 q.2.j) /\ w.cell? (a.add (i * 4 + 2)) = some (.bool q.1.1) /\ w.cell? (a.add (i * 4 + 3)) = some (.slice q.1.2.1 q.1.2.2.1 q.1.2.2.2)) /\ (aw w (Rows.uptoBulkAll ((List.range len).map D)) (av q.1) q.2.K /\ ag q.2.K.natAbs + 1 <= Rows.uptoBulk (D i))) (fun i hil => by
    obtain ⟨cs', hc, ht⟩ := hi i (by omega);rw [show Try.prog.cellsOf 46 = 4 by kernel_rfl] at hc;obtain ⟨s, p, L, rfl, hI, hbk⟩ := tM ht;obtain ⟨_, _, hcell⟩ := World.cells?_some hc;have c0 := hcell 0 (by omega);have c1 := hcell 1 (by omega);have c2 := hcell 2 (by omega);have c3 := hcell 3 (by omega);rw [add_add] at c0 c1 c2 c3;have hbk' : L + 4 <= Rows.uptoBulk (D i) := hbk;have hw := hI.ag;exact ⟨(p, s), ⟨by simpa using c0, by simpa using c1, by simpa using c2, by simpa using c3⟩, hI.mono (by have := hD i hil; omega), by show ag s.K.natAbs + 1 <= _; omega⟩)
   have hbl : len <= Rows.uptoBulkAll ((List.range len).map D) := by have := gT ((List.range len).map D); simpa using this
   have hkb : ∀ k, k <= len -> ng (l.map Prod.snd) k <= Rows.uptoBulkAll ((List.range k).map D) := by
    intro k;induction k with
    | zero => intro _; exact Nat.zero_le _
    | succ k ih =>
     intro hk;have h1 := ih (by omega);have h2 := (hp k (by omega)).2.2;rw [List.range_succ, List.map_append, kp];have e : (ru (l.map Prod.snd) k) = (l[k]'(by omega)).2 := by
      unfold ru; rw [List.getD_eq_getElem?_getD, List.getElem?_eq_getElem (by simpa using (by omega : k < l.length))]; simp
     show ng (l.map Prod.snd) k + ag (ru (l.map Prod.snd) k).K.natAbs + 1 <= _;rw [e];simp only [List.map_cons, List.map_nil, Rows.uptoBulkAll];omega
   refine ⟨some a, len, cap, l.map Prod.snd, rfl, by simp [hll], fun hpos => ?_, ?_, ?_⟩
   · have hpos' : 0 < len := by simpa [hll] using hpos
     have h0 := (hp 0 (by omega)).1.1;obtain ⟨b, o, rfl, hblt⟩ := jK (a := a) (w := w) (by simpa [Addr.add] using h0);refine ⟨b, o, rfl, hblt, fun i hi' => ?_⟩;have hil : i < l.length := by simpa using hi'
     obtain ⟨⟨c0, c1, c2, c3⟩, hI, -⟩ := hp i hil;rw [add_plain] at c0 c1 c2 c3;have e : ru (l.map Prod.snd) i = l[i].2 := by unfold ru; rw [List.getD_eq_getElem?_getD, List.getElem?_eq_getElem (by simpa using hil)]; simp
     rw [e, dD];refine ⟨l[i].1, c0, by rw [<- Nat.add_assoc] at c1; exact c1, by rw [<- Nat.add_assoc] at c2; exact c2, by rw [<- Nat.add_assoc] at c3; exact c3, hI.mono (by omega)⟩
   · have := hkb len (Nat.le_refl _);rw [dD, List.length_map, hll];omega
   · rw [dD, List.length_map, hll]; omega
end
namespace lawMo
theorem own : ownKnob Try.prog.godebug = none := by kernel_rfl
set_option maxRecDepth 100000 in
theorem contract (H : Type) (enc : TypeId × Value -> H) (Wd : World) (base : Nat) (args : Array Value) (ds gs : List (DataW H)) (before : List MemPlace)
 (hval : ∀ (j : Nat) t v, Try.f4.params[j]? = some t -> args[j]? = some v -> Value.okWide Try.prog Wd .any base t v)
 (hW : DataW.Whole enc Try.prog Try.f4.params.toList Rows.modhnfMovesSpec.vars false Wd args.toList ds gs before) (hk : Rows.uptoSmall H (ds ++ gs) = true) :
 Calls Try.prog 4 args Wd fun e Wd' => ∃ v, e = .returned v /\ Rows.modhnfMovesSpec.post enc Try.prog Try.f4 false true false false Wd args v Wd' := by
 have hW' := hW;obtain ⟨p, q, hA0, hV, rfl, hfz, hnd⟩ := hW;have hA : DataW.TrodAll enc Try.prog Wd 0 (fun _ => true) true Try.f4.params.toList args.toList ds p := hA0;rw [Try.params4] at hA hval;obtain ⟨v0, vs0, d0, ds0, p0, q0, hargs, rfl, rfl, h0, r0⟩ := trodAll_cons hA;obtain ⟨v1, vs1, d1, ds1, p1, q1, rfl, rfl, rfl, h1, r1⟩ := trodAll_cons r0;obtain ⟨rfl, rfl, rfl⟩ := trodAll_nil r1;obtain rfl : args = #[v0, v1] := by cases args; simp_all
 obtain ⟨rfl, rfl⟩ := trodVars_none hV;have hbk := rq hk;simp only [List.append_nil, Rows.uptoBulkAll] at hbk;obtain ⟨m, n, ao, len, cap, xs, rfl, hlen, hcap, hL, hb⟩ := vE (hval 0 _ v0 rfl rfl) h0;have R1 := th (hval 0 _ _ rfl rfl) h0;obtain ⟨a1, l1, k1, rfl⟩ := okWide_slice Try.underlying41 (hval 1 _ v1 rfl rfl);obtain ⟨f1, h1⟩ := h1;obtain ⟨so, slen, scap, ss, hcs, hsl, hS, hkb, hsb⟩ := qA h1;simp [Value.cells] at hcs;obtain ⟨rfl, rfl, rfl⟩ := hcs;have hS : l7 Wd (Rows.uptoBulk d1) a1 ss := hS;have hkb : ng ss ss.length <= Rows.uptoBulk d1 := hkb;have hsb : ss.length <= Rows.uptoBulk d1 := hsb;have walk : Calls Try.prog 4 #[.agg #[.int .i64 m, .int .i64 n, .slice ao len cap], .slice a1 l1 k1] Wd fun e w' => e = .returned (.bool true) /\ Below Wd.heap.size Wd w' := by
  cases hs : aR m n len with
  | false => exact Mov_u m n ao a1 len cap l1 k1 Wd R1.1 R1.2 hs
  | true =>
   obtain ⟨r, c, rfl, rfl, hr, hc, hrc⟩ := qu hs;obtain ⟨L, hL1⟩ : ∃ L, Rows.uptoBulk d0 = L := ⟨_, rfl⟩;have hA1 : aI Wd L ao xs := fun hl => by
    obtain ⟨b, o, e, hlt, hc⟩ := hL hl;exact ⟨b, o, e, hlt, fun i hi => by obtain ⟨p, h0, h1, hx⟩ := hc i hi; exact ⟨p, h0, h1, hx.mono (by omega)⟩⟩
   refine Mov_s r c len L 1048576 cap l1 k1 ao a1 xs ss Wd hr hc (Nat.le_refl _) (by rw [hsl]; omega) hA1 (hlen.symm.trans hrc) hlen.symm (fun hp => ?_) hsl.symm (by omega);obtain ⟨b, o, e, hlt, hc⟩ := hS hp;exact ⟨b, o, e, hlt, fun k hk => by obtain ⟨q, g0, g1, g2, g3, hI⟩ := hc k hk; exact ⟨q, g0, g1, g2, g3, hI.mono (by omega)⟩⟩
 refine walk.mono fun e Wd' ⟨he, hg⟩ => ?_;subst he;exact ⟨_, rfl, law_post (by kernel_rfl) rfl (by kernel_rfl) hW' rfl rfl rfl hg⟩
set_option maxRecDepth 100000 in
theorem lifted (os : Os) (started : os.Started) (H : Type) (enc : TypeId × Value -> H) (F : Stop.Interp) :
 ReturnsInHanded {} Try.checked os 4 .any ((Rows.OpenSpec.upto Rows.modhnfMovesSpec).pre6 enc Try.prog Try.f4 Rows.modhnfMovesUptoRow.domain false) (((Rows.OpenSpec.upto Rows.modhnfMovesSpec).at F).post enc Try.prog Try.f4 false true false false) := by
 refine returnsInHanded_of_cond (C := Try.checked) (s := Rows.OpenSpec.upto Rows.modhnfMovesSpec) (k := Rows.uptoSmall) rfl own started (by kernel_rfl) Try.func4
  (OpenSpec.witness (enc := enc) (C := Try.checked) (s := Rows.OpenSpec.upto Rows.modhnfMovesSpec) (k := Rows.uptoSmall) rfl false ⟨#[], #[.agg #[.int .i64 0, .int .i64 0, .slice none 0 0], .slice none 0 0], []⟩ 8 (by kernel_rfl) (by kernel_rfl) (by kernel_rfl)
   (x := ([.agg [.lit (.int .i64 0), .lit (.int .i64 0), .nil], .nil], [], [])) (by kernel_rfl) rfl (by kernel_rfl)) ?_
 intro W base args ds gs before hval hW _ hk _;exact contract H enc W base args ds gs before hval hW hk
theorem over : Rows.modhnfMovesUptoRow.holds Try.pinned (Rows.OpenSpec.upto Rows.modhnfMovesSpec) :=
 OpenClaim.holds_of_cond 4 Try.f4 rfl rfl rfl rfl rfl rfl rfl ⟨rfl, rfl, rfl, rfl, rfl⟩ rfl rfl rfl rfl rfl (by kernel_rfl) Try.func4 (by kernel_rfl)
  (of_decide_eq_true (by kernel_rfl)) (by unfold Func.isWrapper; first | (rw [if_pos (by decide +kernel)]; kernel_rfl) | (rw [if_neg (by decide +kernel)]; exact ⟨rfl, rfl⟩))
  (fun os started H enc _ F => lifted os started H enc F)
theorem proved : Rows.ModhnfMovesUptoSaid := over
end lawMo
end Go.Proofs.Ytjjlmfmoihooiaa
