/- Part 7 of 7 of the proof that the law ModhnfFollows returns true for every input of bulk at most 1048576 and leaves its arguments as they were: the law itself. -/
import Derived.Test.YtjjlmfmoihooiaaFoF
set_option linter.all false
namespace Go.Proofs.Ytjjlmfmoihooiaa
open Go.RowKit
theorem Fr.roB {S0 : Nat -> Prop} {w0 w : World} {es : List En} (h : Fr S0 w0 w es) {e : En} (he : e.F w) (hwr : e.wr = false) (hS : ∀ e ∈ es, e.wr = false) : Fr S0 w0 w (e :: es) :=
 h.cons he (fun e' he' => ⟨(fun q => by rw [hwr] at q; cases q), fun q => by rw [hS e' he'] at q; cases q⟩) (fun q => by rw [hwr] at q; cases q)
structure qR (w : World) (g : Nat) (a b : Value × Value × Value) : Prop where
 h0 : w.cell? ⟨g, 0, none⟩ = some a.1
 h1 : w.cell? ⟨g, 1, none⟩ = some a.2.1
 h2 : w.cell? ⟨g, 2, none⟩ = some a.2.2
 h3 : w.cell? ⟨g, 3, none⟩ = some b.1
 h4 : w.cell? ⟨g, 4, none⟩ = some b.2.1
 h5 : w.cell? ⟨g, 5, none⟩ = some b.2.2
theorem qR.fr {w : World} {g : Nat} {a b : Value × Value × Value} (h : qR w g a b) : Fr (fun _ => False) w w [.cell ⟨g, 0, none⟩ a.1, .cell ⟨g, 1, none⟩ a.2.1, .cell ⟨g, 2, none⟩ a.2.2, .cell ⟨g, 3, none⟩ b.1, .cell ⟨g, 4, none⟩ b.2.1, .cell ⟨g, 5, none⟩ b.2.2] := by
 refine Fr.roB (Fr.roB (Fr.roB (Fr.roB (Fr.roB (Fr.roB (Fr.nil _ w) (e := .cell ⟨g, 5, none⟩ b.2.2) h.h5 rfl ?_) (e := .cell ⟨g, 4, none⟩ b.2.1) h.h4 rfl ?_) (e := .cell ⟨g, 3, none⟩ b.1) h.h3 rfl ?_) (e := .cell ⟨g, 2, none⟩ a.2.2) h.h2 rfl ?_) (e := .cell ⟨g, 1, none⟩ a.2.1) h.h1 rfl ?_) (e := .cell ⟨g, 0, none⟩ a.1) h.h0 rfl ?_ <;> simp [En.wr]
set_option maxRecDepth 100000 in
set_option maxHeartbeats 1000000 in
theorem mA (g r c s d n k : Nat) (ao bo : Option Addr) (ca cb : Nat) (w : World) (hr : r <= 64) (hc : c <= 64) (hs : s <= 64) (hd : d <= 64) (hn : n = r * c) (hk : k = s * d) (h : qR w g (.int .i64 (r : Int), .int .i64 (c : Int), .slice ao n ca) (.int .i64 (s : Int), .int .i64 (d : Int), .slice bo k cb)) :
 Calls Try.prog 67 #[.slice (some ⟨g, 0, none⟩) 2 2] w fun e w' => e = .returned (.int .i64 0) /\ Below w.heap.size w w' := by
 have hS : ∀ r c : Nat, r <= 64 -> c <= 64 -> bE (r : Int) (c : Int) (r * c) = true := fun r c hr hc => by
  have h3 : decide ((r : Int) <= 64) = true := by simp; omega
  have h4 : decide ((c : Int) <= 64) = true := by simp; omega
  simp [bE, bG, h3, h4]
 have c1 := fun w' => dx (r : Int) (c : Int) ao n ca w' (by omega) (by omega);have c2 := fun w' => dx (s : Int) (d : Int) bo k cb w' (by omega) (by omega);rw [dC (by rw [hn]; exact hS r c hr hc)] at c1;rw [dC (by rw [hk]; exact hS s d hs hd)] at c2;have HC := Lib.hid (And.intro c1 c2);clear c1 c2 hS hn hk;refine bB (S0 := fun _ => False) Try.func67 h.fr ?_;clear h;refine ae ?_;refine rW [] ?_;refine dW ?_;refine eW ?_;refine ae ?_;refine rW [] ?_;refine dW ?_;refine dW ?_;refine dW ?_;refine eW ?_;refine ae ?_;refine bL (X := Nat) (fun i => i <= 2) (fun i => 2 - i) (fun i => [(7, .int .i64 (i : Int)), (6, .int .i64 2), (5, .slice (some ⟨g, 0, none⟩) 2 2)]) (fun _ => [.cell ⟨g, 0, none⟩ (.int .i64 (r : Int)), .cell ⟨g, 1, none⟩ (.int .i64 (c : Int)), .cell ⟨g, 2, none⟩ (.slice ao n ca), .cell ⟨g, 3, none⟩ (.int .i64 (s : Int)), .cell ⟨g, 4, none⟩ (.int .i64 (d : Int)), .cell ⟨g, 5, none⟩ (.slice bo k cb)]) 0 (Nat.zero_le _) fun i hi => ?_;by_cases h0 : i = 0
 · subst h0;refine ae ?_;refine rW [] ?_;refine dB true ?_;refine eW ?_;refine ae ?_;refine eB ?_;refine ae ?_;refine rW [] ?_;refine dW ?_;refine dW ?_;refine aW fun g4 => ?_;refine sG ?_;refine eW ?_;refine ae ?_;refine rW [] ?_;refine dW ?_;refine cV (v := .int .i64 0) (fun w' H => HC.out.1 w') ?_;refine dB false ?_;refine eW ?_;refine ae ?_;refine cd ?_;refine ae ?_;refine rW [] ?_;refine dE (cQ (a := 0) (by omega)) ?_;refine dW ?_;refine eW ?_;refine ae ?_;exact bJ (1 : Nat) ⟨by omega, by omega⟩
 · by_cases h1 : i = 1
   · subst h1;refine ae ?_;refine rW [] ?_;refine dB true ?_;refine eW ?_;refine ae ?_;refine eB ?_;refine ae ?_;refine rW [] ?_;refine dW ?_;refine dW ?_;refine aW fun g4 => ?_;refine sG ?_;refine eW ?_;refine ae ?_;refine rW [] ?_;refine dW ?_;refine cV (v := .int .i64 0) (fun w' H => HC.out.2 w') ?_;refine dB false ?_;refine eW ?_;refine ae ?_;refine cd ?_;refine ae ?_;refine rW [] ?_;refine dE (cQ (a := 1) (by omega)) ?_;refine dW ?_;refine eW ?_;refine ae ?_;exact bJ (2 : Nat) ⟨by omega, by omega⟩
   · obtain rfl : i = 2 := by omega
     refine ae ?_;refine rW [] ?_;refine dB false ?_;refine eW ?_;refine ae ?_;refine cd ?_;refine ae ?_;refine rW [] ?_;refine dW ?_;refine eW ?_;refine ae ?_;refine dt fun w' H => ?_;exact ⟨_, dA, rfl, H.below⟩
theorem qR.of {w : World} {g : Nat} {t : TypeId} {a b c d e f : Value} (h : ah w g t [a, b, c, d, e, f]) : qR w g (a, b, c) (d, e, f) := ⟨h.cell 0, h.cell 1, h.cell 2, h.cell 3, h.cell 4, h.cell 5⟩
def bb (m d : Nat) (xs ys : List Int) (i j : Nat) : Int := sm m fun k => gi xs (i * m + k) * gi ys (k * d + j)
theorem lQ {B k : Nat} {f : Nat -> Int} (h : ∀ t < k, ag (f t).natAbs <= B) (hk : k <= 64) : ag (sm k f).natAbs <= B + 1 := by
 refine au ?_;have h1 := lL (n := k) (f := f) (B := W ^ B) fun t ht => Nat.le_of_lt (Nat.lt_of_lt_of_le (aU _) (Nat.pow_le_pow_right (by decide) (h t ht)));have h2 : k * W ^ B <= 64 * W ^ B := Nat.mul_le_mul_right _ hk;have h3 : W ^ (B + 1) = W ^ B * W := Nat.pow_succ ..;have h4 : 0 < W ^ B := Nat.pow_pos (by unfold W; omega);have h5 : 64 * W ^ B < W ^ B * W := by rw [Nat.mul_comm]; exact Nat.mul_lt_mul_of_pos_left (by unfold W; omega) h4
 omega
theorem nH {a b : Int} {A B : Nat} (h1 : ag a.natAbs <= A) (h2 : ag b.natAbs <= B) : ag (a * b).natAbs <= A + B := by
 rw [Int.natAbs_mul]; have := cg a.natAbs b.natAbs; omega
set_option maxRecDepth 100000 in
set_option maxHeartbeats 4000000 in
theorem wC (i j ga gb r m d nm kd ca cb L M : Nat) (ao bo : Option Addr) (xs ys : List Int) (w : World) (h1 : w.cell? ⟨ga, 1, none⟩ = some (.int .i64 (m : Int))) (h2 : w.cell? ⟨ga, 2, none⟩ = some (.slice ao nm ca)) (h3 : w.cell? ⟨gb, 1, none⟩ = some (.int .i64 (d : Int))) (h4 : w.cell? ⟨gb, 2, none⟩ = some (.slice bo kd cb))
 (hA : aI w L ao xs) (hB : aI w M bo ys) (hL : L + M <= 17592186044000) (hs : xs.length = r * m) (hnm : xs.length = nm) (ht : ys.length = m * d) (hkd : ys.length = kd) (hi : i < r) (hj : j < d) (hr : r <= 64) (hm : m <= 64) (hd : d <= 64) (hxw : ∀ x ∈ xs, ag x.natAbs <= L) (hyw : ∀ y ∈ ys, ag y.natAbs <= M) :
 Calls Try.prog 86 #[.int .i64 (i : Int), .int .i64 (j : Int), .pointer (some ⟨ga, 0, none⟩), .pointer (some ⟨gb, 0, none⟩)] w fun e w' => (∃ v, e = .returned v /\ ak w' w.heap.size v (bb m d xs ys i j)) /\ Below w.heap.size w w' := by
 have HA : Fr (fun _ => False) w w [.cell ⟨gb, 2, none⟩ (.slice bo kd cb), .cell ⟨gb, 1, none⟩ (.int .i64 (d : Int)), .cell ⟨ga, 2, none⟩ (.slice ao nm ca), .cell ⟨ga, 1, none⟩ (.int .i64 (m : Int)), .ls M bo ys, .ls L ao xs] :=
  Fr.cl (Fr.cl (Fr.cl (Fr.cl (((Fr.nil _ w).l hA (by simp)).l hB (by simp [En.wr])) h1 (by simp [En.wr])) h2 (by simp [En.wr])) h3 (by simp [En.wr])) h4 (by simp [En.wr])
 have hx : ∀ k, k < m -> i * m + k < xs.length := fun k hk => by rw [hs]; exact bY hi hk
 have hy : ∀ k, k < m -> k * d + j < ys.length := fun k hk => by rw [ht]; exact bY hk hj
 have hb : ∀ k, k <= m -> ag (sm k fun k => gi xs (i * m + k) * gi ys (k * d + j)).natAbs <= L + M + 1 := fun k hk => lQ (fun t h => nH (hxw _ (cS (hx t (by omega)))) (hyw _ (cS (hy t (by omega))))) (by omega);have hb1 : i * m <= 4096 := Nat.mul_le_mul (show i <= 64 by omega) hm;have HS := Lib.hid (And.intro hx (And.intro hy (And.intro hb (And.intro hnm hkd))));unfold bb;obtain ⟨f, hf⟩ : ∃ f : Nat -> Int, (fun k => gi xs (i * m + k) * gi ys (k * d + j)) = f := ⟨_, rfl⟩;have HF := Lib.hid hf;rw [hf];clear hs hnm ht hkd hA hB h1 h2 h3 h4 hxw hyw hx hy hb hf;refine bB (S0 := fun _ => False) Try.func86 HA ?_;clear HA;refine ae ?_;refine rW [] ?_;refine aW fun g6 => ?_;refine eW ?_;refine ae ?_;refine rW [] ?_;refine aW fun g7 => ?_;refine eW ?_;refine ae ?_;refine rW [] ?_;refine dW ?_;refine dW ?_;refine dW ?_;refine eW ?_;refine ae ?_;refine jU (e := .own w.heap.size (av p0) 0) (fun w' _ => ak.zero w' _) ?_;refine bL (X := Nat × P4) (fun x => x.1 <= m) (fun x => m - x.1) (fun x => [(11, .int .i64 (x.1 : Int)), (10, .int .i64 (m : Int)), (0, .int .i64 (i : Int)), (1, .int .i64 (j : Int)), (2, .pointer (some ⟨ga, 0, none⟩)), (3, .pointer (some ⟨gb, 0, none⟩)), (6, .pointer (some ⟨g6, 0, none⟩)), (7, .pointer (some ⟨g7, 0, none⟩))])
  (fun x => [.row g7 27 [.bool x.2.1, .slice x.2.2.1 x.2.2.2.1 x.2.2.2.2], .row g6 27 [.bool false, .slice none 0 0], .own w.heap.size (av x.2) (sm x.1 f), .cell ⟨gb, 2, none⟩ (.slice bo kd cb), .cell ⟨gb, 1, none⟩ (.int .i64 (d : Int)), .cell ⟨ga, 2, none⟩ (.slice ao nm ca), .cell ⟨ga, 1, none⟩ (.int .i64 (m : Int)), .ls M bo ys, .ls L ao xs]) (0, p0) (Nat.zero_le _) fun x hx => ?_
 obtain ⟨k, p⟩ := x
 replace hx : k <= m := hx
 have hpw : ag (sm k f).natAbs <= L + M + 1 := by rw [<- HF.out]; exact HS.out.2.2.1 k hx
 by_cases h : k < m
 · have h01 : (k : Int) < (m : Int) := by omega
   have hb2 : k * d <= 4096 := Nat.mul_le_mul (show k <= 64 by omega) hd;obtain ⟨t, ht⟩ : ∃ t, i * m + k = t := ⟨_, rfl⟩;obtain ⟨u, hu⟩ : ∃ u, k * d + j = u := ⟨_, rfl⟩;have htl : t < xs.length := by rw [<- ht]; exact HS.out.1 k h
   have hul : u < ys.length := by rw [<- hu]; exact HS.out.2.1 k h
   have h02 : (t : Int) < (nm : Int) := by have := HS.out.2.2.2.1; omega
   have h03 : (u : Int) < (kd : Int) := by have := HS.out.2.2.2.2; omega
   have hfk : sm (k + 1) f = gi xs t * gi ys u + sm k f := by
    have e : f k = gi xs t * gi ys u := by rw [<- HF.out, <- ht, <- hu]
    show sm k f + f k = _;rw [e]; exact Int.add_comm ..
   have HT := Lib.hid (And.intro ht (And.intro hu hfk));clear ht hu hfk;refine ae ?_;refine rW [] ?_;refine dB true ?_;refine eW ?_;refine ae ?_;refine n4 (L := L) (ao := ao) (xs := xs) (by simp) (by omega) fun bx ox e => ?_;subst e;refine jq (L := L) (xs := xs) (b := bx) (o := ox) t (by simp) htl fun px => ?_;refine n4 (L := M) (ao := bo) (xs := ys) (by simp) (by omega) fun by_ oy e => ?_;subst e;refine jq (L := M) (xs := ys) (b := by_) (o := oy) u (by simp) hul fun py => ?_;refine eB ?_;refine ae ?_;refine rW [] ?_;refine dW ?_;refine dW ?_;refine eW ?_;refine ae ?_;refine rW [] ?_;refine dW ?_;refine dW ?_;refine dW ?_;refine dW ?_;refine dW ?_;refine dE (kK (a := i) (b := m) (by omega)) ?_;refine dW ?_;refine dE ((ph (a := i * m) (b := k) (by omega)).trans (by rw [HT.out.1])) ?_;refine dW ?_;refine dW ?_;refine dW ?_;refine dW ?_;refine dW ?_;refine dW ?_;refine dW ?_;refine dE (kK (a := k) (b := d) (by omega)) ?_;refine dW ?_;refine dE ((ph (a := k * d) (b := j) (by omega)).trans (by rw [HT.out.2.1])) ?_;refine dW ?_;refine dW ?_;refine dW ?_;refine cN (x := sm (k + 1) f) (fun w' H => by
    have := jR (av px) (av py) (av p) (gi xs t) (gi ys u) (sm k f) L M w' (H.all (.at L (av px) (gi xs t)) (by simp [av])) (H.all (.at M (av py) (gi ys u)) (by simp [av])) (ak.int (H.all (.own w.heap.size (av p) (sm k f)) (by simp [av])) (by omega)) (by omega);rw [<- HT.out.2.2] at this; exact this) fun p2 => ?_
   refine sW ?_;refine eW ?_;refine ae ?_;refine rW [] ?_;refine dE (cQ (a := k) (by omega)) ?_;refine dW ?_;refine eW ?_;refine ae ?_;exact bJ (k + 1, p2) ⟨h, by show m - (k + 1) < m - k; omega⟩
 · obtain rfl : m = k := by omega
   refine ae ?_;refine rW [] ?_;refine dB false ?_;refine eW ?_;refine ae ?_;refine cd ?_;refine ae ?_;refine rW [] ?_;refine dW ?_;refine sW ?_;refine eW ?_;refine ae ?_;refine dt fun w' H => ?_;exact ⟨_, iq (H.all (.row g6 27 [.bool p.1, .slice p.2.1 p.2.2.1 p.2.2.2]) (by simp)), ⟨_, rfl, H.all (.own w.heap.size (av p) (sm m f)) (by simp [av])⟩, H.below⟩
set_option maxRecDepth 100000 in
set_option maxHeartbeats 2000000 in
theorem wG (r m d nm kd ca cb L M : Nat) (ao bo : Option Addr) (xs ys : List Int) (w : World) (hA : aI w L ao xs) (hB : aI w M bo ys) (hL : L + M <= 17592186044000) (hs : xs.length = r * m) (hnm : xs.length = nm) (ht : ys.length = m * d) (hkd : ys.length = kd) (hr : r <= 64) (hm : m <= 64) (hd : d <= 64) (hxw : ∀ x ∈ xs, ag x.natAbs <= L) (hyw : ∀ y ∈ ys, ag y.natAbs <= M) :
 Calls Try.prog 68 #[.agg #[.int .i64 (r : Int), .int .i64 (m : Int), .slice ao nm ca], .agg #[.int .i64 (m : Int), .int .i64 (d : Int), .slice bo kd cb]] w fun e w' => (∃ p : Option Addr × Nat, e = .returned (.agg #[.int .i64 (r : Int), .int .i64 (d : Int), .slice p.1 (r * d) p.2]) /\ dT w' p.1 (aA d (bb m d xs ys) (r * d)) /\ True /\ ∀ b o, p.1 = some ⟨b, o, none⟩ -> w.heap.size <= b) /\ Below w.heap.size w w' := by
 have HP := Lib.hid (fun i j ga gb (w' : World) a1 a2 a3 a4 a5 a6 hi hj => wC i j ga gb r m d nm kd ca cb L M ao bo xs ys w' a1 a2 a3 a4 a5 a6 hL hs hnm ht hkd hi hj hr hm hd hxw hyw);clear hs hnm ht hkd hxw hyw;refine bB (S0 := fun _ => False) Try.func68 (((Fr.nil _ w).l hA (by simp)).l hB (by simp [En.wr, En.ls])) ?_;clear hA hB;refine ae ?_;refine rW [] ?_;refine aW fun g2 => ?_;refine aW fun g3 => ?_;refine aW fun g4 => ?_;refine eW ?_;refine ae ?_;refine rW [] ?_;refine dW ?_;refine dW ?_;refine dW ?_;refine dW ?_;refine fW ?_;refine kt (α := Option Addr × Nat) (mk := fun p => .agg #[.int .i64 (r : Int), .int .i64 (d : Int), .slice p.1 (r * d) p.2]) (ao := fun p => p.1) (xs := fun _ => aA d (bb m d xs ys) (r * d)) (A := fun _ => True) (fun w' H => (ja 86 (fun _ _ => by go_simp) #[.pointer (some ⟨g2, 0, none⟩), .pointer (some ⟨g3, 0, none⟩)] r d (bb m d xs ys) w' hr hd (fun i j w2 hi hj hb => by
  have a1 : ah w' g2 24 [.int .i64 (r : Int), .int .i64 (m : Int), .slice ao nm ca] := H.all (.row g2 24 [.int .i64 (r : Int), .int .i64 (m : Int), .slice ao nm ca]) (by simp);have a2 : ah w' g3 24 [.int .i64 (m : Int), .int .i64 (d : Int), .slice bo kd cb] := H.all (.row g3 24 [.int .i64 (m : Int), .int .i64 (d : Int), .slice bo kd cb]) (by simp);have a3 : aI w' L ao xs := H.all (.ls L ao xs) (by simp);have a4 : aI w' M bo ys := H.all (.ls M bo ys) (by simp);exact HP.out i j g2 g3 w2 ((a1.below hb a1.lt).cell 1) ((a1.below hb a1.lt).cell 2) ((a2.below hb a2.lt).cell 1) ((a2.below hb a2.lt).cell 2) (a3.below hb) (a4.below hb) hi hj)).mono (by
  rintro e w3 ⟨⟨ao, cap', rfl, hl, _, hS⟩, hb⟩;exact ⟨⟨(ao, cap'), rfl, hl, trivial, hS⟩, hb⟩)) fun q => ?_
 refine sW ?_;refine eW ?_;refine ae ?_;refine dt fun w' H => ?_;exact ⟨_, nT (H.all (.row g4 24 [.int .i64 (r : Int), .int .i64 (d : Int), .slice q.1 (r * d) q.2]) (by simp)), ⟨q, rfl, H.m0, trivial, (show True /\ ∀ b o, q.1 = some ⟨b, o, none⟩ -> w.heap.size <= b from H.m1).2⟩, H.below⟩
set_option maxRecDepth 100000 in
set_option maxHeartbeats 2000000 in
theorem r7 (r m d nm kd ca cb L M : Nat) (ao bo : Option Addr) (xs ys : List Int) (w : World) (hA : aI w L ao xs) (hB : aI w M bo ys) (hL : L + M <= 17592186044000) (hs : xs.length = r * m) (hnm : xs.length = nm) (ht : ys.length = m * d) (hkd : ys.length = kd) (hr : r <= 64) (hm : m <= 64) (hd : d <= 64) (hxw : ∀ x ∈ xs, ag x.natAbs <= L) (hyw : ∀ y ∈ ys, ag y.natAbs <= M) :
 Calls Try.prog 39 #[.agg #[.int .i64 (r : Int), .int .i64 (m : Int), .slice ao nm ca], .agg #[.int .i64 (m : Int), .int .i64 (d : Int), .slice bo kd cb]] w fun e w' => (∃ p : Option Addr × Nat, e = .returned (.tuple #[.agg #[.int .i64 (r : Int), .int .i64 (d : Int), .slice p.1 (r * d) p.2], .int .i64 0]) /\ dT w' p.1 (aA d (bb m d xs ys) (r * d)) /\ True /\ ∀ b o, p.1 = some ⟨b, o, none⟩ -> w.heap.size <= b) /\ Below w.heap.size w w' := by
 have HP := Lib.hid (And.intro (fun (w' : World) a1 a2 => wG r m d nm kd ca cb L M ao bo xs ys w' a1 a2 hL hs hnm ht hkd hr hm hd hxw hyw) (fun g (w' : World) h => mA g r m m d nm kd ao bo ca cb w' hr hm hm hd (hnm.symm.trans hs) (hkd.symm.trans ht) h));clear hs hnm ht hkd hxw hyw;refine bB (S0 := fun _ => False) Try.func39 (((Fr.nil _ w).l hA (by simp)).l hB (by simp [En.wr, En.ls])) ?_;clear hA hB;refine ae ?_;refine rW [] ?_;refine aW fun g2 => ?_;refine aW fun g3 => ?_;refine aW fun g4 => ?_;refine dW ?_;refine eW ?_;refine ae ?_;refine rW [] ?_;refine dW ?_;refine dW ?_;refine bW (m := 2) fun g9 => ?_;refine cV (v := .int .i64 0) (fun w' H => HP.out.2 g9 w' (qR.of H.m0)) ?_;refine dW ?_;refine eW ?_;refine ae ?_;refine rW [] ?_;refine dW ?_;refine dB false ?_;refine eW ?_;refine ae ?_;refine cd ?_;refine ae ?_;refine rW [] ?_;refine dW ?_;refine dW ?_;refine dW ?_;refine dW ?_;refine dB false ?_;refine eW ?_;refine ae ?_;refine cd ?_;refine ae ?_;refine rW [] ?_;refine dW ?_;refine dW ?_;refine kt (α := Option Addr × Nat) (mk := fun p => .agg #[.int .i64 (r : Int), .int .i64 (d : Int), .slice p.1 (r * d) p.2]) (ao := fun p => p.1) (xs := fun _ => aA d (bb m d xs ys) (r * d)) (A := fun _ => True) (fun w' H => HP.out.1 w' (H.all (.ls L ao xs) (by simp)) (H.all (.ls M bo ys) (by simp))) fun q => ?_;refine sW ?_;refine dW ?_;refine eW ?_;refine ae ?_;refine ej fun w' H => ?_;exact ⟨_, _, nT (H.all (.row g4 24 [.int .i64 (r : Int), .int .i64 (d : Int), .slice q.1 (r * d) q.2]) (by simp)), dA, ⟨q, rfl, H.m0, trivial, (show True /\ ∀ b o, q.1 = some ⟨b, o, none⟩ -> w.heap.size <= b from H.m1).2⟩, H.below⟩
set_option maxRecDepth 100000 in
set_option maxHeartbeats 2000000 in
theorem ub (n nm cap L : Nat) (ao : Option Addr) (xs : List Int) (w : World) (hn : n <= 64) (hA : aI w L ao xs) (hL : L <= 17592186044000) (hs : xs.length = n * n) (hnm : xs.length = nm) (hxw : ∀ x ∈ xs, ag x.natAbs <= L) :
 Calls Try.prog 64 #[.agg #[.int .i64 (n : Int), .int .i64 (n : Int), .slice ao nm cap]] w fun e w' => (∃ v, e = .returned (.tuple #[v, .int .i64 0]) /\ ak w' w.heap.size v (sm n fun i => gi xs (i * n + i))) /\ Below w.heap.size w w' := by
 have hC : ∀ w', Calls Try.prog 14 #[.agg #[.int .i64 (n : Int), .int .i64 (n : Int), .slice ao nm cap]] w' fun e w'' => e = .returned (.int .i64 0) /\ Below w'.heap.size w' w'' := fun w' => by
  have := dx (n : Int) (n : Int) ao nm cap w' (by omega) (by omega);rw [dC (by unfold bE bG; rw [<- hnm, hs]; simp; omega)] at this; exact this
 have hx : ∀ k, k < n -> k * n + k < xs.length := fun k hk => by rw [hs]; exact bY hk hk
 obtain ⟨f, hf⟩ : ∃ f : Nat -> Int, (fun k => gi xs (k * n + k)) = f := ⟨_, rfl⟩;have hb : ∀ k, k <= n -> ag (sm k f).natAbs <= L + 1 := fun k hk => lQ (fun t h => by rw [<- hf]; exact hxw _ (cS (hx t (by omega)))) (by omega);have HS := Lib.hid (And.intro hC (And.intro hx (And.intro hb (And.intro hf hnm))));rw [hf];clear hC hs hnm hxw hx hb hf;refine bB (S0 := fun _ => False) Try.func64 ((Fr.nil _ w).l hA (by simp)) ?_;clear hA;refine ae ?_;refine rW [] ?_;refine aW fun g1 => ?_;refine aW fun g2 => ?_;refine dW ?_;refine eW ?_;refine ae ?_;refine rW [] ?_;refine dW ?_;refine cV (v := .int .i64 0) (fun w' H => HS.out.1 w') ?_;refine dW ?_;refine eW ?_;refine ae ?_;refine rW [] ?_;refine dW ?_;refine dB false ?_;refine eW ?_;refine ae ?_;refine cd ?_;refine ae ?_;refine rW [] ?_;refine dW ?_;refine dW ?_;refine dW ?_;refine dW ?_;refine dB false ?_;refine eW ?_;refine ae ?_;refine cd ?_;refine ae ?_;refine rW [] ?_;refine aW fun g5 => ?_;refine eW ?_;refine ae ?_;refine rW [] ?_;refine dW ?_;refine dW ?_;refine dW ?_;refine eW ?_;refine ae ?_;refine jU (e := .own w.heap.size (av p0) 0) (fun w' _ => ak.zero w' _) ?_;refine bL (X := Nat × P4) (fun x => x.1 <= n) (fun x => n - x.1) (fun x => [(21, .int .i64 (x.1 : Int)), (20, .int .i64 (n : Int)), (1, .pointer (some ⟨g1, 0, none⟩)), (2, .pointer (some ⟨g2, 0, none⟩)), (5, .pointer (some ⟨g5, 0, none⟩))])
  (fun x => [.row g5 27 [.bool x.2.1, .slice x.2.2.1 x.2.2.2.1 x.2.2.2.2], .row g1 24 [.int .i64 (n : Int), .int .i64 (n : Int), .slice ao nm cap], .row g2 27 [.bool false, .slice none 0 0], .own w.heap.size (av x.2) (sm x.1 f), .ls L ao xs]) (0, p0) (Nat.zero_le _) fun x hx => ?_
 obtain ⟨k, p⟩ := x
 replace hx : k <= n := hx
 have hpw : ag (sm k f).natAbs <= L + 1 := HS.out.2.2.1 k hx;by_cases h : k < n
 · have h01 : (k : Int) < (n : Int) := by omega
   have hb2 : k * n <= 4096 := Nat.mul_le_mul (show k <= 64 by omega) hn;obtain ⟨t, ht⟩ : ∃ t, k * n + k = t := ⟨_, rfl⟩;have htl : t < xs.length := by rw [<- ht]; exact HS.out.2.1 k h
   have h02 : (t : Int) < (nm : Int) := by have := HS.out.2.2.2.2; omega
   have hfk : sm (k + 1) f = sm k f + gi xs t := by
    have e : f k = gi xs t := by rw [<- HS.out.2.2.2.1, <- ht]
    show sm k f + f k = _;rw [e]
   have HT := Lib.hid (And.intro ht hfk);clear ht hfk;refine ae ?_;refine rW [] ?_;refine dB true ?_;refine eW ?_;refine ae ?_;refine n4 (L := L) (ao := ao) (xs := xs) (by simp) (by omega) fun bx ox e => ?_;subst e;refine jq (L := L) (xs := xs) (b := bx) (o := ox) t (by simp) htl fun px => ?_;refine eB ?_;refine ae ?_;refine rW [] ?_;refine dW ?_;refine dW ?_;refine eW ?_;refine ae ?_;refine rW [] ?_;refine dW ?_;refine dW ?_;refine dW ?_;refine dW ?_;refine dW ?_;refine dW ?_;refine dE (kK (a := k) (b := n) (by omega)) ?_;refine dW ?_;refine dE ((ph (a := k * n) (b := k) (by omega)).trans (by rw [HT.out.1])) ?_;refine dW ?_;refine dW ?_;refine cN (x := sm (k + 1) f) (fun w' H => by
    have := iY (av p) (av px) (sm k f) (gi xs t) w' (ak.int (H.all (.own w.heap.size (av p) (sm k f)) (by simp [av])) (by omega)) ((H.all (.at L (av px) (gi xs t)) (by simp [av]) : aw ..).mono (by omega));rw [<- HT.out.2] at this; exact this) fun p2 => ?_
   refine sW ?_;refine eW ?_;refine ae ?_;refine rW [] ?_;refine dE (cQ (a := k) (by omega)) ?_;refine dW ?_;refine eW ?_;refine ae ?_;exact bJ (k + 1, p2) ⟨h, by show n - (k + 1) < n - k; omega⟩
 · obtain rfl : n = k := by omega
   refine ae ?_;refine rW [] ?_;refine dB false ?_;refine eW ?_;refine ae ?_;refine cd ?_;refine ae ?_;refine rW [] ?_;refine dW ?_;refine sW ?_;refine dW ?_;refine eW ?_;refine ae ?_;refine ej fun w' H => ?_;exact ⟨_, _, iq (H.all (.row g2 27 [.bool p.1, .slice p.2.1 p.2.2.1 p.2.2.2]) (by simp)), dA, ⟨_, rfl, H.all (.own w.heap.size (av p) (sm n f)) (by simp [av])⟩, H.below⟩
def l8 (d : Nat) (xs ys : List Int) (i j : Nat) : Int := gi xs (i * d + j) + gi ys (i * d + j)
set_option maxRecDepth 100000 in
set_option maxHeartbeats 4000000 in
theorem tW (i j gf ga gb r d nm ca cb L : Nat) (ao bo : Option Addr) (xs ys : List Int) (w : World) (h0 : w.cell? ⟨gf, 0, none⟩ = some (.func (.func 46) #[] #[])) (h1 : w.cell? ⟨ga, 1, none⟩ = some (.int .i64 (d : Int))) (h2 : w.cell? ⟨ga, 2, none⟩ = some (.slice ao nm ca)) (h3 : w.cell? ⟨gb, 1, none⟩ = some (.int .i64 (d : Int))) (h4 : w.cell? ⟨gb, 2, none⟩ = some (.slice bo nm cb))
 (hA : aI w L ao xs) (hB : aI w L bo ys) (hL : L <= 17592186044000) (hs : xs.length = r * d) (hnm : xs.length = nm) (ht : ys.length = nm) (hi : i < r) (hj : j < d) (hr : r <= 64) (hd : d <= 64) :
 Calls Try.prog 95 #[.int .i64 (i : Int), .int .i64 (j : Int), .pointer (some ⟨gf, 0, none⟩), .pointer (some ⟨ga, 0, none⟩), .pointer (some ⟨gb, 0, none⟩)] w fun e w' => (∃ v, e = .returned v /\ ak w' w.heap.size v (l8 d xs ys i j)) /\ Below w.heap.size w w' := by
 have hb1 : i * d <= 4096 := Nat.mul_le_mul (show i <= 64 by omega) hd;unfold l8;obtain ⟨t, ht'⟩ : ∃ t, i * d + j = t := ⟨_, rfl⟩;have htl : t < nm := by rw [<- ht', <- hnm, hs]; exact bY hi hj
 rw [ht'];have htx : t < xs.length := by omega
 have hty : t < ys.length := by omega
 obtain ⟨bx, ox, rfl⟩ := hA.pos htx;obtain ⟨by_, oy, rfl⟩ := hB.pos hty;have HA : Fr (fun _ => False) w w [.cell ⟨gb, 2, none⟩ (.slice (some ⟨by_, oy, none⟩) nm cb), .cell ⟨gb, 1, none⟩ (.int .i64 (d : Int)), .cell ⟨ga, 2, none⟩ (.slice (some ⟨bx, ox, none⟩) nm ca), .cell ⟨ga, 1, none⟩ (.int .i64 (d : Int)), .cell ⟨gf, 0, none⟩ (.func (.func 46) #[] #[]), .ls L (some ⟨by_, oy, none⟩) ys, .ls L (some ⟨bx, ox, none⟩) xs] :=
  Fr.cl (Fr.cl (Fr.cl (Fr.cl (Fr.cl (((Fr.nil _ w).l hA (by simp)).l hB (by simp [En.wr])) h0 (by simp [En.wr])) h1 (by simp [En.wr])) h2 (by simp [En.wr])) h3 (by simp [En.wr])) h4 (by simp [En.wr])
 have HT := Lib.hid ht';have h01 : (t : Int) < (nm : Int) := by omega
 clear hs hnm ht ht' hA hB h0 h1 h2 h3 h4;refine bB (S0 := fun _ => False) Try.func95 HA ?_;clear HA;refine ae ?_;refine jq (L := L) (xs := xs) (b := bx) (o := ox) t (by simp) htx fun px => ?_;refine jq (L := L) (xs := ys) (b := by_) (o := oy) t (by simp) hty fun py => ?_;refine rW [] ?_;refine aW fun g7 => ?_;refine eW ?_;refine ae ?_;refine rW [] ?_;refine dW ?_;refine dW ?_;refine dW ?_;refine dW ?_;refine dW ?_;refine dW ?_;refine dE (kK (a := i) (b := d) (by omega)) ?_;refine dW ?_;refine dE ((ph (a := i * d) (b := j) (by omega)).trans (by rw [HT.out])) ?_;refine dW ?_;refine dW ?_;refine dW ?_;refine dW ?_;refine dW ?_;refine dW ?_;refine dW ?_;refine dE (kK (a := i) (b := d) (by omega)) ?_;refine dW ?_;refine dE ((ph (a := i * d) (b := j) (by omega)).trans (by rw [HT.out])) ?_;refine dW ?_;refine dW ?_;refine cN (f := 46) (x := gi xs t + gi ys t) (fun w' H => iY (av px) (av py) (gi xs t) (gi ys t) w' ((H.all (.at L (av px) (gi xs t)) (by simp [av]) : aw ..).mono (by omega)) ((H.all (.at L (av py) (gi ys t)) (by simp [av]) : aw ..).mono (by omega))) fun p2 => ?_;refine sW ?_;refine eW ?_;refine ae ?_;refine dt fun w' H => ?_;exact ⟨_, iq (H.all (.row g7 27 [.bool p2.1, .slice p2.2.1 p2.2.2.1 p2.2.2.2]) (by simp)), ⟨_, rfl, H.all (.own w.heap.size (av p2) (gi xs t + gi ys t)) (by simp [av])⟩, H.below⟩
set_option maxRecDepth 100000 in
set_option maxHeartbeats 2000000 in
theorem tA (r d nm ca cb L : Nat) (ao bo : Option Addr) (xs ys : List Int) (w : World) (hA : aI w L ao xs) (hB : aI w L bo ys) (hL : L <= 17592186044000) (hs : xs.length = r * d) (hnm : xs.length = nm) (ht : ys.length = nm) (hr : r <= 64) (hd : d <= 64) :
 Calls Try.prog 85 #[.agg #[.int .i64 (r : Int), .int .i64 (d : Int), .slice ao nm ca], .agg #[.int .i64 (r : Int), .int .i64 (d : Int), .slice bo nm cb], .func (.func 46) #[] #[]] w fun e w' => (∃ p : Option Addr × Nat, e = .returned (.tuple #[.agg #[.int .i64 (r : Int), .int .i64 (d : Int), .slice p.1 (r * d) p.2], .int .i64 0]) /\ dT w' p.1 (aA d (l8 d xs ys) (r * d)) /\ True /\ ∀ b o, p.1 = some ⟨b, o, none⟩ -> w.heap.size <= b) /\ Below w.heap.size w w' := by
 have HP := Lib.hid (And.intro (fun i j gf ga gb (w' : World) a0 a1 a2 a3 a4 a5 a6 hi hj => tW i j gf ga gb r d nm ca cb L ao bo xs ys w' a0 a1 a2 a3 a4 a5 a6 hL hs hnm ht hi hj hr hd) (fun g (w' : World) h => mA g r d r d nm nm ao bo ca cb w' hr hd hr hd (hnm.symm.trans hs) (hnm.symm.trans hs) h));clear hs hnm ht;refine bB (S0 := fun _ => False) Try.func85 (((Fr.nil _ w).l hA (by simp)).l hB (by simp [En.wr, En.ls])) ?_;clear hA hB;refine ae ?_;refine rW [] ?_;refine aW fun g3 => ?_;refine aW fun g4 => ?_;refine aW fun g5 => ?_;refine aW fun g6 => ?_;refine dW ?_;refine eW ?_;refine ae ?_;refine rW [] ?_;refine dW ?_;refine dW ?_;refine bW (m := 2) fun g11 => ?_;refine cV (v := .int .i64 0) (fun w' H => HP.out.2 g11 w' (qR.of H.m0)) ?_;refine dW ?_;refine eW ?_;refine ae ?_;refine rW [] ?_;refine dW ?_;refine dB false ?_;refine eW ?_;refine ae ?_;refine cd ?_;refine ae ?_;refine rW [] ?_;refine dW ?_;refine dW ?_;refine dW ?_;refine dW ?_;refine dB false ?_;refine dW ?_;refine dG ?_;refine dG ?_;refine dG ?_;refine dG ?_;refine mf false ?_;refine dW ?_;refine eW ?_;refine ae ?_;refine cd ?_;refine ae ?_;refine rW [] ?_;refine dW ?_;refine dW ?_;refine dW ?_;refine dW ?_;refine fW ?_;refine kt (α := Option Addr × Nat) (mk := fun p => .agg #[.int .i64 (r : Int), .int .i64 (d : Int), .slice p.1 (r * d) p.2]) (ao := fun p => p.1) (xs := fun _ => aA d (l8 d xs ys) (r * d)) (A := fun _ => True) (fun w' H => (ja 95 (fun _ _ => by go_simp) #[.pointer (some ⟨g5, 0, none⟩), .pointer (some ⟨g3, 0, none⟩), .pointer (some ⟨g4, 0, none⟩)] r d (l8 d xs ys) w' hr hd (fun i j w2 hi hj hb => by
  have a0 : ah w' g5 37 [.func (.func 46) #[] #[]] := H.all (.row g5 37 [.func (.func 46) #[] #[]]) (by simp);have a1 : ah w' g3 24 [.int .i64 (r : Int), .int .i64 (d : Int), .slice ao nm ca] := H.all (.row g3 24 [.int .i64 (r : Int), .int .i64 (d : Int), .slice ao nm ca]) (by simp);have a2 : ah w' g4 24 [.int .i64 (r : Int), .int .i64 (d : Int), .slice bo nm cb] := H.all (.row g4 24 [.int .i64 (r : Int), .int .i64 (d : Int), .slice bo nm cb]) (by simp);have a3 : aI w' L ao xs := H.all (.ls L ao xs) (by simp);have a4 : aI w' L bo ys := H.all (.ls L bo ys) (by simp);exact HP.out.1 i j g5 g3 g4 w2 ((a0.below hb a0.lt).cell 0) ((a1.below hb a1.lt).cell 1) ((a1.below hb a1.lt).cell 2) ((a2.below hb a2.lt).cell 1) ((a2.below hb a2.lt).cell 2) (a3.below hb) (a4.below hb) hi hj)).mono (by
  rintro e w3 ⟨⟨ao, cap', rfl, hl, _, hS⟩, hb⟩;exact ⟨⟨(ao, cap'), rfl, hl, trivial, hS⟩, hb⟩)) fun q => ?_
 refine sW ?_;refine dW ?_;refine eW ?_;refine ae ?_;refine ej fun w' H => ?_;exact ⟨_, _, nT (H.all (.row g6 24 [.int .i64 (r : Int), .int .i64 (d : Int), .slice q.1 (r * d) q.2]) (by simp)), dA, ⟨q, rfl, H.m0, trivial, (show True /\ ∀ b o, q.1 = some ⟨b, o, none⟩ -> w.heap.size <= b from H.m1).2⟩, H.below⟩
set_option maxRecDepth 100000 in
set_option maxHeartbeats 2000000 in
theorem wO (r d nm ca cb L : Nat) (ao bo : Option Addr) (xs ys : List Int) (w : World) (hA : aI w L ao xs) (hB : aI w L bo ys) (hL : L <= 17592186044000) (hs : xs.length = r * d) (hnm : xs.length = nm) (ht : ys.length = nm) (hr : r <= 64) (hd : d <= 64) :
 Calls Try.prog 66 #[.agg #[.int .i64 (r : Int), .int .i64 (d : Int), .slice ao nm ca], .agg #[.int .i64 (r : Int), .int .i64 (d : Int), .slice bo nm cb]] w fun e w' => (∃ p : Option Addr × Nat, e = .returned (.tuple #[.agg #[.int .i64 (r : Int), .int .i64 (d : Int), .slice p.1 (r * d) p.2], .int .i64 0]) /\ dT w' p.1 (aA d (l8 d xs ys) (r * d)) /\ True /\ ∀ b o, p.1 = some ⟨b, o, none⟩ -> w.heap.size <= b) /\ Below w.heap.size w w' := by
 have HP := Lib.hid (fun (w' : World) a1 a2 => tA r d nm ca cb L ao bo xs ys w' a1 a2 hL hs hnm ht hr hd);clear hs hnm ht;refine bB (S0 := fun _ => False) Try.func66 (((Fr.nil _ w).l hA (by simp)).l hB (by simp [En.wr, En.ls])) ?_;clear hA hB;refine ae ?_;refine rW [] ?_;refine aW fun g2 => ?_;refine aW fun g3 => ?_;refine aW fun g4 => ?_;refine dW ?_;refine eW ?_;refine ae ?_;refine rW [] ?_;refine dW ?_;refine dW ?_;refine kt (α := Option Addr × Nat) (mk := fun p => .tuple #[.agg #[.int .i64 (r : Int), .int .i64 (d : Int), .slice p.1 (r * d) p.2], .int .i64 0]) (ao := fun p => p.1) (xs := fun _ => aA d (l8 d xs ys) (r * d)) (A := fun _ => True) (fun w' H => HP.out w' (H.all (.ls L ao xs) (by simp)) (H.all (.ls L bo ys) (by simp))) fun q => ?_;refine dW ?_;refine dW ?_;refine sW ?_;refine dW ?_;refine eW ?_;refine ae ?_;refine ej fun w' H => ?_;exact ⟨_, _, nT (H.all (.row g4 24 [.int .i64 (r : Int), .int .i64 (d : Int), .slice q.1 (r * d) q.2]) (by simp)), dA, ⟨q, rfl, H.m0, trivial, (show True /\ ∀ b o, q.1 = some ⟨b, o, none⟩ -> w.heap.size <= b from H.m1).2⟩, H.below⟩
end Go.Proofs.Ytjjlmfmoihooiaa
namespace Go.Proofs.Ytjjlmfmoihooiaa
def jy (n : Nat) (f : Int -> Int) (l : Int) : Prop := ∃ c : Nat -> Int, (∀ t, f t = sm (n + 1) fun k => c k * t ^ k) /\ c n = l
theorem jy.congr {n : Nat} {f g : Int -> Int} {l l' : Int} (h : jy n f l) (e : ∀ t, g t = f t) (el : l' = l) : jy n g l' := by
 obtain ⟨c, h1, h2⟩ := h;exact ⟨c, fun t => (e t).trans (h1 t), by rw [el]; exact h2⟩
theorem jy.add {n : Nat} {f g : Int -> Int} {l l' : Int} (h : jy n f l) (h' : jy n g l') : jy n (fun t => f t + g t) (l + l') := by
 obtain ⟨c, h1, h2⟩ := h;obtain ⟨d, h3, h4⟩ := h';refine ⟨fun k => c k + d k, fun t => ?_, by show c n + d n = _; rw [h2, h4]⟩;show f t + g t = _;rw [h1, h3, <- fv];exact aj fun k _ => (Int.add_mul ..).symm
theorem jy.smul {n : Nat} {f : Int -> Int} {l : Int} (s : Int) (h : jy n f l) : jy n (fun t => s * f t) (s * l) := by
 obtain ⟨c, h1, h2⟩ := h;refine ⟨fun k => s * c k, fun t => ?_, by show s * c n = _; rw [h2]⟩;show s * f t = _;rw [h1, <- bg];exact aj fun k _ => (Int.mul_assoc ..).symm
theorem jy.zero (n : Nat) : jy n (fun _ => 0) 0 := ⟨fun _ => 0, fun t => (aZ fun k _ => Int.zero_mul _).symm, rfl⟩
theorem jy.up {n : Nat} {f : Int -> Int} {l : Int} (h : jy n f l) : jy (n + 1) f 0 := by
 obtain ⟨c, h1, _⟩ := h;refine ⟨fun k => if k <= n then c k else 0, fun t => ?_, if_neg (by omega)⟩;rw [h1];show _ = (sm (n + 1) fun k => (if k <= n then c k else 0) * t ^ k) + (if n + 1 <= n then c (n + 1) else 0) * t ^ (n + 1);rw [if_neg (by omega), Int.zero_mul, Int.add_zero];exact aj fun k hk => by rw [if_pos (by omega)]
theorem jy.shift {n : Nat} {f : Int -> Int} {l : Int} (h : jy n f l) : jy (n + 1) (fun t => t * f t) l := by
 obtain ⟨c, h1, h2⟩ := h;refine ⟨fun k => if k = 0 then 0 else c (k - 1), fun t => ?_, by show (if n + 1 = 0 then 0 else c (n + 1 - 1)) = l; rw [if_neg (by omega)]; exact h2⟩;show t * f t = _;rw [fX, h1, <- bg];show _ = (if 0 = 0 then 0 else c (0 - 1)) * t ^ 0 + sm (n + 1) fun k => (if k + 1 = 0 then 0 else c (k + 1 - 1)) * t ^ (k + 1);rw [if_pos rfl, Int.zero_mul, Int.zero_add];exact aj fun k _ => by rw [if_neg (by omega), Nat.add_sub_cancel, Int.pow_succ]; ac_rfl
theorem jy.lin {n : Nat} {f : Int -> Int} {l : Int} (p q : Int) (h : jy n f l) : jy (n + 1) (fun t => (t * p + q) * f t) (p * l) :=
 ((h.shift.smul p).add (h.up.smul q)).congr (fun t => by rw [Int.add_mul]; ac_rfl) (by omega)
theorem jy.sum {n : Nat} {f : Nat -> Int -> Int} {l : Nat -> Int} : ∀ m, (∀ i < m, jy n (f i) (l i)) -> jy n (fun t => sm m fun i => f i t) (sm m l)
 | 0, _ => jy.zero n
 | m + 1, h => (jy.sum m fun i hi => h i (by omega)).add (h m (by omega))
theorem nd : ∀ (n : Nat) (P Q : Mx), jy n (fun t => aF n fun a b => t * P a b + Q a b) (aF n P)
 | 0, _, _ => ⟨fun _ => 1, fun t => by show (1 : Int) = 0 + 1 * t ^ 0; simp, rfl⟩
 | n + 1, P, Q => by
  refine (jy.sum (f := fun i t => dj i * ((t * P i 0 + Q i 0) * aF n fun a b => t * minor P i a b + minor Q i a b)) (l := fun i => dj i * (P i 0 * aF n (minor P i))) (n + 1) fun i _ => ((nd n (minor P i) (minor Q i)).lin (P i 0) (Q i 0)).smul (dj i)).congr (fun t => ?_) ?_
  · show (sm (n + 1) fun i => dj i * (t * P i 0 + Q i 0) * aF n (minor (fun a b => t * P a b + Q a b) i)) = _;exact aj fun i _ => by rw [Int.mul_assoc]; rfl
  · show (sm (n + 1) fun i => dj i * P i 0 * aF n (minor P i)) = _;exact aj fun i _ => Int.mul_assoc ..
theorem se {x : Int} (h : ∀ t : Int, 1 <= t -> t ∣ x) : x = 0 := by
 obtain ⟨k, hk⟩ := h (x.natAbs + 1) (by omega);rcases Int.natAbs_eq x with e | e
 · by_cases hk0 : k = 0
   · rw [hk, hk0, Int.mul_zero]
   · exfalso;have h1 : x.natAbs = (x.natAbs + 1) * k.natAbs := by
      have := congrArg Int.natAbs hk;rw [Int.natAbs_mul] at this;have e2 : ((x.natAbs : Int) + 1).natAbs = x.natAbs + 1 := by omega
      rw [e2] at this; exact this
     have h2 : 1 <= k.natAbs := by omega
     have := Nat.mul_le_mul_left (x.natAbs + 1) h2;omega
 · by_cases hk0 : k = 0
   · rw [hk, hk0, Int.mul_zero]
   · exfalso;have h1 : x.natAbs = (x.natAbs + 1) * k.natAbs := by
      have := congrArg Int.natAbs hk;rw [Int.natAbs_mul] at this;have e2 : ((x.natAbs : Int) + 1).natAbs = x.natAbs + 1 := by omega
      rw [e2] at this; exact this
     have h2 : 1 <= k.natAbs := by omega
     have := Nat.mul_le_mul_left (x.natAbs + 1) h2;omega
theorem jM : ∀ (n : Nat) (c : Nat -> Int), (∀ t : Int, 1 <= t -> (sm n fun k => c k * t ^ k) = 0) -> ∀ k < n, c k = 0
 | 0, _, _ => fun k hk => by omega
 | n + 1, c, h => by
  have e : ∀ t : Int, (sm (n + 1) fun k => c k * t ^ k) = c 0 + t * sm n fun k => c (k + 1) * t ^ k := fun t => by
   rw [fX, <- bg];congr 1
   · simp
   · exact aj fun k _ => by rw [Int.pow_succ]; ac_rfl
  have h0 : c 0 = 0 := se fun t ht => by
   have := h t ht;rw [e] at this;exact ⟨- sm n fun k => c (k + 1) * t ^ k, by rw [Int.mul_neg]; omega⟩
  have h1 := jM n (fun k => c (k + 1)) fun t ht => by
   have := h t ht;rw [e, h0, Int.zero_add] at this;exact (Int.mul_eq_zero.1 this).resolve_left (by omega)
  intro k hk;cases k with
  | zero => exact h0
  | succ k => exact h1 k (by omega)
def uM : Mx := fun i j => if i = j then 1 else 0
def dX (n : Nat) (B : Mx) (i j : Nat) : Int := aF n (bD B j (uM i))
theorem uO : ∀ n, aF n uM = 1
 | 0 => rfl
 | n + 1 => by
  show (sm (n + 1) fun i => dj i * uM i 0 * aF n (minor uM i)) = 1;rw [du 0 (by omega) fun i _ hi => by unfold uM; rw [if_neg hi]; simp];have e : aF n (minor uM 0) = aF n uM := aH n fun a _ b _ => by
   show uM (bF 0 a) (b + 1) = uM a b;rw [show bF 0 a = a + 1 by unfold bF; rw [if_neg (Nat.not_lt_zero a)]];show (if a + 1 = b + 1 then (1 : Int) else 0) = if a = b then 1 else 0;by_cases q : a = b
   · rw [if_pos q, if_pos (by omega)]
   · rw [if_neg q, if_neg (by omega)]
  rw [e, uO n];decide
theorem vN {n : Nat} (f : Nat -> Int) {b : Nat} (hb : b < n) : (sm n fun l => f l * uM l b) = f b := by
 rw [du b hb fun l _ hl => by unfold uM; rw [if_neg hl, Int.mul_zero]];unfold uM; rw [if_pos rfl, Int.mul_one]
theorem wB (n : Nat) (B : Mx) {i j : Nat} (hi : i < n) (hj : j < n) : (sm n fun l => B i l * dX n B l j) = aF n B * uM i j := by
 unfold dX;rw [<- kB n B j hj (B i) uM n];have e : aF n (bD B j fun b => sm n fun l => B i l * uM l b) = aF n (bD B j (B i)) := aH n fun a _ b hb => by
  unfold bD;by_cases h : a = j
  · rw [if_pos h, if_pos h]; exact vN (B i) hb
  · rw [if_neg h, if_neg h]
 rw [e];unfold uM;by_cases h : i = j
 · subst h;rw [if_pos rfl, Int.mul_one, eo]
 · rw [if_neg h, Int.mul_zero];exact eQ n _ hi hj h fun b => by rw [aK _ h, bf]
theorem rY {h : Int} : ∀ (n : Nat) {M N : Mx}, (∀ a < n, ∀ b < n, h ∣ M a b - N a b) -> h ∣ aF n M - aF n N
 | 0, _, _, _ => by show h ∣ (1 : Int) - 1; simp
 | n + 1, M, N, hM => by
  show h ∣ (sm (n + 1) fun i => dj i * M i 0 * aF n (minor M i)) - sm (n + 1) fun i => dj i * N i 0 * aF n (minor N i);rw [<- jF];refine qj _ fun i hi => ?_;obtain ⟨x, hx⟩ := rY n (M := minor M i) (N := minor N i) fun a ha b hb => hM (bF i a) (by unfold bF; split <;> omega) (b + 1) (by omega);obtain ⟨y, hy⟩ := hM i hi 0 (by omega);have e1 : aF n (minor M i) = aF n (minor N i) + h * x := by omega
  have e2 : M i 0 = N i 0 + h * y := by omega
  refine ⟨dj i * (N i 0 * x + y * aF n (minor N i) + y * (h * x)), ?_⟩;rw [e1, e2]
  grind
theorem pR (n : Nat) (B : Mx) (h : Int) : ∀ s ≤ n, ∃ x, aF n (fun a b => B a b + if a < s then h * uM a b else 0) = aF n B + h * (sm s fun i => dX n B i i) + h * h * x
 | 0, _ => ⟨0, by
  rw [aH n (N := B) fun a _ b _ => by rw [if_neg (Nat.not_lt_zero a), Int.add_zero]];simp [sm]⟩
 | s + 1, hs => by
  obtain ⟨x, hx⟩ := pR n B h s (by omega);obtain ⟨M, hM⟩ : ∃ M : Mx, (fun a b => B a b + if a < s then h * uM a b else 0) = M := ⟨_, rfl⟩;rw [hM] at hx;have hMe : ∀ a b, M a b = B a b + if a < s then h * uM a b else 0 := fun a b => by rw [<- hM]
  have e : (fun a b => B a b + if a < s + 1 then h * uM a b else 0) = bD M s fun b => h * uM s b + M s b := by
   funext a b;unfold bD;by_cases q : a = s
   · rw [if_pos q];show _ = h * uM s b + M s b;rw [hMe, if_neg (Nat.lt_irrefl s), q, if_pos (Nat.lt_succ_self s)]; omega
   · rw [if_neg q, hMe];by_cases q2 : a < s
     · rw [if_pos q2, if_pos (by omega)]
     · rw [if_neg q2, if_neg (by omega)]
  rw [e, fY n M s h (uM s) (M s) (by omega), eo, hx];obtain ⟨y, hy⟩ := rY (h := h) n (M := bD M s (uM s)) (N := bD B s (uM s)) fun a _ b _ => by
   unfold bD;by_cases q : a = s
   · rw [if_pos q, if_pos q]; simp
   · rw [if_neg q, if_neg q, hMe];by_cases q2 : a < s
     · rw [if_pos q2]; exact ⟨uM a b, by omega⟩
     · rw [if_neg q2]; exact ⟨0, by omega⟩
  have e2 : aF n (bD M s (uM s)) = dX n B s s + h * y := by unfold dX; omega
  refine ⟨x + y, ?_⟩;rw [e2];show h * (dX n B s s + h * y) + (aF n B + h * (sm s fun i => dX n B i i) + h * h * x) = aF n B + h * ((sm s fun i => dX n B i i) + dX n B s s) + h * h * (x + y)
  grind
theorem oU (t h : Int) : ∀ k : Nat, ∃ x, (t + h) ^ (k + 1) = t ^ (k + 1) + h * (((k : Int) + 1) * t ^ k) + h * h * x
 | 0 => ⟨0, by rw [Int.pow_succ, Int.pow_succ, Int.pow_zero, Int.pow_zero]; simp⟩
 | k + 1 => by
  obtain ⟨x, hx⟩ := oU t h k;refine ⟨((k : Int) + 1) * t ^ k + x * t + x * h, ?_⟩;rw [Int.pow_succ (t + h) (k + 1), hx, Int.pow_succ t (k + 1)];have e : t ^ (k + 1) = t ^ k * t := Int.pow_succ t k;have e2 : ((k + 1 : Nat) : Int) = (k : Int) + 1 := by omega
  rw [e, e2]
  grind
def Bt (A : Mx) (t : Int) : Mx := fun a b => t * uM a b + - A a b
theorem uK {n : Nat} {A : Mx} {a : Nat -> Int} (ha : ∀ t, aF n (Bt A t) = sm (n + 1) fun k => a k * t ^ k) (t : Int) : (sm n fun i => dX n (Bt A t) i i) = sm n fun k => ((k : Int) + 1) * a (k + 1) * t ^ k := by
 have key : (sm n fun k => ((k : Int) + 1) * a (k + 1) * t ^ k) - (sm n fun i => dX n (Bt A t) i i) = 0 := se fun h hh => by
  obtain ⟨x, hx⟩ := pR n (Bt A t) h n (Nat.le_refl _);have e1 : aF n (fun a b => Bt A t a b + if a < n then h * uM a b else 0) = aF n (Bt A (t + h)) := aH n fun a ha b _ => by
   rw [if_pos ha]; unfold Bt; rw [Int.add_mul]; omega
  rw [e1, ha, ha] at hx;obtain ⟨y, hy⟩ := Classical.axiomOfChoice fun k => oU t h k;have e2 : (sm (n + 1) fun k => a k * (t + h) ^ k) = (sm (n + 1) fun k => a k * t ^ k) + h * (sm n fun k => ((k : Int) + 1) * a (k + 1) * t ^ k) + h * h * sm n fun k => a (k + 1) * y k := by
   rw [fX, fX n fun k => a k * t ^ k, <- bg, <- bg];have e3 : (sm n fun k => a (k + 1) * (t + h) ^ (k + 1)) = (sm n fun k => a (k + 1) * t ^ (k + 1)) + (sm n fun k => h * (((k : Int) + 1) * a (k + 1) * t ^ k)) + sm n fun k => h * h * (a (k + 1) * y k) := by
    rw [<- fv, <- fv];exact aj fun k _ => by rw [hy k]; grind
   rw [e3];simp only [Int.pow_zero];omega
  rw [e2] at hx;obtain ⟨D, hD⟩ : ∃ D, (sm n fun k => ((k : Int) + 1) * a (k + 1) * t ^ k) = D := ⟨_, rfl⟩;obtain ⟨T, hT⟩ : ∃ T, (sm n fun i => dX n (Bt A t) i i) = T := ⟨_, rfl⟩;obtain ⟨Y, hY⟩ : ∃ Y, (sm n fun k => a (k + 1) * y k) = Y := ⟨_, rfl⟩;obtain ⟨Z, hZ⟩ : ∃ Z, (sm (n + 1) fun k => a k * t ^ k) = Z := ⟨_, rfl⟩;rw [hD, hT, hY, hZ] at hx;rw [hD, hT];refine ⟨x - Y, ?_⟩;have h1 : h * (D - T) = h * (h * (x - Y)) := by grind
  exact Int.eq_of_mul_eq_mul_left (by omega) h1
 omega
theorem x6 {n : Nat} (A : Mx) {i j : Nat} (hj : j < n) : ∃ c : Nat -> Int, ∀ t, dX n (Bt A t) i j = sm n fun k => c k * t ^ k := by
 obtain ⟨c, h1, h2⟩ := nd n (bD uM j fun _ => 0) (bD (fun a b => - A a b) j (uM i));have h3 : aF n (bD uM j fun _ => (0 : Int)) = 0 := by
  have := fH n uM j 0 (fun _ => 0) hj;simpa using this
 rw [h3] at h2;refine ⟨c, fun t => ?_⟩;have e : dX n (Bt A t) i j = aF n fun a b => t * bD uM j (fun _ => 0) a b + bD (fun a b => - A a b) j (uM i) a b := aH n fun a _ b _ => by
  unfold bD Bt;by_cases q : a = j
  · rw [if_pos q, if_pos q, if_pos q, Int.mul_zero, Int.zero_add]
  · rw [if_neg q, if_neg q, if_neg q]
 rw [e];refine (h1 t).trans ?_;show (sm n fun k => c k * t ^ k) + c n * t ^ n = _;rw [h2, Int.zero_mul, Int.add_zero]
theorem fl (n : Nat) (A : Mx) (hn : 0 < n) : ∃ (N : Nat -> Mx) (c : Nat -> Int), (∀ i < n, ∀ j < n, N 0 i j = uM i j) /\
 (∀ k, k + 1 < n -> (sm n fun i => sm n fun l => A i l * N k l i) = -(((k : Int) + 1) * c (k + 1)) /\ ∀ i < n, ∀ j < n, N (k + 1) i j = (sm n fun l => A i l * N k l j) + c (k + 1) * uM i j) /\
 ∀ i < n, ∀ j < n, (sm n fun l => A i l * N (n - 1) l j) = -((-1) ^ n * aF n A) * uM i j := by
 obtain ⟨a, ha, hl⟩ := nd n uM fun x y => - A x y;rw [uO] at hl;have ha' : ∀ t, aF n (Bt A t) = sm (n + 1) fun k => a k * t ^ k := ha;obtain ⟨q, hq⟩ : ∃ q : Nat -> Nat -> Nat -> Int, ∀ i j, j < n -> ∀ t, dX n (Bt A t) i j = sm n fun k => q i j k * t ^ k := by
  have h1 : ∀ i, ∃ c : Nat -> Nat -> Int, ∀ j, j < n -> ∀ t, dX n (Bt A t) i j = sm n fun k => c j k * t ^ k := fun i => by
   have h2 : ∀ j, ∃ c : Nat -> Int, j < n -> ∀ t, dX n (Bt A t) i j = sm n fun k => c k * t ^ k := fun j => by
    by_cases hj : j < n
    · obtain ⟨c, hc⟩ := x6 A (i := i) hj;exact ⟨c, fun _ => hc⟩
    · exact ⟨fun _ => 0, fun h => absurd h hj⟩
   exact Classical.axiomOfChoice h2
  exact Classical.axiomOfChoice h1
 have hz : ∀ i < n, ∀ j < n, ∀ k < n + 1, ((if k = 0 then 0 else q i j (k - 1)) - (if k < n then sm n fun l => A i l * q l j k else 0)) - a k * uM i j = 0 := fun i hi j hj => by
  refine jM (n + 1) (fun k => ((if k = 0 then 0 else q i j (k - 1)) - (if k < n then sm n fun l => A i l * q l j k else 0)) - a k * uM i j) fun t _ => ?_;have h1 := wB n (Bt A t) hi hj;have e0 : (sm n fun l => Bt A t i l * dX n (Bt A t) l j) = t * dX n (Bt A t) i j - sm n fun l => A i l * dX n (Bt A t) l j := by
   have e1 : (sm n fun l => Bt A t i l * dX n (Bt A t) l j) = (sm n fun l => t * (uM i l * dX n (Bt A t) l j)) - sm n fun l => A i l * dX n (Bt A t) l j := by
    rw [<- jF];exact aj fun l _ => by unfold Bt; rw [Int.add_mul, Int.neg_mul, Int.mul_assoc]; omega
   rw [e1, bg, du i hi fun l _ hli => by unfold uM; rw [if_neg fun e => hli e.symm, Int.zero_mul]];unfold uM;rw [if_pos rfl, Int.one_mul]
  have e2 : t * dX n (Bt A t) i j = sm (n + 1) fun k => (if k = 0 then 0 else q i j (k - 1)) * t ^ k := by
   rw [hq i j hj, fX, <- bg];show _ = (if 0 = 0 then 0 else q i j (0 - 1)) * t ^ 0 + sm n fun k => (if k + 1 = 0 then 0 else q i j (k + 1 - 1)) * t ^ (k + 1);rw [if_pos rfl, Int.zero_mul, Int.zero_add];exact aj fun k _ => by rw [if_neg (by omega), Nat.add_sub_cancel, Int.pow_succ]; ac_rfl
  have e3 : (sm n fun l => A i l * dX n (Bt A t) l j) = sm (n + 1) fun k => (if k < n then sm n fun l => A i l * q l j k else 0) * t ^ k := by
   show _ = (sm n fun k => (if k < n then sm n fun l => A i l * q l j k else 0) * t ^ k) + (if n < n then sm n fun l => A i l * q l j n else 0) * t ^ n;rw [if_neg (Nat.lt_irrefl n), Int.zero_mul, Int.add_zero];have e4 : (sm n fun l => A i l * dX n (Bt A t) l j) = sm n fun l => sm n fun k => A i l * q l j k * t ^ k := aj fun l _ => by
    rw [hq l j hj, <- bg];exact aj fun k _ => (Int.mul_assoc ..).symm
   rw [e4, iy];exact aj fun k hk => by rw [if_pos hk, dN]
  have e5 : aF n (Bt A t) * uM i j = sm (n + 1) fun k => a k * uM i j * t ^ k := by
   rw [ha', <- dN];exact aj fun k _ => by ac_rfl
  rw [e0, e2, e3, e5] at h1;have e6 : (sm (n + 1) fun k => (((if k = 0 then 0 else q i j (k - 1)) - (if k < n then sm n fun l => A i l * q l j k else 0)) - a k * uM i j) * t ^ k) = ((sm (n + 1) fun k => (if k = 0 then 0 else q i j (k - 1)) * t ^ k) - sm (n + 1) fun k => (if k < n then sm n fun l => A i l * q l j k else 0) * t ^ k) - sm (n + 1) fun k => a k * uM i j * t ^ k := by
   rw [<- jF, <- jF];exact aj fun k _ => by rw [Int.sub_mul, Int.sub_mul]
  show (sm (n + 1) fun k => (((if k = 0 then 0 else q i j (k - 1)) - (if k < n then sm n fun l => A i l * q l j k else 0)) - a k * uM i j) * t ^ k) = 0;rw [e6]; omega
 have htr : ∀ k < n, (sm n fun i => q i i k) = ((k : Int) + 1) * a (k + 1) := fun k hk => by
  have := jM n (fun k => (sm n fun i => q i i k) - ((k : Int) + 1) * a (k + 1)) (fun t _ => by
   have h1 := uK ha' t;have e1 : (sm n fun i => dX n (Bt A t) i i) = sm n fun k => (sm n fun i => q i i k) * t ^ k := by
    have e2 : (sm n fun i => dX n (Bt A t) i i) = sm n fun i => sm n fun k => q i i k * t ^ k := aj fun i hi => hq i i hi t;rw [e2, iy];exact aj fun k _ => dN ..
   rw [e1] at h1;have e3 : (sm n fun k => ((sm n fun i => q i i k) - ((k : Int) + 1) * a (k + 1)) * t ^ k) = (sm n fun k => (sm n fun i => q i i k) * t ^ k) - sm n fun k => ((k : Int) + 1) * a (k + 1) * t ^ k := by
    rw [<- jF];exact aj fun k _ => Int.sub_mul ..
   rw [e3, h1]; omega) k hk
  show (sm n fun i => q i i k) = _;have h2 : (sm n fun i => q i i k) - ((k : Int) + 1) * a (k + 1) = 0 := this;omega
 refine ⟨fun k i j => q i j (n - 1 - k), fun k => a (n - k), fun i hi j hj => ?_, fun k hk => ?_, fun i hi j hj => ?_⟩
 · have := hz i hi j hj n (by omega);rw [if_neg (by omega), if_neg (by omega), hl] at this;show q i j (n - 1 - 0) = _;rw [Nat.sub_zero]; omega
 · have hN : ∀ i < n, ∀ j < n, q i j (n - 1 - (k + 1)) = (sm n fun l => A i l * q l j (n - 1 - k)) + a (n - (k + 1)) * uM i j := fun i hi j hj => by
    have := hz i hi j hj (n - (k + 1)) (by omega);rw [if_neg (by omega), if_pos (by omega)] at this;rw [show n - 1 - (k + 1) = n - (k + 1) - 1 by omega, show n - 1 - k = n - (k + 1) by omega];omega
   refine ⟨?_, hN⟩;have h1 := htr (n - 1 - (k + 1)) (by omega);have h2 : (sm n fun i => q i i (n - 1 - (k + 1))) = (sm n fun i => sm n fun l => A i l * q l i (n - 1 - k)) + sm n fun _ => a (n - (k + 1)) := by
    rw [<- fv];exact aj fun i hi => by
     rw [hN i hi i hi];show _ + a (n - (k + 1)) * (if i = i then 1 else 0) = _;rw [if_pos rfl, Int.mul_one]
   have h3 : ∀ (m : Nat) (x : Int), (sm m fun _ => x) = (m : Int) * x := fun m x => by
    induction m with
    | zero => show (0 : Int) = ((0 : Nat) : Int) * x; simp
    | succ m ih => show (sm m fun _ => x) + x = _; rw [ih, show ((m + 1 : Nat) : Int) = (m : Int) + 1 by omega, Int.add_mul, Int.one_mul]
   rw [h3] at h2;rw [show n - 1 - (k + 1) + 1 = n - (k + 1) by omega] at h1;show (sm n fun i => sm n fun l => A i l * q l i (n - 1 - k)) = -(((k : Int) + 1) * a (n - (k + 1)));have e4 : ((n - 1 - (k + 1) : Nat) : Int) + 1 = (n : Int) - ((k : Int) + 1) := by omega
   rw [h1, e4, Int.sub_mul] at h2;omega
 · have := hz i hi j hj 0 (by omega);rw [if_pos rfl, if_pos hn] at this;have h0 := ha' 0;have e1 : (sm (n + 1) fun k => a k * (0 : Int) ^ k) = a 0 := by
    rw [du 0 (by omega) fun k _ hk => by rw [Int.zero_pow (by omega), Int.mul_zero]];simp
   have e2 : aF n (Bt A 0) = (-1) ^ n * aF n A := by
    rw [<- j2];exact aH n fun x _ y _ => by unfold Bt; rw [Int.zero_mul]; omega
   rw [e1, e2] at h0;show (sm n fun l => A i l * q l j (n - 1 - (n - 1))) = _;rw [Nat.sub_self, h0, Int.neg_mul];omega
end Go.Proofs.Ytjjlmfmoihooiaa
namespace Go.Proofs.Ytjjlmfmoihooiaa
open Go.RowKit
structure EaX where
 k : Nat
 ps : List P4
 zs : List Int
structure EaI (n : Nat) (f : Int -> Int) (xs : List Int) (z : EaX) : Prop where
 hk : z.k <= n
 pl : z.ps.length = n
 zl : z.zs.length = n
 val : ∀ t < n, gi z.zs t = if t < z.k then f (gi xs t) else 0
set_option maxRecDepth 100000 in
set_option maxHeartbeats 4000000 in
theorem vX (F : FuncId) (hF : ∀ (args : Array Value) (w : World), (callFunc F args).run Try.prog w = .ok (.enter F args) w) (lb : Array Value) (f : Int -> Int) (L nm cap : Nat) (ao : Option Addr) (xs : List Int) (w : World) (hA : aI w L ao xs) (hnm : xs.length = nm) (hm : nm <= 4096)
 (hf : ∀ (i : Nat) (p : P4) (w' : World), i < nm -> Below w.heap.size w w' -> aw w' L (av p) (gi xs i) -> Calls Try.prog F (#[av p] ++ lb) w' fun e w'' => (∃ v, e = .returned v /\ ak w'' w'.heap.size v (f (gi xs i))) /\ Below w'.heap.size w' w'') :
 Calls Try.prog 44 #[.slice ao nm cap, .func (.func F) #[] lb] w fun e w' => (∃ q : Nat, e = .returned (.slice (some ⟨q, 0, none⟩) nm nm) /\ dT w' (some ⟨q, 0, none⟩) (xs.map f) /\ True /\ ∀ b o, (some ⟨q, 0, none⟩ : Option Addr) = some ⟨b, o, none⟩ -> w.heap.size <= b) /\ Below w.heap.size w w' := by
 have HN := Lib.hid hnm;refine bB (S0 := fun _ => False) Try.func44 ((Fr.nil _ w).l hA (by simp)) ?_;clear hnm hA;refine ae ?_;refine rW [] ?_;refine dW ?_;refine eW ?_;refine ae ?_;refine rW [] ?_;refine dW ?_;refine dW ?_;refine mN nm nm rfl rfl (Nat.le_refl _) (by omega) fun g => ?_;refine dW ?_;refine eW ?_;refine ae ?_;refine rW [] ?_;refine dW ?_;refine dW ?_;refine dW ?_;refine eW ?_;refine ae ?_;refine jU (e := .ns (List.replicate nm p0) (List.replicate nm 0)) (fun w' _ => bC.pF w' nm) ?_;refine bL (X := EaX) (EaI nm f xs) (fun z => nm - z.k) (fun z => [(13, .int .i64 (z.k : Int)), (12, .int .i64 (nm : Int)), (11, .slice ao nm cap), (5, .slice (some ⟨g, 0, none⟩) nm nm), (1, .func (.func F) #[] lb)])
  (fun z => [.row g 27 (rn z.ps []), .ns z.ps z.zs, .ls L ao xs]) ⟨0, List.replicate nm p0, List.replicate nm 0⟩ ⟨Nat.zero_le _, by simp, by simp, fun t ht => by rw [if_neg (by show ¬ t < 0; omega)]; show gi (List.replicate nm 0) t = 0; rw [bU (by simpa using ht)]; simp⟩ fun z hz => ?_
 obtain ⟨k, ps, zs⟩ := z;have hk : k <= nm := hz.hk;have HM : Hid (EaI nm f xs ⟨k, ps, zs⟩) := Lib.hid hz;clear hz;by_cases h : k < nm
 · have h01 : (k : Int) < (nm : Int) := by omega
   refine ae ?_;refine rW [] ?_;refine dB true ?_;refine eW ?_;refine ae ?_;refine n4 (L := L) (ao := ao) (xs := xs) (by simp) (by rw [HN.out]; omega) fun bx ox e => ?_;subst e;refine jq (L := L) (xs := xs) (b := bx) (o := ox) k (by simp) (by rw [HN.out]; exact h) fun p => ?_;refine eB ?_;refine ae ?_;refine rW [] ?_;refine dW ?_;refine dW ?_;refine dW ?_;refine aW fun g7 => ?_;refine dW ?_;refine sG ?_;refine eW ?_;refine ae ?_;refine rW [] ?_;refine dW ?_;refine dW ?_;refine dW ?_;refine dW ?_;refine cN (x := f (gi xs k)) (fun w' H => hf k p w' h H.below (H.all (.at L (av p) (gi xs k)) (by simp [av]))) fun q => ?_;refine gE (e := .ns (ps.set k q) (zs.set k (f (gi xs k)))) (fun w' H => bC.set (H.all (.ns ps zs) (by simp)) k (H.all (.own w.heap.size (av q) (f (gi xs k))) (by simp [av]) : ak ..).num) ?_;refine dW ?_;refine sN (ps := ps) k q (by rw [show ps.length = nm from HM.out.pl]; exact h) aN.nil rfl ?_;refine eW ?_;refine ae ?_;refine rW [] ?_;refine dE (cQ (a := k) (by omega)) ?_;refine dW ?_;refine eW ?_;refine ae ?_;exact bJ (⟨k + 1, ps.set k q, zs.set k (f (gi xs k))⟩ : EaX) ⟨⟨h, by show (ps.set k q).length = nm; rw [List.length_set]; exact HM.out.pl, by show (zs.set k _).length = nm; rw [List.length_set]; exact HM.out.zl, fun t ht => by
    show gi (zs.set k _) t = if t < k + 1 then _ else _;rw [eY (by rw [show zs.length = nm from HM.out.zl]; exact h)];by_cases e : t = k
    · rw [if_pos e, if_pos (by omega), e]
    · rw [if_neg e];have := HM.out.val t ht;rw [this];show (if t < k then _ else _) = _;by_cases e2 : t < k
      · rw [if_pos e2, if_pos (by omega)]
      · rw [if_neg e2, if_neg (by omega)]⟩, by show nm - (k + 1) < nm - k; omega⟩
 · obtain rfl : nm = k := by omega
   have hE : zs = xs.map f := by
    have zl : zs.length = nm := HM.out.zl;refine List.ext_getElem (by rw [zl, List.length_map, HN.out]) fun t h1 h2 => ?_;have ht : t < nm := by omega
    have := HM.out.val t ht;rw [if_pos (show t < nm from ht), bU h1, bU (by rw [HN.out]; exact ht)] at this;rw [this, List.getElem_map]
   have HE := Lib.hid hE;clear hE;refine ae ?_;refine rW [] ?_;refine dB false ?_;refine eW ?_;refine ae ?_;refine cd ?_;refine ae ?_;refine rW [] ?_;refine dW ?_;refine dW ?_;refine eW ?_;refine ae ?_;refine dt fun w' H => ?_;refine ⟨_, dA, ⟨g, rfl, ?_, trivial, fun b o e => by cases e; exact (H.own _ (List.mem_cons_self ..) rfl _ rfl).elim (fun h => h.elim) id⟩, H.below⟩;have h1 : ah w' g 27 (rn ps []) := H.m0;have h2 : bC w' ps zs := H.m1;rw [<- HE.out];exact fun _ => ⟨g, 0, rfl, h1.lt, fun i hi => ⟨gp ps i, by rw [h1.cell, Nat.zero_add]; exact pZ [] (by rw [h2.1]; exact hi), by rw [h1.cell, Nat.zero_add]; exact pY [] (by rw [h2.1]; exact hi), by have := h2.2 i (by rw [h2.1]; exact hi); rw [bU hi] at this; exact this⟩⟩
set_option maxRecDepth 100000 in
set_option maxHeartbeats 1000000 in
theorem uT (gk L : Nat) (pk px : P4) (k x : Int) (w : World) (h0 : w.cell? ⟨gk, 0, none⟩ = some (.bool pk.1)) (h1 : w.cell? ⟨gk, 1, none⟩ = some (.slice pk.2.1 pk.2.2.1 pk.2.2.2)) (hk : aw w L (av pk) k) (hx : aw w L (av px) x) (hL : L <= 1000000000) :
 Calls Try.prog 84 #[av px, .pointer (some ⟨gk, 0, none⟩)] w fun e w' => (∃ v, e = .returned v /\ ak w' w.heap.size v (k * x)) /\ Below w.heap.size w w' := by
 have HA : Fr (fun _ => False) w w [.cell ⟨gk, 0, none⟩ (.bool pk.1), .cell ⟨gk, 1, none⟩ (.slice pk.2.1 pk.2.2.1 pk.2.2.2), .at L (av px) x, .at L (av pk) k] :=
  Fr.cl (Fr.cl (((Fr.nil _ w).i hk).i hx) h1 (by simp [En.wr, En.at])) h0 (by simp [En.wr, En.at])
 clear h0 h1 hk hx;refine bB (S0 := fun _ => False) Try.func84 HA ?_;clear HA;refine ae ?_;refine rW [] ?_;refine aW fun g2 => ?_;refine aW fun g3 => ?_;refine eW ?_;refine ae ?_;refine rW [] ?_;refine dW ?_;refine dW ?_;refine cN (x := k * x) (fun w' H => fR (av pk) (av px) k x L L w' (H.all (.at L (av pk) k) (by simp [av])) (H.all (.at L (av px) x) (by simp [av])) (by omega)) fun q => ?_;refine sW ?_;refine eW ?_;refine ae ?_;refine dt fun w' H => ?_;exact ⟨_, iq (H.all (.row g3 27 [.bool q.1, .slice q.2.1 q.2.2.1 q.2.2.2]) (by simp)), ⟨_, rfl, H.all (.own w.heap.size (av q) (k * x)) (by simp [av])⟩, H.below⟩
set_option maxRecDepth 100000 in
set_option maxHeartbeats 2000000 in
theorem pW (r n nm cap L : Nat) (ao : Option Addr) (xs : List Int) (k : Int) (pk : P4) (w : World) (hr : r <= 64) (hn : n <= 64) (hL : L <= 1000000000) (hk : aw w L (av pk) k) (hA : aI w L ao xs) (hs : xs.length = r * n) (hnm : xs.length = nm) :
 Calls Try.prog 65 #[av pk, .agg #[.int .i64 (r : Int), .int .i64 (n : Int), .slice ao nm cap]] w fun e w' => (∃ q : Nat, e = .returned (.tuple #[.agg #[.int .i64 (r : Int), .int .i64 (n : Int), .slice (some ⟨q, 0, none⟩) nm nm], .int .i64 0]) /\ dT w' (some ⟨q, 0, none⟩) (xs.map (k * ·)) /\ True /\ ∀ b o, (some ⟨q, 0, none⟩ : Option Addr) = some ⟨b, o, none⟩ -> w.heap.size <= b) /\ Below w.heap.size w w' := by
 have hC : ∀ w', Calls Try.prog 14 #[.agg #[.int .i64 (r : Int), .int .i64 (n : Int), .slice ao nm cap]] w' fun e w'' => e = .returned (.int .i64 0) /\ Below w'.heap.size w' w'' := fun w' => by
  have := dx (r : Int) (n : Int) ao nm cap w' (by omega) (by omega);rw [dC (by unfold bE bG; rw [<- hnm, hs]; simp; omega)] at this; exact this
 have hm : nm <= 4096 := by rw [<- hnm, hs]; exact Nat.mul_le_mul hr hn
 have HC := Lib.hid (And.intro hC (And.intro hnm hm));have HF := ((Fr.nil (fun _ => False) w).i hk).l hA (by simp [En.wr, En.at]);clear hC hs hnm hm hk hA;refine bB (S0 := fun _ => False) Try.func65 HF ?_;clear HF;refine ae ?_;refine rW [] ?_;refine aW fun g2 => ?_;refine aW fun g3 => ?_;refine aW fun g4 => ?_;refine dW ?_;refine eW ?_;refine ae ?_;refine rW [] ?_;refine dW ?_;refine cV (v := .int .i64 0) (fun w' H => HC.out.1 w') ?_;refine dW ?_;refine eW ?_;refine ae ?_;refine rW [] ?_;refine dW ?_;refine dB false ?_;refine eW ?_;refine ae ?_;refine cd ?_;refine ae ?_;refine rW [] ?_;refine dW ?_;refine dW ?_;refine dW ?_;refine dW ?_;refine dW ?_;refine dW ?_;refine fW ?_;refine kt (α := Nat) (mk := fun q => .slice (some ⟨q, 0, none⟩) nm nm) (ao := fun q => some ⟨q, 0, none⟩) (xs := fun _ => xs.map (k * ·)) (A := fun _ => True) (fun w' H => vX 84 (fun _ _ => by go_simp) #[.pointer (some ⟨g2, 0, none⟩)] (k * ·) L nm cap ao xs w' (H.all (.ls L ao xs) (by simp)) HC.out.2.1 HC.out.2.2 (fun i p w2 hi hb hx => by
  have a1 : ah w' g2 27 [.bool pk.1, .slice pk.2.1 pk.2.2.1 pk.2.2.2] := H.all (.row g2 27 [.bool pk.1, .slice pk.2.1 pk.2.2.1 pk.2.2.2]) (by simp);have a2 : aw w' L (av pk) k := H.all (.at L (av pk) k) (by simp [av]);exact uT g2 L pk p k (gi xs i) w2 ((a1.below hb a1.lt).cell 0) ((a1.below hb a1.lt).cell 1) (aw.below a2 hb) hx hL)) fun q => ?_
 refine dW ?_;refine sW ?_;refine dW ?_;refine eW ?_;refine ae ?_;refine ej fun w' H => ?_;exact ⟨_, _, nT (H.all (.row g4 24 [.int .i64 (r : Int), .int .i64 (n : Int), .slice (some ⟨q, 0, none⟩) nm nm]) (by simp)), dA, ⟨q, rfl, H.m0, trivial, (show True /\ ∀ b o, (some ⟨q, 0, none⟩ : Option Addr) = some ⟨b, o, none⟩ -> w.heap.size <= b from H.m1).2⟩, H.below⟩
theorem remI2 {a : Nat} (_ : a < 9223372036854775808) : Value.int .i64 ((a : Int).tmod 2) = .int .i64 ((a % 2 : Nat) : Int) := rfl
theorem tB : ∀ n : Nat, (-1 : Int) ^ n = if n % 2 = 0 then 1 else -1
 | 0 => rfl
 | n + 1 => by
  rw [Int.pow_succ, tB n];by_cases h : n % 2 = 0
  · rw [if_pos h, if_neg (by omega)]; rfl
  · rw [if_neg h, if_pos (by omega)]; rfl
theorem nN {n : Nat} {f : Nat -> Nat -> Int} {i j : Nat} (hi : i < n) (hj : j < n) : ai (aA n f (n * n)) n n i j = f i j := by
 rw [aS hi hj]; exact eO f hi hj
theorem kT {n K B : Nat} {f : Nat -> Nat -> Int} (h : ∀ i j, i < n -> j < n -> ag (f i j).natAbs <= B) (hK : K = n * n) : ∀ x ∈ aA n f K, ag x.natAbs <= B := fun x hx => by
 unfold aA at hx;obtain ⟨q, hq, rfl⟩ := List.mem_map.1 hx;have hq := List.mem_range.1 hq;have hn : 0 < n := by
  rcases Nat.eq_zero_or_pos n with e | e
  · subst e; omega
  · exact e
 exact h _ _ (Nat.div_lt_of_lt_mul (by omega)) (Nat.mod_lt _ hn)
structure jm (n mw : Nat) (N : Nat -> Mx) (s : Nat) (ms : List Int) : Prop where
 len : ms.length = n * n
 eq : ∀ i < n, ∀ j < n, ai ms n n i j = N s i j
 wl : ∀ x ∈ ms, ag x.natAbs <= 1 + s * (mw + 3)
def nw (n mw : Nat) (xs zs : List Int) : Prop := zs.length = n * n /\ (∀ i < n, ∀ j < n, (sm n fun l => ai xs n n i l * ai zs n n l j) = aF n (ai xs n n) * uM i j) /\ ∀ x ∈ zs, ag x.natAbs <= 66 * (mw + 3)
theorem uF : bK = uM := rfl
theorem jm.start {n mw : Nat} {N : Nat -> Mx} (h0 : ∀ i < n, ∀ j < n, N 0 i j = uM i j) : jm n mw N 0 (aA n bK (n * n)) :=
 ⟨aB .., fun i hi j hj => by rw [nN hi hj, h0 i hi j hj, uF], kT (fun i j _ _ => by
  unfold bK; split
  · exact Nat.le_trans (au (k := 1) (by unfold W; decide)) (by omega)
  · simp [aQ]) rfl⟩
theorem jm.prod {n mw s : Nat} {N : Nat -> Mx} {xs ms : List Int} (h : jm n mw N s ms) (hs : xs.length = n * n) {i j : Nat} (hi : i < n) (hj : j < n) : bb n n xs ms i j = sm n fun l => ai xs n n i l * N s l j :=
 aj fun l hl => by rw [<- h.eq l hl j hj, aS hi hl, aS hl hj]; rfl
section
variable {n mw s : Nat} {N : Nat -> Mx} {c : Nat -> Int} {xs ms : List Int}
theorem jm.pw (h : jm n mw N s ms) (hn : n <= 64) (hs : xs.length = n * n) (hx : ∀ x ∈ xs, ag x.natAbs <= mw) : ∀ x ∈ aA n (bb n n xs ms) (n * n), ag x.natAbs <= mw + (1 + s * (mw + 3)) + 1 :=
 kT (fun i j hi hj => lQ (fun t ht => nH (hx _ (cS (by rw [hs]; exact bY hi ht))) (h.wl _ (cS (by rw [h.len]; exact bY ht hj)))) hn) rfl
theorem jm.tr (h : jm n mw N s ms) (hs : xs.length = n * n) : (sm n fun i => gi (aA n (bb n n xs ms) (n * n)) (i * n + i)) = sm n fun i => sm n fun l => ai xs n n i l * N s l i :=
 aj fun i hi => by
  rw [<- h.prod hs hi hi];exact eO _ hi hi
theorem jm.next (h : jm n mw N s ms) (hn : n <= 64) (hs : xs.length = n * n) (hx : ∀ x ∈ xs, ag x.natAbs <= mw) (hN : ∀ i < n, ∀ j < n, N (s + 1) i j = (sm n fun l => ai xs n n i l * N s l j) + c (s + 1) * uM i j) (hc : ag (c (s + 1)).natAbs <= mw + (1 + s * (mw + 3)) + 2) :
 jm n mw N (s + 1) (aA n (l8 n (aA n (bb n n xs ms) (n * n)) ((aA n bK (n * n)).map (c (s + 1) * ·))) (n * n)) := by
 have hu : ∀ i j, i < n -> j < n -> gi ((aA n bK (n * n)).map (c (s + 1) * ·)) (i * n + j) = c (s + 1) * uM i j := fun i j hi hj => by
  have h1 : i * n + j < (aA n bK (n * n)).length := by rw [aB]; exact bY hi hj
  have h2 : gi (aA n bK (n * n)) (i * n + j) = bK i j := eO _ hi hj;unfold gi at h2 ⊢;rw [List.getD_eq_getElem?_getD, List.getElem?_map, List.getElem?_eq_getElem h1];rw [List.getD_eq_getElem?_getD, List.getElem?_eq_getElem h1] at h2;show c (s + 1) * (aA n bK (n * n))[i * n + j] = _;rw [show (aA n bK (n * n))[i * n + j] = bK i j from h2, uF]
 have hp : ∀ i j, i < n -> j < n -> gi (aA n (bb n n xs ms) (n * n)) (i * n + j) = bb n n xs ms i j := fun i j hi hj => eO _ hi hj;refine ⟨aB .., fun i hi j hj => ?_, kT (fun i j hi hj => ?_) rfl⟩
 · rw [nN hi hj, hN i hi j hj];unfold l8;rw [hp i j hi hj, hu i j hi hj, h.prod hs hi hj]
 · unfold l8;rw [hp i j hi hj, hu i j hi hj];have e1 : ag (bb n n xs ms i j).natAbs <= mw + (1 + s * (mw + 3)) + 2 := Nat.le_trans (h.pw hn hs hx _ (by rw [<- hp i j hi hj]; exact cS (by rw [aB]; exact bY hi hj))) (by omega);have e2 : ag (c (s + 1) * uM i j).natAbs <= mw + (1 + s * (mw + 3)) + 2 := by
    unfold uM; split
    · rw [Int.mul_one]; exact hc
    · rw [Int.mul_zero]; simp [aQ]
   have e3 := lQ (B := mw + (1 + s * (mw + 3)) + 2) (k := 2) (f := fun t => if t = 0 then bb n n xs ms i j else c (s + 1) * uM i j) (fun t _ => by show ag (if t = 0 then bb n n xs ms i j else c (s + 1) * uM i j).natAbs <= _; split <;> assumption) (by omega);have e4 : (sm 2 fun t => if t = 0 then bb n n xs ms i j else c (s + 1) * uM i j) = bb n n xs ms i j + c (s + 1) * uM i j := by
    show 0 + (if 0 = 0 then bb n n xs ms i j else c (s + 1) * uM i j) + (if 1 = 0 then bb n n xs ms i j else c (s + 1) * uM i j) = _;rw [if_pos rfl, if_neg (by omega), Int.zero_add]
   rw [e4] at e3;have e5 : (s + 1) * (mw + 3) = s * (mw + 3) + (mw + 3) := Nat.succ_mul s _;omega
end
theorem fl0 (n : Nat) (A : Mx) : ∃ (N : Nat -> Mx) (c : Nat -> Int), (∀ i < n, ∀ j < n, N 0 i j = uM i j) /\
 (∀ k, k + 1 < n -> (sm n fun i => sm n fun l => A i l * N k l i) = -(((k : Int) + 1) * c (k + 1)) /\ ∀ i < n, ∀ j < n, N (k + 1) i j = (sm n fun l => A i l * N k l j) + c (k + 1) * uM i j) /\
 (0 < n -> ∀ i < n, ∀ j < n, (sm n fun l => A i l * N (n - 1) l j) = -((-1) ^ n * aF n A) * uM i j) := by
 rcases Nat.eq_zero_or_pos n with e | e
 · subst e;exact ⟨fun _ => uM, fun _ => 0, fun i hi => by omega, fun k hk => by omega, fun h => by omega⟩
 · obtain ⟨N, c, h1, h2, h3⟩ := fl n A e;exact ⟨N, c, h1, h2, fun _ => h3⟩
theorem wg {n mw : Nat} {N : Nat -> Mx} {xs ms : List Int} (h : jm n mw N (n - 1) ms) (hn : n <= 64) (hl : ∀ i < n, ∀ j < n, (sm n fun l => ai xs n n i l * N (n - 1) l j) = -((-1) ^ n * aF n (ai xs n n)) * uM i j) (h0 : 0 < n) : (n % 2 = 0 -> nw n mw xs (ms.map ((-1) * ·))) /\ (¬ n % 2 = 0 -> nw n mw xs ms) := by
 have hw : 1 + (n - 1) * (mw + 3) <= 66 * (mw + 3) := by
  have := Nat.mul_le_mul_right (mw + 3) (show n - 1 <= 64 by omega); omega
 refine ⟨fun he => ⟨by rw [List.length_map]; exact h.len, fun i hi j hj => ?_, fun x hx => ?_⟩, fun he => ⟨h.len, fun i hi j hj => ?_, fun x hx => Nat.le_trans (h.wl x hx) hw⟩⟩
 · have e1 := hl i hi j hj;rw [tB, if_pos he, Int.one_mul] at e1;have e2 : (sm n fun l => ai xs n n i l * ai (ms.map ((-1) * ·)) n n l j) = sm n fun l => (-1) * (ai xs n n i l * N (n - 1) l j) := aj fun l hl' => by
    rw [<- h.eq l hl' j hj, aS hl' hj, aS hl' hj];have h1 : l * n + j < ms.length := by rw [h.len]; exact bY hl' hj
    rw [List.getD_eq_getElem?_getD, List.getElem?_map, List.getElem?_eq_getElem h1, List.getD_eq_getElem?_getD, List.getElem?_eq_getElem h1];show _ * ((-1) * ms[l * n + j]) = (-1) * (_ * ms[l * n + j])
    ac_rfl
   have q : ∀ a b : Int, (-1) * (-a * b) = a * b := fun a b => by rw [Int.neg_mul, Int.neg_mul, Int.one_mul, Int.neg_neg]
   rw [e2, bg, e1, q]
 · obtain ⟨y, hy, rfl⟩ := List.mem_map.1 hx;show ag ((-1) * y).natAbs <= _;rw [show ((-1) * y).natAbs = y.natAbs by rw [Int.natAbs_mul]; simp];exact Nat.le_trans (h.wl y hy) hw
 · have e1 := hl i hi j hj;rw [tB, if_neg he] at e1;rw [aj (g := fun l => ai xs n n i l * N (n - 1) l j) fun l hl' => by rw [h.eq l hl' j hj], e1];congr 1;omega
theorem ur {mw : Nat} {xs ms : List Int} (h : ms.length = 0 * 0) : nw 0 mw xs ms := ⟨h, fun i hi => by omega, fun x hx => by have : ms = [] := List.eq_nil_of_length_eq_zero (by omega); subst this; cases hx⟩
set_option maxRecDepth 100000 in
set_option maxHeartbeats 4000000 in
theorem xX (n nm cap mw : Nat) (ao : Option Addr) (xs : List Int) (w : World) (hn : n <= 64) (hmw : mw <= 1048577) (hA : aI w mw ao xs) (hs : xs.length = n * n) (hnm : xs.length = nm) (hxw : ∀ x ∈ xs, ag x.natAbs <= mw) :
 Calls Try.prog 38 #[.agg #[.int .i64 (n : Int), .int .i64 (n : Int), .slice ao nm cap]] w fun e w' => (∃ p : (Option Addr × Nat) × List Int, e = .returned (.tuple #[.agg #[.int .i64 (n : Int), .int .i64 (n : Int), .slice p.1.1 (n * n) p.1.2], .int .i64 0]) /\ dT w' p.1.1 p.2 /\ nw n mw xs p.2 /\ ∀ b o, p.1.1 = some ⟨b, o, none⟩ -> w.heap.size <= b) /\ Below w.heap.size w w' := by
 have c0 : ∀ w', Calls Try.prog 14 #[.agg #[.int .i64 (n : Int), .int .i64 (n : Int), .slice ao nm cap]] w' fun e w'' => e = .returned (.int .i64 0) /\ Below w'.heap.size w' w'' := fun w' => by
  have := dx (n : Int) (n : Int) ao nm cap w' (by omega) (by omega);rw [dC (by unfold bE bG; rw [<- hnm, hs]; simp; omega)] at this; exact this
 obtain ⟨N, c, f0, f1, f2⟩ := fl0 n (ai xs n n);have hB : ∀ s, s <= 64 -> 1 + s * (mw + 3) <= 100000000 := fun s h => by have := Nat.mul_le_mul_right (mw + 3) h; omega
 have c1 : ∀ s ms (po : Option Addr) pc w', s + 1 < n -> jm n mw N s ms -> dT w' po ms -> aI w' mw ao xs -> Calls Try.prog 39 #[.agg #[.int .i64 (n : Int), .int .i64 (n : Int), .slice ao nm cap], .agg #[.int .i64 (n : Int), .int .i64 (n : Int), .slice po (n * n) pc]] w' fun e w'' => (∃ p : Option Addr × Nat, e = .returned (.tuple #[.agg #[.int .i64 (n : Int), .int .i64 (n : Int), .slice p.1 (n * n) p.2], .int .i64 0]) /\ dT w'' p.1 (aA n (bb n n xs ms) (n * n)) /\ True /\ ∀ b o, p.1 = some ⟨b, o, none⟩ -> w'.heap.size <= b) /\ Below w'.heap.size w' w'' := fun s ms po pc w' hs' hI h hA => by
  have := hB s (by omega);exact r7 n n n nm (n * n) cap pc mw (1 + s * (mw + 3)) ao po xs ms w' hA (h.iH hI.wl) (by omega) hs hnm hI.len hI.len hn hn hn hxw hI.wl
 have c2 : ∀ s ms (po : Option Addr) pc w', s + 1 < n -> jm n mw N s ms -> dT w' po (aA n (bb n n xs ms) (n * n)) -> Calls Try.prog 64 #[.agg #[.int .i64 (n : Int), .int .i64 (n : Int), .slice po (n * n) pc]] w' fun e w'' => (∃ v, e = .returned (.tuple #[v, .int .i64 0]) /\ ak w'' w'.heap.size v (-(((s + 1 : Nat) : Int) * c (s + 1)))) /\ Below w'.heap.size w' w'' := fun s ms po pc w' hs' hI h => by
  have h1 := hI.pw hn hs hxw;have := hB s (by omega);have h2 := ub n (n * n) pc (mw + (1 + s * (mw + 3)) + 1) po (aA n (bb n n xs ms) (n * n)) w' hn (h.iH h1) (by omega) (aB ..) (aB ..) h1;rw [hI.tr hs, (f1 s hs').1, show ((s : Int) + 1) = ((s + 1 : Nat) : Int) by omega] at h2;exact h2
 have c3 : ∀ s ms, s + 1 < n -> jm n mw N s ms -> ag (((s + 1 : Nat) : Int) * c (s + 1)).natAbs <= mw + (1 + s * (mw + 3)) + 2 := fun s ms hs' hI => by
  have h1 := hI.pw hn hs hxw;have h2 := lQ (k := n) (f := fun i => gi (aA n (bb n n xs ms) (n * n)) (i * n + i)) (fun t ht => h1 _ (cS (by rw [aB]; exact bY ht ht))) hn;rw [hI.tr hs, (f1 s hs').1, Int.natAbs_neg, show ((s : Int) + 1) = ((s + 1 : Nat) : Int) by omega] at h2;exact h2
 have c4 : ∀ s ms, s + 1 < n -> jm n mw N s ms -> ag (c (s + 1)).natAbs <= mw + (1 + s * (mw + 3)) + 2 := fun s ms hs' hI => Nat.le_trans (aG (by
  rw [Int.natAbs_mul];exact Nat.le_mul_of_pos_left _ (by omega))) (c3 s ms hs' hI)
 have c5 : ∀ s ms, s + 1 < n -> jm n mw N s ms -> jm n mw N (s + 1) (aA n (l8 n (aA n (bb n n xs ms) (n * n)) ((aA n bK (n * n)).map (c (s + 1) * ·))) (n * n)) := fun s ms hs' hI => hI.next hn hs hxw (f1 s hs').2 (c4 s ms hs' hI);have c6 : ∀ s ms (po : Option Addr) pc pk w', s + 1 < n -> jm n mw N s ms -> aw w' (mw + (1 + s * (mw + 3)) + 2) (av pk) (c (s + 1)) -> dT w' po (aA n bK (n * n)) -> Calls Try.prog 65 #[av pk, .agg #[.int .i64 (n : Int), .int .i64 (n : Int), .slice po (n * n) pc]] w' fun e w'' => (∃ q : Nat, e = .returned (.tuple #[.agg #[.int .i64 (n : Int), .int .i64 (n : Int), .slice (some ⟨q, 0, none⟩) (n * n) (n * n)], .int .i64 0]) /\ dT w'' (some ⟨q, 0, none⟩) ((aA n bK (n * n)).map (c (s + 1) * ·)) /\ True /\ ∀ b o, (some ⟨q, 0, none⟩ : Option Addr) = some ⟨b, o, none⟩ -> w'.heap.size <= b) /\ Below w'.heap.size w' w'' := fun s ms po pc pk w' hs' hI hk h => by
  have := hB s (by omega);exact pW n n (n * n) pc (mw + (1 + s * (mw + 3)) + 2) po (aA n bK (n * n)) (c (s + 1)) pk w' hn hn (by omega) hk (h.iH (kT (fun i j _ _ => by
   unfold bK; split
   · exact Nat.le_trans (au (k := 1) (by unfold W; decide)) (by omega)
   · simp [aQ]) rfl)) (aB ..) (aB ..)
 have c7 : ∀ s ms (po : Option Addr) pc q w', s + 1 < n -> jm n mw N s ms -> dT w' po (aA n (bb n n xs ms) (n * n)) -> dT w' (some ⟨q, 0, none⟩) ((aA n bK (n * n)).map (c (s + 1) * ·)) -> Calls Try.prog 66 #[.agg #[.int .i64 (n : Int), .int .i64 (n : Int), .slice po (n * n) pc], .agg #[.int .i64 (n : Int), .int .i64 (n : Int), .slice (some ⟨q, 0, none⟩) (n * n) (n * n)]] w' fun e w'' => (∃ p : (Option Addr × Nat) × List Int, e = .returned (.tuple #[.agg #[.int .i64 (n : Int), .int .i64 (n : Int), .slice p.1.1 (n * n) p.1.2], .int .i64 0]) /\ dT w'' p.1.1 p.2 /\ jm n mw N (s + 1) p.2 /\ ∀ b o, p.1.1 = some ⟨b, o, none⟩ -> w'.heap.size <= b) /\ Below w'.heap.size w' w'' := fun s ms po pc q w' hs' hI h1 h2 => by
  have := hB s (by omega);exact (wO n n (n * n) pc (n * n) (mw + (1 + s * (mw + 3)) + 2) po (some ⟨q, 0, none⟩) (aA n (bb n n xs ms) (n * n)) ((aA n bK (n * n)).map (c (s + 1) * ·)) w' (h1.iH fun x hx => Nat.le_trans (hI.pw hn hs hxw x hx) (by omega)) (h2.iH fun x hx => by
   obtain ⟨y, hy, rfl⟩ := List.mem_map.1 hx;obtain ⟨t, _, rfl⟩ := List.mem_map.1 hy;show ag (c (s + 1) * bK (t / n) (t % n)).natAbs <= _;unfold bK; split
   · rw [Int.mul_one]; exact c4 s ms hs' hI
   · rw [Int.mul_zero]; simp [aQ]) (by omega) (aB ..) (aB ..) (by rw [List.length_map, aB]) hn hn).mono fun e w'' ⟨⟨p, he, hl, _, hf⟩, hb⟩ => ⟨⟨(p, _), he, hl, c5 s ms hs' hI, hf⟩, hb⟩
 have c8 : jm n mw N 0 (aA n bK (n * n)) := jm.start f0;have c9 : ∀ ms, jm n mw N (n - 1) ms -> 0 < n -> (n % 2 = 0 -> nw n mw xs (ms.map ((-1) * ·))) /\ (¬ n % 2 = 0 -> nw n mw xs ms) := fun ms hI h0 => wg hI hn (f2 h0) h0;have c10 : ∀ s ms (po : Option Addr) pc pk w', s < 64 -> jm n mw N s ms -> aw w' 1 (av pk) (-1) -> dT w' po ms -> Calls Try.prog 65 #[av pk, .agg #[.int .i64 (n : Int), .int .i64 (n : Int), .slice po (n * n) pc]] w' fun e w'' => (∃ q : Nat, e = .returned (.tuple #[.agg #[.int .i64 (n : Int), .int .i64 (n : Int), .slice (some ⟨q, 0, none⟩) (n * n) (n * n)], .int .i64 0]) /\ dT w'' (some ⟨q, 0, none⟩) (ms.map ((-1) * ·)) /\ True /\ ∀ b o, (some ⟨q, 0, none⟩ : Option Addr) = some ⟨b, o, none⟩ -> w'.heap.size <= b) /\ Below w'.heap.size w' w'' := fun s ms po pc pk w' hs' hI hk h => by
  have := hB s (by omega);exact pW n n (n * n) pc (1 + s * (mw + 3)) po ms (-1) pk w' hn hn (by omega) (hk.mono (by omega)) (h.iH hI.wl) hI.len hI.len
 have HC := Lib.hid (And.intro c0 (And.intro c1 (And.intro c2 (And.intro c3 (And.intro c4 (And.intro c6 (And.intro c7 (And.intro c8 (And.intro c9 (And.intro c10 hB))))))))));clear c0 c1 c2 c3 c4 c5 c6 c7 c8 c9 c10 hB f0 f1 f2 hs hnm hxw;refine bB (S0 := fun _ => False) Try.func38 ((Fr.nil _ w).l hA (by simp)) ?_;clear hA;refine ae ?_;refine rW [] ?_;refine aW fun g1 => ?_;refine aW fun g2 => ?_;refine dW ?_;refine eW ?_;refine ae ?_;refine rW [] ?_;refine dW ?_;refine cV (v := .int .i64 0) (fun w' H => HC.out.1 w') ?_;refine dW ?_;refine eW ?_;refine ae ?_;refine rW [] ?_;refine dW ?_;refine dB false ?_;refine eW ?_;refine ae ?_;refine cd ?_;refine ae ?_;refine rW [] ?_;refine dW ?_;refine dW ?_;refine dW ?_;refine dW ?_;refine dB false ?_;refine eW ?_;refine ae ?_;refine cd ?_;refine ae ?_;refine rW [] ?_;refine dW ?_;refine dW ?_;refine kt (α := Option Addr × Nat) (mk := fun p => .tuple #[.agg #[.int .i64 (n : Int), .int .i64 (n : Int), .slice p.1 (n * n) p.2], .int .i64 0]) (ao := fun p => p.1) (xs := fun _ => aA n bK (n * n)) (A := fun _ => True) (fun w' H => rz n w' hn) fun qU => ?_;refine dW ?_;refine dW ?_;refine dW ?_;refine aW fun g5 => ?_;refine sG ?_;refine dW ?_;refine eW ?_;refine ae ?_;refine kI (A := True /\ ∀ b o, qU.1 = some ⟨b, o, none⟩ -> w.heap.size <= b) (by simp) fun hU => ?_;have HU := Lib.hid hU.2;clear hU;refine rW [] ?_;refine dW ?_;refine eW ?_;refine ae ?_;refine bL (X := Nat × (Option Addr × Nat) × List Int) (fun x => (x.1 = 0 ∨ x.1 + 1 <= n) /\ jm n mw N x.1 x.2.2 /\ ∀ b o, x.2.1.1 = some ⟨b, o, none⟩ -> w.heap.size <= b) (fun x => n - x.1) (fun x => [(7, .int .i64 ((x.1 + 1 : Nat) : Int)), (6, .int .i64 0), (1, .pointer (some ⟨g1, 0, none⟩)), (2, .pointer (some ⟨g2, 0, none⟩)), (5, .pointer (some ⟨g5, 0, none⟩))])
  (fun x => [.row g5 24 [.int .i64 (n : Int), .int .i64 (n : Int), .slice x.2.1.1 (n * n) x.2.1.2], .row g1 24 [.int .i64 (n : Int), .int .i64 (n : Int), .slice ao nm cap], .row g2 24 [.int .i64 0, .int .i64 0, .slice none 0 0], .gI x.2.1.1 x.2.2, .ls mw ao xs]) (0, qU, aA n bK (n * n)) ⟨.inl rfl, HC.out.2.2.2.2.2.2.2.1, HU.out⟩ fun x hx => ?_
 obtain ⟨s, ⟨po, pc⟩, ms⟩ := x;obtain ⟨hs, hI, hfr⟩ := hx;have HFr := Lib.hid (show ∀ b o, po = some ⟨b, o, none⟩ -> w.heap.size <= b from hfr);clear hfr
 replace hs : s = 0 ∨ s + 1 <= n := hs
 have HI := Lib.hid (show jm n mw N s ms from hI);clear hI;by_cases h : s + 1 < n
 · have h01 : ((s + 1 : Nat) : Int) < (n : Int) := by omega
   have hBs := HC.out.2.2.2.2.2.2.2.2.2.2 s (by omega);refine ae ?_;refine rW [] ?_;refine dW ?_;refine dB true ?_;refine dW ?_;refine dG ?_;refine dG ?_;refine dG ?_;refine mf true ?_;refine dW ?_;refine eW ?_;refine ae ?_;refine eB ?_;refine ae ?_;refine rW [] ?_;refine dW ?_;refine dW ?_;refine kt (α := Option Addr × Nat) (mk := fun p => .tuple #[.agg #[.int .i64 (n : Int), .int .i64 (n : Int), .slice p.1 (n * n) p.2], .int .i64 0]) (ao := fun p => p.1) (xs := fun _ => aA n (bb n n xs ms) (n * n)) (A := fun _ => True) (fun w' H => HC.out.2.1 s ms po pc w' h HI.out (H.all (.gI po ms) (by simp)) (H.all (.ls mw ao xs) (by simp))) fun qp => ?_;refine dW ?_;refine dW ?_;refine dW ?_;refine aW fun g8 => ?_;refine sG ?_;refine dW ?_;refine eW ?_;refine ae ?_;refine rW [] ?_;refine dW ?_;refine sY (x := -(((s + 1 : Nat) : Int) * c (s + 1))) (z := .int .i64 0) (fun w' H => HC.out.2.2.1 s ms qp.1 qp.2 w' h HI.out (H.all (.gI qp.1 (aA n (bb n n xs ms) (n * n))) (by simp))) fun pt => ?_;refine dW ?_;refine dW ?_;refine dW ?_;refine aW fun g10 => ?_;refine sG ?_;refine dW ?_;refine eW ?_;refine ae ?_;refine rW [] ?_;refine dW ?_;refine cN (x := ((s + 1 : Nat) : Int) * c (s + 1)) (fun w' H => by
    have := ly (av pt) (-(((s + 1 : Nat) : Int) * c (s + 1))) w' (ak.int (H.all (.own w.heap.size (av pt) (-(((s + 1 : Nat) : Int) * c (s + 1)))) (by simp [av])) (by rw [Int.natAbs_neg]; exact Nat.le_trans (HC.out.2.2.2.1 s ms h HI.out) (by omega)));rw [Int.neg_neg] at this; exact this) fun pn => ?_
   refine dW ?_;refine cN (x := ((s + 1 : Nat) : Int)) (fun w' H => gY ((s + 1 : Nat) : Int) w' (by omega) (by omega)) fun pk => ?_;refine sY (x := c (s + 1)) (z := .int .i64 0) (fun w' H => by
    have := fe (av pn) (av pk) (((s + 1 : Nat) : Int) * c (s + 1)) ((s + 1 : Nat) : Int) w' (ak.int (H.all (.own w.heap.size (av pn) (((s + 1 : Nat) : Int) * c (s + 1))) (by simp [av])) (Nat.le_trans (HC.out.2.2.2.1 s ms h HI.out) (by omega))) (ak.int (H.all (.own w.heap.size (av pk) ((s + 1 : Nat) : Int)) (by simp [av])) (by rw [Int.natAbs_natCast]; exact Nat.le_trans (au (k := 1) (by rw [Nat.pow_one]; unfold W; omega)) (by omega))) (by omega) (Int.dvd_mul_right ..);rw [Int.mul_ediv_cancel_left _ (by omega)] at this; exact this) fun pc1 => ?_
   refine dW ?_;refine dW ?_;refine dW ?_;refine aW fun g12 => ?_;refine sG ?_;refine dW ?_;refine eW ?_;refine ae ?_;refine rW [] ?_;refine dW ?_;refine dW ?_;refine kt (α := Option Addr × Nat) (mk := fun p => .tuple #[.agg #[.int .i64 (n : Int), .int .i64 (n : Int), .slice p.1 (n * n) p.2], .int .i64 0]) (ao := fun p => p.1) (xs := fun _ => aA n bK (n * n)) (A := fun _ => True) (fun w' H => rz n w' hn) fun qV => ?_;refine dW ?_;refine dW ?_;refine dW ?_;refine aW fun g14 => ?_;refine sG ?_;refine dW ?_;refine eW ?_;refine ae ?_;refine rW [] ?_;refine dW ?_;refine dW ?_;refine kt (α := Nat) (mk := fun q => .tuple #[.agg #[.int .i64 (n : Int), .int .i64 (n : Int), .slice (some ⟨q, 0, none⟩) (n * n) (n * n)], .int .i64 0]) (ao := fun q => some ⟨q, 0, none⟩) (xs := fun _ => (aA n bK (n * n)).map (c (s + 1) * ·)) (A := fun _ => True) (fun w' H => HC.out.2.2.2.2.2.1 s ms qV.1 qV.2 pc1 w' h HI.out (ak.int (H.all (.own w.heap.size (av pc1) (c (s + 1))) (by simp [av])) (HC.out.2.2.2.2.1 s ms h HI.out)) (H.all (.gI qV.1 (aA n bK (n * n))) (by simp))) fun qs => ?_;refine dW ?_;refine dW ?_;refine dW ?_;refine sW ?_;refine eW ?_;refine ae ?_;refine rW [] ?_;refine dW ?_;refine dW ?_;refine kt (α := (Option Addr × Nat) × List Int) (mk := fun p => .tuple #[.agg #[.int .i64 (n : Int), .int .i64 (n : Int), .slice p.1.1 (n * n) p.1.2], .int .i64 0]) (ao := fun p => p.1.1) (xs := fun p => p.2) (A := fun p => jm n mw N (s + 1) p.2) (hne := ⟨((none, 0), [])⟩) (fun w' H => HC.out.2.2.2.2.2.2.1 s ms qp.1 qp.2 qs w' h HI.out (H.all (.gI qp.1 (aA n (bb n n xs ms) (n * n))) (by simp)) (H.all (.gI (some ⟨qs, 0, none⟩) ((aA n bK (n * n)).map (c (s + 1) * ·))) (by simp))) fun qa => ?_;refine dW ?_;refine dW ?_;refine dW ?_;refine sW ?_;refine dW ?_;refine eW ?_;refine ae ?_;refine kI (A := jm n mw N (s + 1) qa.2 /\ ∀ b o, qa.1.1 = some ⟨b, o, none⟩ -> w.heap.size <= b) (by simp) fun hq => ?_;have HA2 := Lib.hid hq;clear hq;refine rW [] ?_;refine dW ?_;refine dE (cQ (a := s + 1) (by omega)) ?_;refine dW ?_;refine eW ?_;refine ae ?_;exact bJ (s + 1, qa.1, qa.2) ⟨⟨.inr h, HA2.out.1, HA2.out.2⟩, by show n - (s + 1) < n - s; omega⟩
 · have h01 : ¬ ((s + 1 : Nat) : Int) < (n : Int) := by omega
   refine ae ?_;refine rW [] ?_;refine dW ?_;refine dB true ?_;refine dW ?_;refine dG ?_;refine dG ?_;refine dG ?_;refine mf false ?_;by_cases h0 : n = 0
   · have HN := Lib.hid h0;have h02 : ¬ (0 : Int) < (n : Int) := by omega
     clear h0;refine dW ?_;refine eW ?_;refine ae ?_;refine cd ?_;refine ae ?_;refine rW [] ?_;refine dW ?_;refine dB true ?_;refine dW ?_;refine dG ?_;refine dG ?_;refine mf false ?_;refine dW ?_;refine dW ?_;refine uG ?_;refine uG ?_;refine uG ?_;refine uG ?_;refine dW ?_;refine eW ?_;refine ae ?_;refine cd ?_;refine ae ?_;refine rW [] ?_;refine dW ?_;refine dW ?_;refine sW ?_;refine dW ?_;refine eW ?_;refine ae ?_;refine ej fun w' H => ?_;exact ⟨_, _, nT (H.all (.row g2 24 [.int .i64 (n : Int), .int .i64 (n : Int), .slice po (n * n) pc]) (by simp)), dA, ⟨((po, pc), ms), rfl, H.all (.gI po ms) (by simp), by have h1 := HI.out.len; rw [HN.out] at h1 ⊢; exact ur h1, HFr.out⟩, H.below⟩
   · have h02 : (0 : Int) < (n : Int) := by omega
     obtain rfl : s = n - 1 := by omega
     have HE := Lib.hid (HC.out.2.2.2.2.2.2.2.2.1 ms HI.out (by omega));refine dW ?_;refine eW ?_;refine ae ?_;refine cd ?_;refine ae ?_;refine rW [] ?_;refine dW ?_;refine dB true ?_;refine dW ?_;refine dG ?_;refine dG ?_;refine mf true ?_;refine dW ?_;refine dW ?_;refine dG ?_;refine dG ?_;refine dGE (remI2 (a := n) (by omega)) ?_;by_cases he : n % 2 = 0
     · have h03 : ((n % 2 : Nat) : Int) = 0 := by omega
       refine mf true ?_;refine dW ?_;refine eW ?_;refine ae ?_;refine eB ?_;refine ae ?_;refine rW [] ?_;refine cN (x := -1) (fun w' H => gY (-1) w' (by omega) (by omega)) fun pm => ?_;refine dW ?_;refine kt (α := Nat) (mk := fun q => .tuple #[.agg #[.int .i64 (n : Int), .int .i64 (n : Int), .slice (some ⟨q, 0, none⟩) (n * n) (n * n)], .int .i64 0]) (ao := fun q => some ⟨q, 0, none⟩) (xs := fun _ => ms.map ((-1) * ·)) (A := fun _ => True) (fun w' H => HC.out.2.2.2.2.2.2.2.2.2.1 (n - 1) ms po pc pm w' (by omega) HI.out (ak.int (H.all (.own w.heap.size (av pm) (-1)) (by simp [av])) (au (k := 1) (by rw [Nat.pow_one]; unfold W; decide))) (H.all (.gI po ms) (by simp))) fun qz => ?_;refine dW ?_;refine dW ?_;refine sW ?_;refine dW ?_;refine eW ?_;refine ae ?_;refine ej fun w' H => ?_;have HQ : True /\ ∀ b o, (some ⟨qz, 0, none⟩ : Option Addr) = some ⟨b, o, none⟩ -> w.heap.size <= b := H.all (.pr (True /\ ∀ b o, (some ⟨qz, 0, none⟩ : Option Addr) = some ⟨b, o, none⟩ -> w.heap.size <= b)) (by simp);exact ⟨_, _, nT (H.all (.row g2 24 [.int .i64 (n : Int), .int .i64 (n : Int), .slice (some ⟨qz, 0, none⟩) (n * n) (n * n)]) (by simp)), dA, ⟨((some ⟨qz, 0, none⟩, n * n), ms.map ((-1) * ·)), rfl, H.all (.gI (some ⟨qz, 0, none⟩) (ms.map ((-1) * ·))) (by simp), HE.out.1 he, HQ.2⟩, H.below⟩
     · have h03 : ¬ ((n % 2 : Nat) : Int) = 0 := by omega
       refine mf false ?_;refine dW ?_;refine eW ?_;refine ae ?_;refine cd ?_;refine ae ?_;refine rW [] ?_;refine dW ?_;refine dW ?_;refine sW ?_;refine dW ?_;refine eW ?_;refine ae ?_;refine ej fun w' H => ?_;exact ⟨_, _, nT (H.all (.row g2 24 [.int .i64 (n : Int), .int .i64 (n : Int), .slice po (n * n) pc]) (by simp)), dA, ⟨((po, pc), ms), rfl, H.all (.gI po ms) (by simp), HE.out.2 he, HFr.out⟩, H.below⟩
end Go.Proofs.Ytjjlmfmoihooiaa
namespace Go.Proofs.Ytjjlmfmoihooiaa
theorem cH.pick {k m : Nat} {H : Mx} {l c : Nat -> Nat} (h : cH k m H l) (e : ∀ t < k, c t = l t) : cH k k (jn k c H) fun i => i := by
 refine ⟨⟨fun i j hij _ => hij, fun i hi => hi, fun i hi j hj => ?_, fun i hi => ?_⟩, fun i j hij hj => ?_⟩
 · unfold jn;rw [if_pos (by omega), e j (by omega)];exact h.zero i hi _ (h.inc j i hj hi)
 · unfold jn;rw [if_pos hi, e i hi];exact h.pos i hi
 · unfold jn;rw [if_pos hj, if_pos hj, e j hj];exact h.red i j hij hj
section
variable {n m k : Nat} {xs zs : List Int} {c1 c2 : Nat -> Nat}
theorem dD.spEq (h : dD n m xs k c1 c2 zs) {hs : List Int} (hsp : aO n (ai xs n m) k (ai hs k m)) : aO k (ai zs k k) k (jn k c2 (ai hs k m)) := by
 refine ⟨fun t ht => ?_, fun t ht => ?_⟩
 · refine ((h.2.2.2.1.sp _).1 (Sp.row _ ht)).least (P := Sp k (jn k c2 (ai hs k m))) ⟨⟨fun _ => 0, fun i => (aZ fun t _ => Int.zero_mul _).symm⟩, fun _ _ h k => h.add k, fun s _ h => h.smul s⟩ (fun i hi => ?_) fun i hi => ?_
   · refine ((hsp.1 i hi).jn (k := k) (c := c2)).congr fun b => ?_;rw [np (n := n) (r := n) (fun t ht => by rw [show (List.range n).getD t 0 = t by simp [ht]]; exact ht) h.2.1.nG hi b, show (List.range n).getD i 0 = i by simp [hi]]; rfl
   · have h2 := qY (fun a b => ai xs n m (c1 a) (c2 b)) hi;rw [<- ng (n := n) h.1.nG h.2.1.nG] at h2;have h3 : Sp k (jn k c2 (ai hs k m)) (eD (aM m xs k c1 c2) i) := h2.trans fun a ha => (((hsp.1 (c1 a) (h.1.nG a ha)).jn (k := k) (c := c2))).congr fun b => rfl;rcases Int.natAbs_eq (aM m xs k c1 c2) with e | e
     · rw [<- e]; exact h3
     · refine (h3.smul (-1)).congr fun b => ?_;unfold eD; split <;> omega
 · obtain ⟨y, hy⟩ := hsp.2 t ht;refine Sp.trans (E := ai zs k k) (n := k) (F := jn k c2 (ai xs n m)) (m := n) ?_ fun i hi => h.uJ hi;exact (show Sp n (ai xs n m) (ai hs k m t) from ⟨y, hy⟩).jn
theorem dD.eqH (h : dD n m xs k c1 c2 zs) {hs : List Int} {l : Nat -> Nat} (hH : cH k m (ai hs k m) l) (hsp : aO n (ai xs n m) k (ai hs k m)) {t b : Nat} (ht : t < k) (hb : b < k) : ai zs k k t b = ai hs k m t (c2 b) := by
 have hl := (h.2.1.leads hH hsp).2;have := (h.2.2.2.1.herm.unique (hH.pick hl) (h.spEq hsp)).2.2 t ht b;rw [this];unfold jn;rw [if_pos hb]
theorem uv {n m : Nat} (f : Nat -> Int) (g : Nat -> Nat -> Int) (q : Nat -> Int) : (sm n fun r => (sm m fun s => f s * g s r) * q r) = sm m fun s => f s * sm n fun r => g s r * q r := by
 have e1 : (sm n fun r => (sm m fun s => f s * g s r) * q r) = sm n fun r => sm m fun s => f s * (g s r * q r) := aj fun r _ => by
  rw [<- dN];exact aj fun s _ => Int.mul_assoc ..
 rw [e1, iy];exact aj fun s _ => bg ..
theorem dD.form (h : dD n m xs k c1 c2 zs) {hs : List Int} {l : Nat -> Nat} (hH : cH k m (ai hs k m) l) (hsp : aO n (ai xs n m) k (ai hs k m)) {adj : Mx} (ha : ∀ i < k, ∀ j < k, (sm k fun r => ai xs n m (c1 i) (c2 r) * adj r j) = aM m xs k c1 c2 * uM i j) {t j : Nat} (ht : t < k) :
 (sm k fun r => (sm k fun b => ai zs k k t b * adj b r) * ai xs n m (c1 r) j) = aM m xs k c1 c2 * ai hs k m t j := by
 obtain ⟨D, hD⟩ : ∃ D, aM m xs k c1 c2 = D := ⟨_, rfl⟩;rw [hD] at ha ⊢;have h1 := h.1;rw [qP] at h1;obtain ⟨nu, R, d, hb⟩ := h1;have hrow : ∀ i, i < n -> Sp k (fun s => ai xs n m (c1 s)) fun j => d * ai xs n m i j := fun i hi => hb.xt (fun i j hj => j8 hj i) (fun i j hi => da j hi) hi;have hHt : Sp k (fun s => ai xs n m (c1 s)) fun j => d * ai hs k m t j := by
  obtain ⟨x, hx⟩ := hsp.2 t ht;refine (Sp.sm (x := x) hrow).congr fun j => ?_;show d * ai hs k m t j = _;rw [hx, <- bg];exact aj fun i _ => by ac_rfl
 obtain ⟨y, hy⟩ := hHt;refine Int.eq_of_mul_eq_mul_left hb.d0 ?_;have e1 : ∀ r, r < k -> d * (sm k fun b => ai zs k k t b * adj b r) = D * y r := fun r hr => by
  have q1 : d * (sm k fun b => ai zs k k t b * adj b r) = sm k fun b => (sm k fun s => y s * ai xs n m (c1 s) (c2 b)) * adj b r := by
   rw [<- bg];exact aj fun b hb' => by
    rw [h.eqH hH hsp ht hb', <- hy (c2 b)];exact (Int.mul_assoc ..).symm
  rw [q1, uv];have q2 : (sm k fun s => y s * sm k fun b => ai xs n m (c1 s) (c2 b) * adj b r) = sm k fun s => y s * (D * uM s r) := aj fun s hs' => by rw [ha s hs' r hr]
  rw [q2, du r hr fun s _ hsr => by unfold uM; rw [if_neg hsr]; simp];unfold uM;rw [if_pos rfl, Int.mul_one, Int.mul_comm]
 have e2 : d * (sm k fun r => (sm k fun b => ai zs k k t b * adj b r) * ai xs n m (c1 r) j) = sm k fun r => D * (y r * ai xs n m (c1 r) j) := by
  rw [<- bg];exact aj fun r hr => by rw [<- Int.mul_assoc, e1 r hr, Int.mul_assoc]
 rw [e2, bg, <- hy j]
 ac_rfl
theorem dD.jh {mw : Nat} (h : dD n m xs k c1 c2 zs) (hn : n <= 66) (hb : ∀ x ∈ xs, x.natAbs < W ^ mw) : ∃ hs l, hs.length = k * m /\ cH k m (ai hs k m) l /\ aO n (ai xs n m) k (ai hs k m) := by
 obtain ⟨hs, K, hB, _⟩ := l6 (c := m) (m := mw) (n := n) (E := ai xs n m) hn (fun i b _ => gd (Nat.pow_pos (by unfold W; omega)) hb i b) fun i b hb => da i hb;obtain ⟨l, hl⟩ := hB.herm;obtain ⟨rfl, _⟩ := h.2.1.leads hl hB.sp;exact ⟨hs, l, hB.len, hl, hB.sp⟩
theorem nk {r c : Nat} {f : Nat -> Nat -> Int} {i j : Nat} (hi : i < r) (hj : j < c) : gi (aA c f (r * c)) (i * c + j) = f i j := eO f hi hj
theorem dD.formL {mw : Nat} (h : dD n m xs k c1 c2 zs) {hs al : List Int} {l : Nat -> Nat} (hhl : hs.length = k * m) (hH : cH k m (ai hs k m) l) (hsp : aO n (ai xs n m) k (ai hs k m)) (ha : nw k mw (aA k (bA m xs ((List.range k).map c1) ((List.range k).map c2)) (k * k)) al) {q : Nat} (hq : q < k * m) :
 gi (aA m (bb k m (aA k (bb k k zs al) (k * k)) (aA m (bA m xs ((List.range k).map c1) (List.range m)) (k * m))) (k * m)) q = aM m xs k c1 c2 * gi hs q := by
 have hm : 0 < m := by
  rcases Nat.eq_zero_or_pos m with e | e
  · subst e; omega
  · exact e
 obtain ⟨t, j, ht, hj, rfl⟩ : ∃ t j, t < k /\ j < m /\ q = t * m + j := ⟨q / m, q % m, Nat.div_lt_of_lt_mul (by rw [Nat.mul_comm]; exact hq), Nat.mod_lt _ hm, by rw [Nat.mul_comm]; exact (Nat.div_add_mod q m).symm⟩;rw [nk ht hj];have e1 := h.form hH hsp (adj := ai al k k) (t := t) (j := j) (fun i hi j hj => by
  have := ha.2.1 i hi j hj;have e : (sm k fun r => ai xs n m (c1 i) (c2 r) * ai al k k r j) = sm k fun l => ai (aA k (bA m xs ((List.range k).map c1) ((List.range k).map c2)) (k * k)) k k i l * ai al k k l j := aj fun r hr => by
   rw [nN hi hr];unfold bA;rw [ft hi, ft hr, aS (h.1.nG i hi) (h.2.1.nG r hr)]; rfl
  rw [e, this]; rfl) ht
 rw [show gi hs (t * m + j) = ai hs k m t j by rw [aS ht hj]; rfl, <- e1];refine aj fun r hr => ?_;rw [nk ht hr, nk hr hj];have e2 : bb k k zs al t r = sm k fun b => ai zs k k t b * ai al k k b r := aj fun b hb => by rw [aS ht hb, aS hb hr]; rfl
 have e3 : bA m xs ((List.range k).map c1) (List.range m) r j = ai xs n m (c1 r) j := by
  unfold bA;rw [ft hr, show (List.range m).getD j 0 = j by simp [hj], aS (h.1.nG r hr) hj]; rfl
 rw [e2, e3]
theorem ry {hs ys : List Int} {l : Nat -> Nat} (hk : k <= n) (hhl : hs.length = k * m) (hH : cH k m (ai hs k m) l) (hsp : aO n (ai xs n m) k (ai hs k m)) (hyl : ys.length = n * m) (hy : ∀ q, gi ys q = if q < k * m then gi hs q else 0) : xe n m xs ys k l := by
 have e : ∀ i j, ai ys n m i j = if i < k then ai hs k m i j else 0 := fun i j => by
  by_cases hi : i < n /\ j < m
  · rw [aS hi.1 hi.2];have h1 := hy (i * m + j);have h2 : ys.getD (i * m + j) 0 = gi ys (i * m + j) := rfl;rw [h2, h1];by_cases hik : i < k
    · rw [if_pos hik, if_pos (bY hik hi.2), aS hik hi.2]; rfl
    · rw [if_neg hik, if_neg];have := Nat.mul_le_mul_right m (show k <= i by omega);omega
  · have h1 : ai ys n m i j = 0 := by unfold ai; rw [if_neg hi]
    rw [h1];by_cases hik : i < k
    · rw [if_pos hik];unfold ai;rw [if_neg (fun q => hi ⟨by omega, q.2⟩)]
    · rw [if_neg hik]
 refine ⟨hyl, hk, hH.congr (fun a ha b => by rw [e, if_pos ha]), fun i hi b => by rw [e, if_neg (by omega)], hsp.trans (aO.of_eq fun i hi j => by rw [e, if_pos hi])⟩
end
theorem lP.wl2 {n m mw : Nat} {xs : List Int} {x : Int} (h : lP n m xs x) (hn : n <= 64) (hx : ∀ y ∈ xs, ag y.natAbs <= mw) : ag x.natAbs <= 64 * (mw + 1) := by
 obtain ⟨k, c1, c2, zs, hN, rfl⟩ := h;have h1 := Int.natAbs_dvd_natAbs.2 hN.core;have h2 : 0 < (aM m xs k c1 c2).natAbs := Int.natAbs_pos.2 (hN.1.core hN.2.1);exact Nat.le_trans (aG (Nat.le_of_dvd h2 h1)) (eZ (Nat.le_trans (cR.lt hN.2.1).1 hn) hx)
theorem um {m : Nat} {H : Mx} {l : Nat -> Nat} (hH : cH m m H l) (hw : ∀ i j, m <= j -> H i j = 0) {i : Nat} (hi : i < m) : Sp m H (eD (aF m H) i) := by
 refine (qY H hi).trans fun a ha => ?_;refine (Sp.row H ha).congr fun b => ?_;by_cases hb : b < m
 · rw [if_pos hb]
 · rw [if_neg hb, hw a b (by omega)]
theorem qK {m : Nat} {H : Mx} {l : Nat -> Nat} (hH : cH m m H l) : ∀ i < m, l i = i := by
 have h1 : ∀ i, i < m -> i <= l i := fun i => by
  induction i with
  | zero => intro _; exact Nat.zero_le _
  | succ i ih => intro h; have := ih (by omega); have := hH.inc i (i + 1) (by omega) h; omega
 have h2 : ∀ d i, i + d + 1 = m -> l i + d < m := fun d => by
  induction d with
  | zero => intro i h; exact hH.lt i (by omega)
  | succ d ih => intro i h; have := ih (i + 1) (by omega); have := hH.inc i (i + 1) (by omega) (by omega); omega
 intro i hi;have := h1 i hi;have := h2 (m - 1 - i) i (by omega);omega
theorem follows {n m : Nat} {xs hs zs : List Int} {l : Nat -> Nat} {v d : Int} (hhl : hs.length = m * m) (hH : cH m m (ai hs m m) l) (hsp : aO n (ai xs n m) m (ai hs m m)) (hv : v = tg (ai hs m m) l m) (hd : v ∣ d) (hz : j3 m n d (ai xs n m) zs) : zs = hs := by
 have hl := qK hH;have hvd : (aF m (ai hs m m)).natAbs = v.natAbs := by
  have hp := lR m fun t ht => hH.pos t ht;rw [hv, hp.2, iw m (ai hs m m) l (fun i hi => hH.lt i hi) (fun i hi j hj e => by rw [hl i hi, hl j hj] at e; exact e) fun i hi j hj => hH.zero i hi j hj]
 have he : ∀ i < m, Sp m (ai hs m m) (eD ((d.natAbs : Nat) : Int) i) := fun i hi => by
  have h1 := um hH (fun i j hj => da i hj) hi;obtain ⟨c, hc⟩ : ∃ c : Int, ((d.natAbs : Nat) : Int) = c * aF m (ai hs m m) := by
   have h2 : (aF m (ai hs m m)).natAbs ∣ d.natAbs := by rw [hvd]; exact Int.natAbs_dvd_natAbs.2 hd
   obtain ⟨q, hq⟩ := h2;rcases Int.natAbs_eq (aF m (ai hs m m)) with e | e
   · exact ⟨q, by rw [hq, Int.natCast_mul, <- e, Int.mul_comm]⟩
   · exact ⟨-q, by rw [hq, Int.natCast_mul, Int.neg_mul, <- Int.mul_neg, show -aF m (ai hs m m) = (((aF m (ai hs m m)).natAbs : Nat) : Int) by omega, Int.mul_comm]⟩
  refine (h1.smul c).congr fun b => ?_;unfold eD;split
  · exact hc
  · rw [Int.mul_zero]
 have hE : aO m (ai zs m m) m (ai hs m m) := by
  refine ⟨fun t ht => ?_, fun t ht => ?_⟩
  · refine ((hz.2.1.sp _).1 (Sp.row _ ht)).least (P := Sp m (ai hs m m)) ⟨⟨fun _ => 0, fun i => (aZ fun t _ => Int.zero_mul _).symm⟩, fun _ _ h k => h.add k, fun s _ h => h.smul s⟩ (fun i hi => hsp.1 i hi) fun i hi => he i hi
  · exact Sp.trans (hsp.2 t ht) fun i hi => (hz.2.1.sp _).2 (LD.row hi)
 have := hz.2.1.herm.unique hH hE;exact tE hz.1 hhl fun i j hi hj => this.2.2 i hi j
end Go.Proofs.Ytjjlmfmoihooiaa
namespace Go.Proofs.Ytjjlmfmoihooiaa
open Go.RowKit
theorem lstNw {w w' : World} {ao : Option Addr} {r c K cap : Nat} {ps : List P4} {xs : List Int} (hl : mu ao K cap ps w') (hn : bC w' ps xs) (hS : ∀ b o, ao = some ⟨b, o, none⟩ -> w.heap.size <= b) (hb : Below w.heap.size w w') : ∃ p : (Option Addr × Nat) × List P4, (Ending.returned (.agg #[.int .i64 (r : Int), .int .i64 (c : Int), .slice ao K cap]) = .returned (.agg #[.int .i64 (r : Int), .int .i64 (c : Int), .slice p.1.1 K p.1.2])) /\ Nw w w' [.fT p.1.1 K p.1.2 p.2, .ns p.2 xs] :=
 ⟨((ao, cap), ps), rfl, hb, fun e he => by
  rcases List.mem_cons.1 he with rfl | he
  · exact ⟨hl, fun b ⟨o, e⟩ => hS b o e⟩
  · rcases List.mem_singleton.1 he with rfl;exact ⟨hn, fun _ h => h.elim⟩, .cons (fun x hx => by rcases List.mem_singleton.1 hx with rfl; exact ⟨fun _ _ _ h => h, fun q => nomatch q⟩) (List.pairwise_singleton ..)⟩
set_option maxRecDepth 100000 in
set_option maxHeartbeats 2000000 in
theorem tR (r c : Nat) (la : Option Addr) (cap L : Nat) (xs : List Int) (w : World) (hr : r <= 64) (hc : c <= 64) (hx : xs.length <= min r c) (hA : aI w L la xs) (hL : L <= 17592186044415) :
 Calls Try.prog 69 #[.int .i64 (r : Int), .int .i64 (c : Int), .slice la xs.length cap] w fun e w' => ∃ p : (Option Addr × Nat) × List P4, e = .returned (.tuple #[.agg #[.int .i64 (r : Int), .int .i64 (c : Int), .slice p.1.1 (r * c) p.1.2], .int .i64 0]) /\ Nw w w' [.fT p.1.1 (r * c) p.1.2 p.2, .ns p.2 (aA c (dM xs) (r * c))] := by
 have s1 : bG (r : Int) = true := by unfold bG; simp; omega
 have s2 : bG (c : Int) = true := by unfold bG; simp; omega
 have hS1 : ∀ w', Calls Try.prog 43 #[.int .i64 (r : Int)] w' fun e w'' => e = .returned (.bool true) /\ Below w'.heap.size w' w'' := fun w' => (lk r w').mono fun e w'' ⟨h1, h2⟩ => ⟨by rw [h1, s1], h2 ▸ Below.refl _ _⟩;have hS2 : ∀ w', Calls Try.prog 43 #[.int .i64 (c : Int)] w' fun e w'' => e = .returned (.bool true) /\ Below w'.heap.size w' w'' := fun w' => (lk c w').mono fun e w'' ⟨h1, h2⟩ => ⟨by rw [h1, s2], h2 ▸ Below.refl _ _⟩;clear s1 s2;refine bB (S0 := fun _ => False) Try.func69 ((Fr.nil _ w).l hA (by simp)) ?_;refine ae ?_;refine rW [] ?_;refine aW fun g5 => ?_;refine aW fun g6 => ?_;refine dW ?_;refine eW ?_;refine ae ?_;refine rW [] ?_;refine dW ?_;refine cV (fun w' H => hS1 w') ?_;refine dW ?_;refine dW ?_;refine dG ?_;refine xr (fun w' H => hS2 w') ?_;refine dG ?_;refine dW ?_;refine eW ?_;refine ae ?_;refine cd ?_;refine ae ?_;refine rW [] ?_;refine dW ?_;refine dW ?_;refine dW ?_;refine dW ?_;refine dE (minI r c) ?_;obtain ⟨k, hk⟩ : ∃ k, min r c = k := ⟨_, rfl⟩;rw [hk] at hx ⊢;clear hk;refine dB false ?_;refine eW ?_;refine ae ?_;refine cd ?_;refine ae ?_;refine rW [] ?_;refine dW ?_;refine dW ?_;refine fW ?_;refine cG (α := (Option Addr × Nat) × List P4) (mk := fun p => .agg #[.int .i64 (r : Int), .int .i64 (c : Int), .slice p.1.1 (r * c) p.1.2]) (ens := fun p => [.fT p.1.1 (r * c) p.1.2 p.2, .ns p.2 (aA c (dM xs) (r * c))]) (hne := ⟨((none, 0), [])⟩)
  (fun w' H => (oO 87 (fun _ _ => by go_simp) #[.pointer (some ⟨g5, 0, none⟩)] r c (dM xs) w' hr hc (fun i j w2 hi hj hb => by
   have h1 : ah w' g5 22 [.slice la xs.length cap] := H.m1;have h2 : aI w' L la xs := H.m2;exact wy i j g5 la cap L xs w2 ((h1.below hb h1.lt).cell 0) (h2.below hb) hL)).mono (by
    rintro e w3 ⟨⟨ao, cap', ps, rfl, hl, hn, hS⟩, hb⟩;exact lstNw hl hn hS hb)) fun q => ?_
 refine sW ?_;refine dW ?_;refine eW ?_;refine ae ?_;refine ej fun w' H => ?_;refine ⟨_, _, nT H.m2, dA, q, rfl, H.below, fun e he => ?_, .cons (fun x hx => by rcases List.mem_singleton.1 hx with rfl; exact ⟨fun _ _ _ h => h, fun q => nomatch q⟩) (List.pairwise_singleton ..)⟩;rcases List.mem_cons.1 he with rfl | he
 · exact ⟨H.m0, fun b hb => (H.own _ (List.mem_cons_self ..) rfl b hb).elim (fun h => h.elim) id⟩
 · rcases List.mem_singleton.1 he with rfl;exact ⟨H.m1, fun _ h => h.elim⟩
set_option maxRecDepth 100000 in
set_option maxHeartbeats 1000000 in
theorem tM (r c : Nat) (w : World) (hr : r <= 64) (hc : c <= 64) :
 Calls Try.prog 40 #[.int .i64 (r : Int), .int .i64 (c : Int)] w fun e w' => ∃ p : (Option Addr × Nat) × List P4, e = .returned (.tuple #[.agg #[.int .i64 (r : Int), .int .i64 (c : Int), .slice p.1.1 (r * c) p.1.2], .int .i64 0]) /\ Nw w w' [.fT p.1.1 (r * c) p.1.2 p.2, .ns p.2 (aA c (dM []) (r * c))] := by
 have HD := Lib.hid (fun w' => tR r c none 0 0 [] w' hr hc (Nat.zero_le _) (fun h => absurd h (Nat.not_lt_zero _)) (by omega));refine bB (S0 := fun _ => False) Try.func40 (Fr.nil _ w) ?_;refine ae ?_;refine rW [] ?_;refine aW fun g4 => ?_;refine dW ?_;refine eW ?_;refine ae ?_;refine rW [] ?_;refine dW ?_;refine dW ?_;refine cG (α := (Option Addr × Nat) × List P4) (mk := fun p => .tuple #[.agg #[.int .i64 (r : Int), .int .i64 (c : Int), .slice p.1.1 (r * c) p.1.2], .int .i64 0]) (ens := fun p => [.fT p.1.1 (r * c) p.1.2 p.2, .ns p.2 (aA c (dM []) (r * c))]) (hne := ⟨((none, 0), [])⟩) (fun w' H => HD.out w') fun q => ?_;refine dW ?_;refine dW ?_;refine sW ?_;refine dW ?_;refine eW ?_;refine ae ?_;refine ej fun w' H => ?_;refine ⟨_, _, nT (H.all (.row g4 24 [.int .i64 (r : Int), .int .i64 (c : Int), .slice q.1.1 (r * c) q.1.2]) (by simp)), dA, q, rfl, H.below, fun e he => ?_, .cons (fun x hx => by rcases List.mem_singleton.1 hx with rfl; exact ⟨fun _ _ _ h => h, fun q => nomatch q⟩) (List.pairwise_singleton ..)⟩;rcases List.mem_cons.1 he with rfl | he
 · exact ⟨H.m0, fun b hb => (H.own _ (List.mem_cons_self ..) rfl b hb).elim (fun h => h.elim) id⟩
 · rcases List.mem_singleton.1 he with rfl;exact ⟨H.m1, fun _ h => h.elim⟩
set_option maxRecDepth 100000 in
set_option maxHeartbeats 1000000 in
theorem xQ (r c : Int) (ao : Option Addr) (len cap : Nat) (w : World) (hr : -9223372036854775808 <= r /\ r <= 9223372036854775807) (hc : -9223372036854775808 <= c /\ c <= 9223372036854775807) (hs : bE r c len = false) :
 Calls Try.prog 23 #[.agg #[.int .i64 r, .int .i64 c, .slice ao len cap]] w fun e w' => e = .returned (.tuple #[.slice none 0 0, .int .i64 1]) /\ Below w.heap.size w w' := by
 have hC := fun w' => dx r c ao len cap w' hr hc;rw [jk hs] at hC;have HC := Lib.hid hC;clear hC hs;refine bB (S0 := fun _ => False) Try.func23 (Fr.nil _ w) ?_;refine ae ?_;refine rW [] ?_;refine aW fun g1 => ?_;refine dW ?_;refine dW ?_;refine eW ?_;refine ae ?_;refine rW [] ?_;refine dW ?_;refine cV (v := .int .i64 1) (fun w' H => HC.out w') ?_;refine dW ?_;refine eW ?_;refine ae ?_;refine rW [] ?_;refine dW ?_;refine dB true ?_;refine eW ?_;refine ae ?_;refine eB ?_;refine ae ?_;refine rW [] ?_;refine dW ?_;refine dW ?_;refine dW ?_;refine eW ?_;refine ae ?_;refine ej fun w' H => ?_;exact ⟨_, _, dA, dA, rfl, H.below⟩
set_option maxRecDepth 100000 in
set_option maxHeartbeats 1000000 in
theorem wL (r c : Int) (ao : Option Addr) (len cap : Nat) (w : World) (hr : -9223372036854775808 <= r /\ r <= 9223372036854775807) (hc : -9223372036854775808 <= c /\ c <= 9223372036854775807) (hs : bE r c len = false) :
 Calls Try.prog 6 #[.agg #[.int .i64 r, .int .i64 c, .slice ao len cap]] w fun e w' => e = .returned (.tuple #[.int .i64 0, .int .i64 1]) /\ Below w.heap.size w w' := by
 have HC := Lib.hid (fun w' => xQ r c ao len cap w' hr hc hs);clear hs;refine bB (S0 := fun _ => False) Try.func6 (Fr.nil _ w) ?_;refine ae ?_;refine rW [] ?_;refine aW fun g1 => ?_;refine dW ?_;refine dW ?_;refine eW ?_;refine ae ?_;refine rW [] ?_;refine dW ?_;refine cV (v := .tuple #[.slice none 0 0, .int .i64 1]) (fun w' H => HC.out w') ?_;refine dW ?_;refine dW ?_;refine dW ?_;refine dW ?_;refine dW ?_;refine eW ?_;refine ae ?_;refine rW [] ?_;refine dW ?_;refine dW ?_;refine dW ?_;refine dW ?_;refine dW ?_;refine eW ?_;refine ae ?_;refine ej fun w' H => ?_;exact ⟨_, _, dA, dA, rfl, H.below⟩
set_option maxRecDepth 100000 in
set_option maxHeartbeats 1000000 in
theorem vE (n m nm mw cap : Nat) (ao : Option Addr) (xs : List Int) (w : World) (hn : n <= 64) (hm : m <= 64) (hmw : mw <= 1048577) (hA : aI w mw ao xs) (hs : xs.length = n * m) (hnm : xs.length = nm) :
 Calls Try.prog 6 #[.agg #[.int .i64 (n : Int), .int .i64 (m : Int), .slice ao nm cap]] w fun e w' => (∃ p : Nat × (Nat -> Nat), e = .returned (.tuple #[.int .i64 (p.1 : Int), .int .i64 0]) /\ cR n m (ai xs n m) p.1 p.2) /\ Below w.heap.size w w' := by
 have HC := Lib.hid (fun w' (h : aI w' mw ao xs) => qM n m nm mw cap ao xs w' hn hm hmw h hs hnm);clear hs hnm;refine bB (S0 := fun _ => False) Try.func6 ((Fr.nil _ w).l hA (by simp)) ?_;refine ae ?_;refine rW [] ?_;refine aW fun g1 => ?_;refine dW ?_;refine dW ?_;refine eW ?_;refine ae ?_;refine rW [] ?_;refine dW ?_;refine cG (α := (Option Addr × Nat) × Nat × (Nat -> Nat)) (mk := fun p => .tuple #[.slice p.1.1 p.2.1 p.1.2, .int .i64 0]) (ens := fun p => [.lg 3 1 p.1.1 p.2.1 p.1.2 (iL ((List.range p.2.1).map p.2.2)), .pr (cR n m (ai xs n m) p.2.1 p.2.2)]) (hne := ⟨((none, 0), 0, fun _ => 0)⟩) (fun w' H => HC.out w' (H.all (.ls mw ao xs) (by simp))) fun q => ?_;refine dW ?_;refine dW ?_;refine dW ?_;refine dW ?_;refine dW ?_;refine eW ?_;refine ae ?_;refine kI (A := cR n m (ai xs n m) q.2.1 q.2.2) (by simp) fun hp => ?_;have HP := Lib.hid hp;clear hp;refine rW [] ?_;refine dW ?_;refine dW ?_;refine dW ?_;refine dW ?_;refine dW ?_;refine eW ?_;refine ae ?_;refine ej fun w' H => ?_;exact ⟨_, _, dA, dA, ⟨(q.2.1, q.2.2), rfl, HP.out⟩, H.below⟩
section
variable {P : Program} {Q : Exit -> Act -> World -> Prop} {ds : List Deferred} {S0 : Nat -> Prop} {w0 : World} {n : Nat} {ls : List (Nat × Value)} {es : List En} {c : Code}
theorem tm {ao : Option Addr} {K cap : Nat} {ps : List P4} (hK : 0 < K) (k : ∀ b tl, ao = some ⟨b, 0, none⟩ -> aN tl -> ps.length = K -> dS ds P n S0 w0 c Q ls (.row b 27 (rn ps tl) :: es)) : dS ds P n S0 w0 c Q ls (.fT ao K cap ps :: es) := fun a w ha hw => by
 obtain ⟨h1, h2, ⟨_, h3⟩ | ⟨b, tl, rfl, ht, hr, _⟩⟩ := (hw.m0 : mu ao K cap ps w)
 · omega
 · exact k b tl rfl ht h1 a w ha (hw.ll (X := [.row b 27 (rn ps tl)]) rfl (fun x hx => by
    rcases List.mem_singleton.1 hx with rfl;exact ⟨hr, fun b' e => ⟨0, by cases e; rfl⟩⟩) (List.pairwise_singleton ..))
end
theorem oj {m K : Nat} (q : Nat) : gi (aA m (dM []) K) q = 0 := by
 unfold gi;rw [List.getD_eq_getElem?_getD];cases e : (aA m (dM []) K)[q]? with
 | none => rfl
 | some x =>
  have h := List.mem_of_getElem? e;unfold aA at h;obtain ⟨t, _, rfl⟩ := List.mem_map.1 h;show dM [] _ _ = 0;unfold dM;split <;> first | rfl | simp
def u5 (n m : Nat) (xs zs : List Int) : Prop := ∃ k l, xe n m xs zs k l
set_option maxRecDepth 100000 in
set_option maxHeartbeats 8000000 in
theorem vj (n m nm mw cap : Nat) (ao : Option Addr) (xs : List Int) (w : World) (hn : n <= 64) (hm : m <= 64) (hmw : mw <= 1048577) (hA : aI w mw ao xs) (hs : xs.length = n * m) (hnm : xs.length = nm) :
 Calls Try.prog 12 #[.agg #[.int .i64 (n : Int), .int .i64 (m : Int), .slice ao nm cap]] w fun e w' => (∃ p : (Option Addr × Nat) × List Int, e = .returned (.tuple #[.agg #[.int .i64 (n : Int), .int .i64 (m : Int), .slice p.1.1 (n * m) p.1.2], .int .i64 0]) /\ dT w' p.1.1 p.2 /\ (u5 n m xs p.2 /\ n * m <= p.1.2) /\ ∀ b o, p.1.1 = some ⟨b, o, none⟩ -> w.heap.size <= b) /\ Below w.heap.size w w' := by
 have hxb := fw hA;have hwx : ∀ x ∈ xs, ag x.natAbs <= mw := fun x hx => au (hxb x hx);have c1 := fun w' (h : aI w' mw ao xs) => n7 n m nm mw cap ao xs w' hn hm hmw h hs hnm (fun _ _ _ _ h1 h2 => h1.ya h2) (fun _ _ _ h1 h2 => h1.core h2);have c2 := fun k1 q1 k2 q2 ro co (rs cs : List Nat) w' a1 a2 (a3 : aI w' mw ao xs) a4 a5 a6 a7 a8 a9 => nD n m nm cap k1 q1 k2 q2 mw ao ro co rs cs xs w' a1 a2 a3 (by omega) a4 a5 hs hnm a6 a7 hn hm a8 a9;obtain ⟨B1, hB1⟩ : ∃ B, 64 * (mw + 1) = B := ⟨_, rfl⟩;obtain ⟨B2, hB2⟩ : ∃ B, B1 + 66 * (mw + 3) + 1 = B := ⟨_, rfl⟩;obtain ⟨B3, hB3⟩ : ∃ B, B2 + mw + 1 = B := ⟨_, rfl⟩;have hb1 : B1 <= 100000000 := by omega
 have hb2 : B2 <= 300000000 := by omega
 have hb3 : B3 <= 400000000 := by omega
 have c3 := fun k c1 c2 zs (h : dD n m xs k c1 c2 zs) => h.jh (by omega) hxb;have c4 : ∀ k c1 c2 zs, dD n m xs k c1 c2 zs -> ∀ x ∈ zs, ag x.natAbs <= B1 := fun k c1 c2 zs h => by
  rw [<- hB1];exact h.2.2.wl (eZ (Nat.le_trans (cR.lt h.2.1).1 hn) hwx)
 have HC := Lib.hid (And.intro c1 (And.intro c2 (And.intro c3 (And.intro c4 (And.intro hwx (And.intro hB1 (And.intro hB2 hB3)))))));clear c1 c2 c3 c4 hwx hxb hs hnm hB1 hB2 hB3;refine bB (S0 := fun _ => False) Try.func12 ((Fr.nil _ w).l hA (by simp)) ?_;clear hA;refine ae ?_;refine rW [] ?_;refine aW fun g1 => ?_;refine aW fun g2 => ?_;refine dW ?_;refine eW ?_;refine ae ?_;refine rW [] ?_;refine dW ?_;refine cG (α := (((Option Addr × Nat) × List Int) × (Option Addr × Nat) × (Option Addr × Nat)) × (Nat × (Nat -> Nat) × (Nat -> Nat)) × P4) (mk := fun p => .tuple #[.agg #[.int .i64 (p.2.1.1 : Int), .int .i64 (p.2.1.1 : Int), .slice p.1.1.1.1 (p.2.1.1 * p.2.1.1) p.1.1.1.2], .slice p.1.2.1.1 p.2.1.1 p.1.2.1.2, .slice p.1.2.2.1 p.2.1.1 p.1.2.2.2, .agg #[.bool p.2.2.1, .slice p.2.2.2.1 p.2.2.2.2.1 p.2.2.2.2.2], .int .i64 0]) (ens := fun p => [.pr (dD n m xs p.2.1.1 p.2.1.2.1 p.2.1.2.2 p.1.1.2), .gI p.1.1.1.1 p.1.1.2, .lg 3 1 p.1.2.1.1 p.2.1.1 p.1.2.1.2 (iL ((List.range p.2.1.1).map p.2.1.2.1)), .lg 3 1 p.1.2.2.1 p.2.1.1 p.1.2.2.2 (iL ((List.range p.2.1.1).map p.2.1.2.2)), .own w.heap.size (av p.2.2) (aM m xs p.2.1.1 p.2.1.2.1 p.2.1.2.2)]) (hne := ⟨(((((none, 0), []), (none, 0), (none, 0))), (0, fun _ => 0, fun _ => 0), p0)⟩) (fun w' H => (HC.out.1 w' (H.all (.ls mw ao xs) (by simp))).mono fun e w'' ⟨p, he, hb, hx, hp⟩ => ⟨p, he, hb, fun e he => by
  simp only [List.mem_cons, List.mem_nil_iff, or_false] at he;rcases he with rfl | rfl | rfl | rfl | rfl
  · exact hx _ (by simp)
  · exact hx _ (by simp)
  · exact hx _ (by simp)
  · exact hx _ (by simp)
  · exact ⟨ak.mono (hx (.own w'.heap.size (av p.2.2) (aM m xs p.2.1.1 p.2.1.2.1 p.2.1.2.2)) (by simp [av])).1 H.size, fun _ h => h.elim⟩, by
  have h1 := List.pairwise_cons.1 hp;have h2 := List.pairwise_cons.1 h1.2;have h3 := List.pairwise_cons.1 h2.2;have h4 := List.pairwise_cons.1 h3.2;refine .cons (fun x _ => ⟨(fun q => nomatch q), fun _ _ _ h => h⟩) (.cons (fun x hx => ?_) (.cons (fun x hx => ?_) (.cons (fun x hx => ?_) (List.pairwise_singleton ..))))
  · rcases List.mem_cons.1 hx with rfl | hx
    · exact h2.1 _ (by simp)
    · rcases List.mem_cons.1 hx with rfl | hx
      · exact h2.1 _ (by simp)
      · rcases List.mem_singleton.1 hx with rfl;exact ⟨(fun q => nomatch q), fun q => nomatch q⟩
  · rcases List.mem_cons.1 hx with rfl | hx
    · exact h3.1 _ (by simp)
    · rcases List.mem_singleton.1 hx with rfl;exact ⟨fun _ _ _ h => h, fun q => nomatch q⟩
  · rcases List.mem_singleton.1 hx with rfl;exact ⟨fun _ _ _ h => h, fun q => nomatch q⟩⟩) fun q1 => ?_
 refine dW ?_;refine dW ?_;refine dW ?_;refine dW ?_;refine dW ?_;refine dW ?_;refine aW fun g4 => ?_;refine aW fun g7 => ?_;refine sG ?_;refine dW ?_;refine dW ?_;refine sG ?_;refine dW ?_;refine eW ?_;refine ae ?_;obtain ⟨⟨⟨⟨zo, zc⟩, zs⟩, ⟨ro, rc⟩, ⟨co, cc⟩⟩, ⟨k, c1, c2⟩, pd⟩ := q1;refine kI (A := dD n m xs k c1 c2 zs) (by simp) fun hp => ?_;have hk64 : k <= 64 := by have := (cR.lt hp.2.1).1; omega
 obtain ⟨hs, l, hhl, hH, hsp⟩ := HC.out.2.2.1 k c1 c2 zs hp;obtain ⟨D, hD⟩ : ∃ D, aM m xs k c1 c2 = D := ⟨_, rfl⟩;have hD0 : D ≠ 0 := by rw [<- hD]; exact hp.1.core hp.2.1
 have hDw : ag D.natAbs <= B1 := by rw [<- hD, <- HC.out.2.2.2.2.2.1]; exact eZ hk64 HC.out.2.2.2.2.1
 rw [hD];have HP := Lib.hid (And.intro hp (And.intro hhl (And.intro hH (And.intro hsp (And.intro hD (And.intro hD0 hDw))))));clear hp hhl hH hsp hD hD0 hDw;refine rW [] ?_;refine dW ?_;refine dB false ?_;refine eW ?_;refine ae ?_;refine cd ?_;refine ae ?_;refine rW [] ?_;refine dW ?_;refine dW ?_;refine dW ?_;refine kt (α := Option Addr × Nat) (mk := fun p => .tuple #[.agg #[.int .i64 (k : Int), .int .i64 (k : Int), .slice p.1 (k * k) p.2], .int .i64 0]) (ao := fun p => p.1) (xs := fun _ => aA k (bA m xs ((List.range k).map c1) ((List.range k).map c2)) (k * k)) (A := fun _ => True) (fun w' H => HC.out.2.1 k rc k cc ro co ((List.range k).map c1) ((List.range k).map c2) w' (kj.rl (H.all (.lg 3 1 ro k rc (iL ((List.range k).map c1))) (by simp))) (kj.rl (H.all (.lg 3 1 co k cc (iL ((List.range k).map c2))) (by simp))) (H.all (.ls mw ao xs) (by simp)) (by simp) (by simp) (fun i hi => by rw [ft hi]; exact HP.out.1.1.nG i hi) (fun i hi => by rw [ft hi]; exact HP.out.1.2.1.nG i hi) hk64 hk64) fun qc => ?_;refine dW ?_;refine dW ?_;refine dW ?_;refine aW fun g9 => ?_;refine sG ?_;refine dW ?_;refine eW ?_;refine ae ?_;refine rW [] ?_;refine dW ?_;refine dW ?_;refine dW ?_;refine dW ?_;refine cG (α := Nat) (mk := fun g => .slice (some ⟨g, 0, none⟩) m m) (ens := fun g => [.row g 3 (iL (List.range m))]) (fun w' H => rL m w' hm) fun gu => ?_;refine kt (α := Option Addr × Nat) (mk := fun p => .tuple #[.agg #[.int .i64 (k : Int), .int .i64 (m : Int), .slice p.1 (k * m) p.2], .int .i64 0]) (ao := fun p => p.1) (xs := fun _ => aA m (bA m xs ((List.range k).map c1) (List.range m)) (k * m)) (A := fun _ => True) (fun w' H => HC.out.2.1 k rc m m ro (some ⟨gu, 0, none⟩) ((List.range k).map c1) (List.range m) w' (kj.rl (H.all (.lg 3 1 ro k rc (iL ((List.range k).map c1))) (by simp))) (fun _ => by have h1 : ah w' gu 3 (iL (List.range m)) := H.all (.row gu 3 (iL (List.range m))) (by simp); exact ⟨gu, rfl, h1.lt, fun i v hv => by rw [h1.cell]; exact hv⟩) (H.all (.ls mw ao xs) (by simp)) (by simp) (by simp) (fun i hi => by rw [ft hi]; exact HP.out.1.1.nG i hi) (fun i hi => by simpa [hi] using hi) hk64 hm) fun qw => ?_;refine dW ?_;refine dW ?_;refine dW ?_;refine aW fun g11 => ?_;refine sG ?_;refine dW ?_;refine eW ?_;refine ae ?_;refine rW [] ?_;refine dW ?_;refine kt (α := (Option Addr × Nat) × List Int) (mk := fun p => .tuple #[.agg #[.int .i64 (k : Int), .int .i64 (k : Int), .slice p.1.1 (k * k) p.1.2], .int .i64 0]) (ao := fun p => p.1.1) (xs := fun p => p.2) (A := fun p => nw k mw (aA k (bA m xs ((List.range k).map c1) ((List.range k).map c2)) (k * k)) p.2) (hne := ⟨((none, 0), [])⟩) (fun w' H => xX k (k * k) qc.2 mw qc.1 (aA k (bA m xs ((List.range k).map c1) ((List.range k).map c2)) (k * k)) w' hk64 hmw (dT.iH (H.all (.gI qc.1 (aA k (bA m xs ((List.range k).map c1) ((List.range k).map c2)) (k * k))) (by simp)) (fm HC.out.2.2.2.2.1)) (aB ..) (aB ..) (fm HC.out.2.2.2.2.1)) fun qa => ?_;refine dW ?_;refine dW ?_;refine dW ?_;refine aW fun g13 => ?_;refine sG ?_;refine dW ?_;refine eW ?_;refine ae ?_;obtain ⟨⟨ado, adc⟩, al⟩ := qa;refine kI (A := nw k mw (aA k (bA m xs ((List.range k).map c1) ((List.range k).map c2)) (k * k)) al /\ ∀ b o, ado = some ⟨b, o, none⟩ -> w.heap.size <= b) (by simp) fun hq => ?_;have HAd := Lib.hid hq.1;have hpw : ∀ x ∈ aA k (bb k k zs al) (k * k), ag x.natAbs <= B2 := kT (fun i j hi hj => by rw [<- HC.out.2.2.2.2.2.2.1]; exact lQ (fun t ht => nH (HC.out.2.2.2.1 k c1 c2 zs HP.out.1 _ (cS (by rw [HP.out.1.2.2.1]; exact bY hi ht))) (HAd.out.2.2 _ (cS (by rw [HAd.out.1]; exact bY ht hj)))) hk64) rfl;have HPw := Lib.hid hpw;clear hq hpw;refine rW [] ?_;refine dW ?_;refine dW ?_;refine kt (α := Option Addr × Nat) (mk := fun p => .tuple #[.agg #[.int .i64 (k : Int), .int .i64 (k : Int), .slice p.1 (k * k) p.2], .int .i64 0]) (ao := fun p => p.1) (xs := fun _ => aA k (bb k k zs al) (k * k)) (A := fun _ => True) (fun w' H => r7 k k k (k * k) (k * k) zc adc B1 (66 * (mw + 3)) zo ado zs al w' (dT.iH (H.all (.gI zo zs) (by simp)) (HC.out.2.2.2.1 k c1 c2 zs HP.out.1)) (dT.iH (H.all (.gI ado al) (by simp)) HAd.out.2.2) (by omega) HP.out.1.2.2.1 HP.out.1.2.2.1 HAd.out.1 HAd.out.1 hk64 hk64 hk64 (HC.out.2.2.2.1 k c1 c2 zs HP.out.1) HAd.out.2.2) fun qm => ?_;refine dW ?_;refine dW ?_;refine dW ?_;refine sW ?_;refine eW ?_;refine ae ?_;refine rW [] ?_;refine dW ?_;refine dW ?_;refine cG (α := Option Addr × Nat) (mk := fun p => .tuple #[.agg #[.int .i64 (k : Int), .int .i64 (m : Int), .slice p.1 (k * m) p.2], .int .i64 0]) (ens := fun p => [.ls B3 p.1 (aA m (bb k m (aA k (bb k k zs al) (k * k)) (aA m (bA m xs ((List.range k).map c1) (List.range m)) (k * m))) (k * m))]) (fun w' H => (r7 k k m (k * k) (k * m) qm.2 qw.2 B2 mw qm.1 qw.1 (aA k (bb k k zs al) (k * k)) (aA m (bA m xs ((List.range k).map c1) (List.range m)) (k * m)) w' (dT.iH (H.all (.gI qm.1 (aA k (bb k k zs al) (k * k))) (by simp)) HPw.out) (dT.iH (H.all (.gI qw.1 (aA m (bA m xs ((List.range k).map c1) (List.range m)) (k * m))) (by simp)) (fm HC.out.2.2.2.2.1)) (by omega) (aB ..) (aB ..) (aB ..) (aB ..) hk64 hk64 hm HPw.out (fm HC.out.2.2.2.2.1)).mono fun e w'' ⟨⟨p, he, hl, _, hf⟩, hb⟩ => ⟨p, he, hb, fun e he => by rcases List.mem_singleton.1 he with rfl; exact ⟨hl.iH fun x hx => by
  unfold aA at hx;obtain ⟨t, ht, rfl⟩ := List.mem_map.1 hx;have ht := List.mem_range.1 ht;have hm0 : 0 < m := by
   rcases Nat.eq_zero_or_pos m with e | e
   · subst e; omega
   · exact e
  have h1 : t / m < k := Nat.div_lt_of_lt_mul (by rw [Nat.mul_comm]; exact ht);rw [<- HC.out.2.2.2.2.2.2.2];exact lQ (fun u hu => nH (HPw.out _ (cS (by rw [aB]; exact bY h1 hu))) (fm HC.out.2.2.2.2.1 _ (cS (by rw [aB]; exact bY hu (Nat.mod_lt _ hm0))))) hk64, fun b ⟨_, o, e⟩ => hf b o e⟩, List.pairwise_singleton ..⟩) fun qf => ?_
 refine dW ?_;refine dW ?_;refine dW ?_;refine sW ?_;refine eW ?_;refine ae ?_;obtain ⟨fo, fc⟩ := qf;obtain ⟨FL, hFL⟩ : ∃ FL, aA m (bb k m (aA k (bb k k zs al) (k * k)) (aA m (bA m xs ((List.range k).map c1) (List.range m)) (k * m))) (k * m) = FL := ⟨_, rfl⟩;have hfl : ∀ q, q < k * m -> gi FL q = D * gi hs q := fun q hq => by rw [<- hFL, <- HP.out.2.2.2.2.1]; exact HP.out.1.formL HP.out.2.1 HP.out.2.2.1 HP.out.2.2.2.1 HAd.out hq
 have hfll : FL.length = k * m := by rw [<- hFL, aB]
 rw [hFL];have HFl := Lib.hid (And.intro hfl hfll);clear hFL hfl hfll;refine rW [] ?_;refine dW ?_;refine dW ?_;refine dW ?_;refine dW ?_;refine cG (α := (Option Addr × Nat) × List P4) (mk := fun p => .tuple #[.agg #[.int .i64 (n : Int), .int .i64 (m : Int), .slice p.1.1 (n * m) p.1.2], .int .i64 0]) (ens := fun p => [.fT p.1.1 (n * m) p.1.2 p.2, .ns p.2 (aA m (dM []) (n * m))]) (hne := ⟨((none, 0), [])⟩) (fun w' H => tM n m w' hn hm) fun qz => ?_;refine dW ?_;refine dW ?_;refine dW ?_;refine aW fun g15 => ?_;refine sG ?_;refine dW ?_;refine eW ?_;refine ae ?_;obtain ⟨⟨oo, oc⟩, ps0⟩ := qz;have hkn : k <= n := (cR.lt HP.out.1.2.1).1;have hKN : k * m <= n * m := Nat.mul_le_mul_right m hkn;have hNb : n * m <= 4096 := Nat.mul_le_mul hn hm;obtain ⟨K, hK⟩ : ∃ K, k * m = K := ⟨_, rfl⟩;obtain ⟨NM, hNM⟩ : ∃ NM, n * m = NM := ⟨_, rfl⟩;rw [hK] at hKN HFl ⊢;rw [hNM] at hKN hNb ⊢;have HK := Lib.hid (And.intro hK hNM);clear hK hNM;refine dr (es' := [.fT oo NM oc ps0, .ns ps0 (aA m (dM []) NM), .row g4 24 [.int .i64 (k : Int), .int .i64 (m : Int), .slice fo K fc], .row g15 24 [.int .i64 (n : Int), .int .i64 (m : Int), .slice oo NM oc], .row g7 27 [.bool pd.1, .slice pd.2.1 pd.2.2.1 pd.2.2.2], .row g2 24 [.int .i64 0, .int .i64 0, .slice none 0 0], .own w.heap.size (av pd) D, .ls B3 fo FL]) ?_;refine rS (A := NM <= oc) (fun w H => (H.all (.fT oo NM oc ps0) (by simp) : mu ..).2.1) fun hcz => ?_;refine rW [] ?_;by_cases hK0 : 0 < K
 · refine dW ?_;refine dW ?_;refine dW ?_;refine dW ?_;refine eW ?_;refine ae ?_;refine tm (by omega) fun b tl hoo htl hpl => ?_;subst hoo;have HTl := Lib.hid htl;clear htl;refine bL (X := Nat × List P4 × List Int) (fun x => x.1 <= K /\ x.2.1.length = NM /\ x.2.2.length = NM /\ ∀ q, gi x.2.2 q = if q < x.1 then gi hs q else 0) (fun x => K - x.1) (fun x => [(74, .int .i64 (x.1 : Int)), (73, .int .i64 (K : Int)), (72, .slice fo K fc), (15, .pointer (some ⟨g15, 0, none⟩)), (7, .pointer (some ⟨g7, 0, none⟩)), (2, .pointer (some ⟨g2, 0, none⟩)), (8, .int .i64 0)])
    (fun x => [.row b 27 (rn x.2.1 tl), .ns x.2.1 x.2.2, .row g15 24 [.int .i64 (n : Int), .int .i64 (m : Int), .slice (some ⟨b, 0, none⟩) NM oc], .row g7 27 [.bool pd.1, .slice pd.2.1 pd.2.2.1 pd.2.2.2], .row g2 24 [.int .i64 0, .int .i64 0, .slice none 0 0], .own w.heap.size (av pd) D, .ls B3 fo FL]) (0, ps0, aA m (dM []) NM) ⟨Nat.zero_le _, hpl, aB .., fun q => by rw [if_neg (Nat.not_lt_zero q)]; exact oj q⟩ fun x hx => ?_
   clear hpl;obtain ⟨i, ps, ys⟩ := x;obtain ⟨hi, hpl, hyl, hyq⟩ := hx
   replace hi : i <= K := hi
   replace hpl : ps.length = NM := hpl
   replace hyl : ys.length = NM := hyl
   have HY := Lib.hid (And.intro hpl (And.intro hyl (show ∀ q, gi ys q = if q < i then gi hs q else 0 from hyq)));clear hpl hyl hyq;by_cases h : i < K
   · have h01 : (i : Int) < (K : Int) := by omega
     have h02 : (i : Int) < (NM : Int) := by omega
     have hfl := HFl.out.1 i h;have HFi := Lib.hid hfl;clear hfl;refine ae ?_;refine rW [] ?_;refine dB true ?_;refine eW ?_;refine ae ?_;refine n4 (L := B3) (ao := fo) (xs := FL) (by simp) (by rw [HFl.out.2]; omega) fun bx ox e => ?_;subst e;refine jq (L := B3) (xs := FL) (b := bx) (o := ox) i (by simp) (by rw [HFl.out.2]; exact h) fun px => ?_;refine eB ?_;refine ae ?_;refine rW [] ?_;refine dW ?_;refine dW ?_;refine dW ?_;refine aW fun g17 => ?_;refine dW ?_;refine sG ?_;refine eW ?_;refine ae ?_;refine rW [] ?_;refine dW ?_;refine dW ?_;refine dW ?_;refine dW ?_;refine dW ?_;refine sY (x := gi hs i) (z := .int .i64 0) (fun w' H => by
      have := fe (av px) (av pd) (gi FL i) D w' ((H.all (.at B3 (av px) (gi FL i)) (by simp [av]) : aw ..).mono (by omega)) (ak.int (H.all (.own w.heap.size (av pd) D) (by simp [av])) (Nat.le_trans HP.out.2.2.2.2.2.2 (by omega))) HP.out.2.2.2.2.2.1 (by rw [HFi.out]; exact Int.dvd_mul_right ..);rw [HFi.out, Int.mul_ediv_cancel_left _ HP.out.2.2.2.2.2.1] at this; exact this) fun p2 => ?_
     refine gE (e := .ns (ps.set i p2) (ys.set i (gi hs i))) (fun w' H => bC.set (H.all (.ns ps ys) (by simp)) i (H.all (.own w.heap.size (av p2) (gi hs i)) (by simp [av]) : ak ..).num) ?_;refine dW ?_;refine dW ?_;refine dW ?_;refine dW ?_;refine sN (ps := ps) i p2 (by rw [HY.out.1]; omega) HTl.out rfl ?_;refine eW ?_;refine ae ?_;refine rW [] ?_;refine dE (cQ (a := i) (by omega)) ?_;refine dW ?_;refine eW ?_;refine ae ?_;exact bJ (i + 1, ps.set i p2, ys.set i (gi hs i)) ⟨⟨h, by rw [List.length_set]; exact HY.out.1, by rw [List.length_set]; exact HY.out.2.1, fun q => by
      rw [eY (by rw [HY.out.2.1]; omega), HY.out.2.2 q];by_cases e : q = i
      · rw [if_pos e, e, if_pos (by omega)]
      · rw [if_neg e];by_cases e2 : q < i
        · rw [if_pos e2, if_pos (by omega)]
        · rw [if_neg e2, if_neg (by omega)]⟩, by show K - (i + 1) < K - i; omega⟩
   · obtain rfl : K = i := by omega
     refine ae ?_;refine rW [] ?_;refine dB false ?_;refine eW ?_;refine ae ?_;refine cd ?_;refine ae ?_;refine rW [] ?_;refine dW ?_;refine dW ?_;refine sW ?_;refine dW ?_;refine eW ?_;refine ae ?_;refine ej fun w' H => ?_;exact ⟨_, _, nT (H.all (.row g2 24 [.int .i64 (n : Int), .int .i64 (m : Int), .slice (some ⟨b, 0, none⟩) NM oc]) (by simp)), dA, ⟨((some ⟨b, 0, none⟩, oc), ys), rfl, (bR.mk' (H.all (.row b 27 (rn ps tl)) (by simp)) HTl.out (H.all (.ns ps ys) (by simp))).lsN, ⟨⟨k, l, ry hkn HP.out.2.1 HP.out.2.2.1 HP.out.2.2.2.1 (HY.out.2.1.trans HK.out.2.symm) fun q => by rw [HK.out.1]; exact HY.out.2.2 q⟩, by first | exact hcz | (rw [HK.out.2]; exact hcz)⟩, fun b' o e => by cases e; exact (H.own (.row b 27 (rn ps tl)) (by simp) rfl b rfl).elim (fun h => h.elim) id⟩, H.below⟩
 · refine dW ?_;refine dW ?_;refine dW ?_;refine dW ?_;refine eW ?_;refine ae ?_;refine bL (X := Nat) (fun x => x = 0) (fun x => 0) (fun x => [(74, .int .i64 (x : Int)), (73, .int .i64 (K : Int)), (72, .slice fo K fc), (15, .pointer (some ⟨g15, 0, none⟩)), (2, .pointer (some ⟨g2, 0, none⟩)), (8, .int .i64 0)])
    (fun x => [.fT oo NM oc ps0, .ns ps0 (aA m (dM []) NM), .row g15 24 [.int .i64 (n : Int), .int .i64 (m : Int), .slice oo NM oc], .row g7 27 [.bool pd.1, .slice pd.2.1 pd.2.2.1 pd.2.2.2], .row g2 24 [.int .i64 0, .int .i64 0, .slice none 0 0], .own w.heap.size (av pd) D, .ls B3 fo FL]) 0 rfl fun x hx => ?_
   obtain rfl : x = 0 := hx;have h01 : ¬ ((0 : Nat) : Int) < (K : Int) := by omega
   refine ae ?_;refine rW [] ?_;refine dB false ?_;refine eW ?_;refine ae ?_;refine cd ?_;refine ae ?_;refine rW [] ?_;refine dW ?_;refine dW ?_;refine sW ?_;refine dW ?_;refine eW ?_;refine ae ?_;refine ej fun w' H => ?_;exact ⟨_, _, nT (H.all (.row g2 24 [.int .i64 (n : Int), .int .i64 (m : Int), .slice oo NM oc]) (by simp)), dA, ⟨((oo, oc), aA m (dM []) NM), rfl, kE (H.all (.fT oo NM oc ps0) (by simp)) (H.all (.ns ps0 (aA m (dM []) NM)) (by simp)), ⟨⟨k, l, ry hkn HP.out.2.1 HP.out.2.2.1 HP.out.2.2.2.1 ((aB ..).trans HK.out.2.symm) fun q => by rw [HK.out.1, if_neg (by omega)]; exact oj q⟩, by first | exact hcz | (rw [HK.out.2]; exact hcz)⟩, fun b o e => (H.own (.fT oo NM oc ps0) (by simp) rfl b ⟨o, e⟩).elim (fun h => h.elim) id⟩, H.below⟩
section
variable {ops : Array Oper} {Q : Exit -> Act -> World -> Prop} {ds : List Deferred} {S0 : Nat -> Prop} {w0 : World} {E0 : List En} {n j s : Nat} {l : List Nat} {G E : List En} {ls : List (Nat × Value)} {ty : TypeId} {pos : String} {af : Array Edge}
end
theorem mulS {a b c : Nat} (h : a * b = c) (hc : c <= 4096) : Value.int .i64 (IntKind.i64.wrap ((a : Int) * b)) = .int .i64 (c : Int) := by
 rw [kK (by omega), h]
theorem su (a : Addr) : a.add 0 = a := by
 unfold Addr.add;split <;> simp_all
theorem wY (a : Option Addr) (y cap : Nat) : sliced a 0 y cap 2 = .slice a y cap := by
 unfold sliced;rw [Nat.zero_mul, Nat.sub_zero, Nat.sub_zero];cases a with
 | none => simp
 | some b => simp [su]
section
variable {ops : Array Oper} {Q : Exit -> Act -> World -> Prop} {ds : List Deferred} {S0 : Nat -> Prop} {w0 : World} {E0 : List En} {n j s : Nat} {l : List Nat} {G E : List En} {ls : List (Nat × Value)} {ty : TypeId} {pos : String} {af : Array Edge}
set_option maxRecDepth 100000 in
theorem slhW {sx sh : Operand} (a : Option Addr) (len cap y : Nat) (hy : y <= cap) (k : cY ds ⟨Try.prog, ops, Q, S0, w0, E0, []⟩ n l G E ((s, .slice a y cap) :: ls))
 (ho : ops[j]? = some ⟨some s, .slice 22 sx none (some sh) none, ty, pos, af, none⟩ := by rfl) (hk : (bw (.slice 22 sx none (some sh) none) && di ls (.slice 22 sx none (some sh) none) && Nat.blt s n) = true := by kernel_rfl)
 (h1 : cn ls sx = .slice a len cap := by (simp only [bN, Nat.reduceEqDiff, ↓reduceIte]) <;> rfl) (h3 : cn ls sh = .int .i64 (y : Int) := by (simp only [bN, Nat.reduceEqDiff, ↓reduceIte]) <;> rfl) : cY ds ⟨Try.prog, ops, Q, S0, w0, E0, []⟩ n (j :: l) G E ls := by
 refine dW k ho hk fun w _ => ?_;obtain ⟨i, hi, hz, hs, hbt⟩ := info_parts je;have e := run_slice_h (P := Try.prog) w 22 a len cap Try.underlying22 .i64 (y : Int) (by omega) (by omega);have e2 := run_sliceAt_slice (P := Try.prog) w 22 (.slice a len cap) none (some (.int .i64 (y : Int))) none Try.underlying22;have e3 : (sizeOf (Try.prog.elem 22)).run Try.prog w = .ok 2 w := by go_simp <;> rfl
 rw [e3] at e;simp only [Int.toNat_natCast, Result.andThen, wY] at e;simp [execOp, h1, h3, e2, e, Result.andThen]
end
theorem dT.take {w : World} {ao : Option Addr} {xs : List Int} (h : dT w ao xs) (K : Nat) : dT w ao (xs.take K) := by
 intro hl;have hll : (xs.take K).length <= xs.length := List.length_take_le' ..;obtain ⟨b, o, e, hb, hc⟩ := h (by omega);refine ⟨b, o, e, hb, fun i hi => ?_⟩;obtain ⟨p, h0, h1, h2⟩ := hc i (by omega);exact ⟨p, h0, h1, by rw [List.getElem_take]; exact h2⟩
theorem sF {n m mw : Nat} {xs hs : List Int} {v w : Int} {c2 : Nat -> Nat} (hn : n <= 64) (hm : m <= 64) (hs' : xs.length = n * m) (hb : ∀ x ∈ xs, x.natAbs < W ^ mw) (hv : lP n m xs v) (hw : kQ n m xs w) (h2 : cR n m (ai xs n m) m c2) (hF : u5 n m xs hs) : m * m <= n * m /\ hs.length = n * m /\ v ≠ 0 /\ w ≠ 0 /\ ∀ d zs, v ∣ d -> j3 m n d (ai xs n m) zs -> zs = hs.take (m * m) := by
 have hmn : m <= n := (cR.lt h2).1;have hmm : m * m <= n * m := Nat.mul_le_mul_right m hmn;have hw0 : w ≠ 0 := by
  obtain ⟨k, d1, d2, q1, q2, rfl⟩ := hw;have := q1.core q2;omega
 obtain ⟨k, l, hH⟩ := hF;have hv' := hv;obtain ⟨k', e1, e2, zs', hN, _⟩ := hv;obtain ⟨rfl, _⟩ := hN.2.1.uniq (by omega) hb h2;obtain ⟨p1, p2, p3, p4, p5⟩ := kN hn hm hs' hb hv' hw hN.1 h2;have hl := hH.len;have hmk : k' = k /\ ∀ t < k', c2 t = l t := by
  obtain ⟨_, _, _, h⟩ := h2;exact h.leads (fun i j hj => da i hj) hH.herm.toEch hH.sp.symm
 obtain ⟨rfl, hcl⟩ := hmk;have htl : (hs.take (k' * k')).length = k' * k' := by rw [List.length_take]; omega
 have e : ∀ i < k', ∀ j, ai (hs.take (k' * k')) k' k' i j = ai hs n k' i j := fun i hi j => by
  by_cases hj : j < k'
  · rw [aS hi hj, aS (show i < n by omega) hj];have := bY hi hj;rw [List.getD_eq_getElem?_getD, List.getElem?_take, if_pos this, <- List.getD_eq_getElem?_getD]
  · rw [da _ (by omega), da _ (by omega)]
 have hHm : cH k' k' (ai (hs.take (k' * k')) k' k') l := hH.herm.congr fun i hi j => e i hi j;have hsp : aO n (ai xs n k') k' (ai (hs.take (k' * k')) k' k') := hH.sp.trans (aO.of_eq fun i hi j => (e i hi j).symm);refine ⟨hmm, hl, by omega, hw0, fun d zs hd hz => follows htl hHm hsp ?_ hd hz⟩;rw [p5 _ ⟨l, hHm⟩ hsp];exact jK _ hcl
set_option maxRecDepth 100000 in
set_option maxHeartbeats 1000000 in
theorem Fol_u (r c : Int) (ao : Option Addr) (len cap : Nat) (pk : P4) (w : World) (hr : -9223372036854775808 <= r /\ r <= 9223372036854775807) (hc : -9223372036854775808 <= c /\ c <= 9223372036854775807) (hs : bE r c len = false) :
 Calls Try.prog 3 #[.agg #[.int .i64 r, .int .i64 c, .slice ao len cap], av pk] w fun e w' => e = .returned (.bool true) /\ Below w.heap.size w w' := by
 have HC := Lib.hid (fun w' => wL r c ao len cap w' hr hc hs);clear hs;refine bB (S0 := fun _ => False) Try.func3 (Fr.nil _ w) ?_;refine ae ?_;refine rW [] ?_;refine aW fun g2 => ?_;refine aW fun g3 => ?_;refine dW ?_;refine eW ?_;refine ae ?_;refine rW [] ?_;refine cV (v := .bool true) (fun w' H => lZ w') ?_;refine dW ?_;refine eW ?_;refine ae ?_;refine cd ?_;refine ae ?_;refine rW [] ?_;refine dW ?_;refine cV (v := .tuple #[.int .i64 0, .int .i64 1]) (fun w' H => HC.out w') ?_;refine dW ?_;refine dW ?_;refine dW ?_;refine dW ?_;refine dW ?_;refine eW ?_;refine ae ?_;refine rW [] ?_;refine dW ?_;refine dB true ?_;refine dW ?_;refine uG ?_;refine uG ?_;refine uG ?_;refine uG ?_;refine dW ?_;refine dW ?_;refine uG ?_;refine uC ?_;refine uG ?_;refine dW ?_;refine eW ?_;refine ae ?_;refine eB ?_;refine ae ?_;refine rW [] ?_;refine dW ?_;refine eW ?_;refine ae ?_;refine dt fun w' H => ?_;exact ⟨_, dA, rfl, H.below⟩
set_option maxRecDepth 100000 in
set_option maxHeartbeats 8000000 in
theorem Fol_s (n m nm mw cap : Nat) (ao : Option Addr) (xs : List Int) (kv : Int) (pk : P4) (w : World) (hn : n <= 64) (hm : m <= 64) (hmw : mw <= 1048576) (hA : aI w mw ao xs) (hs : xs.length = n * m) (hnm : xs.length = nm) (hK : aw w mw (av pk) kv) :
 Calls Try.prog 3 #[.agg #[.int .i64 (n : Int), .int .i64 (m : Int), .slice ao nm cap], av pk] w fun e w' => e = .returned (.bool true) /\ Below w.heap.size w w' := by
 have hxb := fw hA;have hwx : ∀ x ∈ xs, ag x.natAbs <= mw := fun x hx => au (hxb x hx);have hkw : ag kv.natAbs <= mw := hK.ag;obtain ⟨B, hB⟩ : ∃ B, 64 * (mw + 1) + mw = B := ⟨_, rfl⟩;have hB1 : B <= 70000000 := by omega
 have hmB : mw <= B := by omega
 have c1 := fun w' (h : aI w' mw ao xs) => vE n m nm mw cap ao xs w' hn hm (by omega) h hs hnm;have c2 := fun w' (h : aI w' mw ao xs) => vo n m nm mw cap ao xs w' hn hm (by omega) h hs hnm;have c3 := fun w' (h : aI w' mw ao xs) => wm n m nm mw cap ao xs w' hn hm (by omega) h hs hnm;have c4 := fun d pd w' (h : aI w' mw ao xs) (hd0 : d ≠ 0) (hd : aw w' B (av pd) d) => mP n m nm B cap ao xs d pd w' hn hm (by omega) (h.up hmB) hs hnm hd0 hd;have c5 := fun w' (h : aI w' mw ao xs) => vj n m nm mw cap ao xs w' hn hm (by omega) h hs hnm;have hmm4 : m * m <= 4096 := Nat.mul_le_mul hm hm;have c6 : ∀ d (zo ho : Option Addr) zc hc zs hs w', j3 m n d (ai xs n m) zs -> ag d.natAbs <= B -> zs = hs.take (m * m) -> dT w' zo zs -> dT w' ho hs -> Calls Try.prog 13 #[.agg #[.int .i64 (m : Int), .int .i64 (m : Int), .slice zo (m * m) zc], .agg #[.int .i64 (m : Int), .int .i64 (m : Int), .slice ho (m * m) hc]] w' fun e w'' => e = .returned (.bool true) /\ Below w'.heap.size w' w'' := by
  intro d zo ho zc hc zs hs w' hZ hdw he hN hN2;have hl : zs.length = m * m := hZ.1;have hw : ∀ x ∈ zs, ag x.natAbs <= 17592186044415 := fun x hx => Nat.le_trans (hZ.wl hdw x hx) (by omega);have h2 := hN2.take (m * m);rw [<- he] at h2;have := r9 m m zo ho zc hc zs zs w' hN h2 (by omega) (by omega) hw hw;rw [hl, decide_eq_true rfl] at this;exact this
 have f1 := fun v w' c2 hs' (hv : lP n m xs v) (hw : kQ n m xs w') (h2 : cR n m (ai xs n m) m c2) (hF : u5 n m xs hs') => sF hn hm hs hxb hv hw h2 hF;have f2 : ∀ v, lP n m xs v -> ag v.natAbs <= 64 * (mw + 1) /\ ag (v * kv).natAbs <= B := fun v h => by
  have h1 := h.wl2 hn hwx;refine ⟨h1, ?_⟩;have h3 := cg v.natAbs kv.natAbs;rw [Int.natAbs_mul];omega
 have f3 : ∀ v, kQ n m xs v -> ag v.natAbs <= B := fun v h => Nat.le_trans (h.wl hn hwx) (by omega);have f4 : ∀ v x, lP n m xs v -> kQ n m xs x -> v ∣ x := fun v x hv hw => by
  have hv' := hv;obtain ⟨k', e1, e2, zs', hN, _⟩ := hv;exact (kN hn hm hs hxb hv' hw hN.1 hN.2.1).2.2.1
 have f5 : ∀ v, lP n m xs v -> v ≠ 0 := fun v ⟨k', e1, e2, zs', hN, e⟩ => by
  have := hN.pos.1;rw [<- e] at this;omega
 have f6 : ∀ v, kQ n m xs v -> v ≠ 0 := fun v ⟨k', e1, e2, q1, q2, e⟩ => by
  have := q1.core q2;omega
 have HC := Lib.hid (And.intro c1 (And.intro c2 (And.intro c3 (And.intro c4 (And.intro c5 (And.intro c6 (And.intro f1 (And.intro f2 (And.intro f3 (And.intro f4 (And.intro f5 (And.intro f6 hmm4))))))))))));clear c1 c2 c3 c4 c5 c6 f1 f2 f3 f4 f5 f6 hxb hwx hB hs hnm hmm4;have HF := ((Fr.nil (fun _ => False) w).i hK).l hA (by simp [En.wr, En.at]);clear hA hK;refine bB (S0 := fun _ => False) Try.func3 HF ?_;clear HF;refine ae ?_;refine rW [] ?_;refine aW fun g2 => ?_;refine aW fun g3 => ?_;refine dW ?_;refine eW ?_;refine ae ?_;refine rW [] ?_;refine cV (v := .bool true) (fun w' H => lZ w') ?_;refine dW ?_;refine eW ?_;refine ae ?_;refine cd ?_;refine ae ?_;refine rW [] ?_;refine dW ?_;refine cG (α := Nat × (Nat -> Nat)) (mk := fun p => .tuple #[.int .i64 (p.1 : Int), .int .i64 0]) (ens := fun p => [.pr (cR n m (ai xs n m) p.1 p.2)]) (hne := ⟨(0, fun _ => 0)⟩) (fun w' H => (HC.out.1 w' (H.all (.ls mw ao xs) (by simp))).mono fun e w'' ⟨⟨p, he, h0⟩, hbb⟩ => ⟨p, he, hbb, fun e he => by rcases List.mem_singleton.1 he with rfl; exact ⟨h0, fun _ h => h.elim⟩, List.pairwise_singleton ..⟩) fun pr => ?_;refine dW ?_;refine dW ?_;refine dW ?_;refine dW ?_;refine dW ?_;refine eW ?_;refine ae ?_;obtain ⟨r, cs⟩ := pr;refine kI (A := cR n m (ai xs n m) r cs) (by simp) fun hp => ?_;have HP := Lib.hid hp;clear hp;refine rW [] ?_;by_cases hrm : r = m
 · subst hrm;refine dW ?_;refine dB false ?_;refine dW ?_;refine dG ?_;refine dG ?_;refine dG ?_;refine mf false ?_;by_cases hk0 : kv = 0
   · subst hk0;refine dW ?_;refine dW ?_;refine dG ?_;refine xr (v := .int .i64 0) (fun w' H => eh (av pk) 0 w' ((H.all (.at mw (av pk) 0) (by simp [av]) : aw ..).mono (by omega))) ?_;refine mf true ?_;refine dW ?_;refine eW ?_;refine ae ?_;refine eB ?_;refine ae ?_;refine rW [] ?_;refine dW ?_;refine eW ?_;refine ae ?_;refine dt fun w' H => ?_;exact ⟨_, dA, rfl, H.below⟩
   · have hz := zs1 hk0;refine dW ?_;refine dW ?_;refine dG ?_;refine xr (v := .int .i64 (bX kv)) (fun w' H => eh (av pk) kv w' ((H.all (.at mw (av pk) kv) (by simp [av]) : aw ..).mono (by omega))) ?_;refine mf false ?_;refine dW ?_;refine eW ?_;refine ae ?_;refine cd ?_;refine ae ?_;refine rW [] ?_;refine dW ?_;refine cG (α := Int × P4) (mk := fun q => .tuple #[.agg #[.bool q.2.1, .slice q.2.2.1 q.2.2.2.1 q.2.2.2.2], .int .i64 0]) (ens := fun q => [.own w.heap.size (av q.2) q.1, .pr (lP n r xs q.1)]) (hne := ⟨(0, p0)⟩) (fun w' H => cND9 (HC.out.2.1 w' (H.all (.ls mw ao xs) (by simp))) H.size) fun qv => ?_;refine dW ?_;refine dW ?_;refine dW ?_;refine aW fun g7 => ?_;refine sG ?_;refine dW ?_;refine eW ?_;refine ae ?_;obtain ⟨xv, pv⟩ := qv;refine kI (A := lP n r xs xv) (by simp) fun hv => ?_;have HVr := Lib.hid (And.intro hv (And.intro (HC.out.2.2.2.2.2.2.2.1 xv hv) (HC.out.2.2.2.2.2.2.2.2.2.2.1 xv hv)));clear hv;refine rW [] ?_;refine dW ?_;refine cG (α := Int × P4) (mk := fun q => .tuple #[.agg #[.bool q.2.1, .slice q.2.2.1 q.2.2.2.1 q.2.2.2.2], .int .i64 0]) (ens := fun q => [.own w.heap.size (av q.2) q.1, .pr (kQ n r xs q.1)]) (hne := ⟨(0, p0)⟩) (fun w' H => cND9 (HC.out.2.2.1 w' (H.all (.ls mw ao xs) (by simp))) H.size) fun qw => ?_;refine dW ?_;refine dW ?_;refine dW ?_;refine aW fun g9 => ?_;refine sG ?_;refine dW ?_;refine eW ?_;refine ae ?_;obtain ⟨xw, pw⟩ := qw;refine kI (A := kQ n r xs xw) (by simp) fun hv => ?_;have HWr := Lib.hid (And.intro hv (And.intro (HC.out.2.2.2.2.2.2.2.2.1 xw hv) (HC.out.2.2.2.2.2.2.2.2.2.2.2.1 xw hv)));clear hv;obtain ⟨d, hd⟩ : ∃ d, xv * kv = d := ⟨_, rfl⟩;have hd0 : d ≠ 0 := by rw [<- hd]; exact Int.mul_ne_zero HVr.out.2.2 hk0
     have hdw : ag d.natAbs <= B := by rw [<- hd]; exact HVr.out.2.1.2
     have HD := Lib.hid (And.intro (show xv ∣ d by rw [<- hd]; exact Int.dvd_mul_right ..) (And.intro hd0 (And.intro hdw hd)));clear hd0 hdw hd;refine rW [] ?_;refine dW ?_;refine dW ?_;refine dW ?_;refine cNo (x := d) (fun w' H => by
      have := fR (av pv) (av pk) xv kv (64 * (mw + 1)) mw w' (ak.int (H.all (.own w.heap.size (av pv) xv) (by simp [av])) HVr.out.2.1.1) (H.all (.at mw (av pk) kv) (by simp [av])) (by omega);rw [HD.out.2.2.2] at this;exact this.mono fun e w'' ⟨⟨v, he, ho⟩, hb⟩ => ⟨⟨v, he, ak.mono ho H.size⟩, hb⟩) fun pd => ?_
     refine kt (α := (Option Addr × Nat) × List Int) (mk := fun p => .tuple #[.agg #[.int .i64 (r : Int), .int .i64 (r : Int), .slice p.1.1 (r * r) p.1.2], .int .i64 0]) (ao := fun p => p.1.1) (xs := fun p => p.2) (A := fun p => j3 r n d (ai xs n r) p.2) (hne := ⟨((none, 0), [])⟩) (fun w' H => HC.out.2.2.2.1 d pd w' (H.all (.ls mw ao xs) (by simp)) HD.out.2.1 (ak.int (H.all (.own w.heap.size (av pd) d) (by simp [av])) HD.out.2.2.1)) fun q1 => ?_;refine dW ?_;refine dW ?_;refine dW ?_;refine aW fun g11 => ?_;refine sG ?_;refine dW ?_;refine eW ?_;refine ae ?_;obtain ⟨⟨zo, zc⟩, zs⟩ := q1;refine kI (A := j3 r n d (ai xs n r) zs /\ ∀ b o, zo = some ⟨b, o, none⟩ -> w.heap.size <= b) (by simp) fun hq => ?_;have HZ := Lib.hid hq.1;clear hq;refine rW [] ?_;refine dW ?_;refine dW ?_;refine kt (α := (Option Addr × Nat) × List Int) (mk := fun p => .tuple #[.agg #[.int .i64 (r : Int), .int .i64 (r : Int), .slice p.1.1 (r * r) p.1.2], .int .i64 0]) (ao := fun p => p.1.1) (xs := fun p => p.2) (A := fun p => j3 r n xw (ai xs n r) p.2) (hne := ⟨((none, 0), [])⟩) (fun w' H => HC.out.2.2.2.1 xw pw w' (H.all (.ls mw ao xs) (by simp)) HWr.out.2.2 (ak.int (H.all (.own w.heap.size (av pw) xw) (by simp [av])) HWr.out.2.1)) fun q2 => ?_;refine dW ?_;refine dW ?_;refine dW ?_;refine aW fun g13 => ?_;refine sG ?_;refine dW ?_;refine eW ?_;refine ae ?_;obtain ⟨⟨yo, yc⟩, ys⟩ := q2;refine kI (A := j3 r n xw (ai xs n r) ys /\ ∀ b o, yo = some ⟨b, o, none⟩ -> w.heap.size <= b) (by simp) fun hq => ?_;have HY := Lib.hid hq.1;clear hq;refine rW [] ?_;refine dW ?_;refine kt (α := (Option Addr × Nat) × List Int) (mk := fun p => .tuple #[.agg #[.int .i64 (n : Int), .int .i64 (r : Int), .slice p.1.1 (n * r) p.1.2], .int .i64 0]) (ao := fun p => p.1.1) (xs := fun p => p.2) (A := fun p => u5 n r xs p.2 /\ n * r <= p.1.2) (hne := ⟨((none, 0), [])⟩) (fun w' H => HC.out.2.2.2.2.1 w' (H.all (.ls mw ao xs) (by simp))) fun q3 => ?_;refine dW ?_;refine dW ?_;refine dW ?_;refine aW fun g15 => ?_;refine sG ?_;refine dW ?_;refine eW ?_;refine ae ?_;obtain ⟨⟨ho, hc⟩, hs⟩ := q3;refine kI (A := (u5 n r xs hs /\ n * r <= hc) /\ ∀ b o, ho = some ⟨b, o, none⟩ -> w.heap.size <= b) (by simp) fun hq => ?_;have hf := HC.out.2.2.2.2.2.2.1 xv xw cs hs HVr.out.1 HWr.out.1 HP.out hq.1.1;have e1 := hf.2.2.2.2 d zs HD.out.1 HZ.out;have e2 := hf.2.2.2.2 xw ys (HC.out.2.2.2.2.2.2.2.2.2.1 xv xw HVr.out.1 HWr.out.1) HY.out;have hrr := HC.out.2.2.2.2.2.2.2.2.2.2.2.2;obtain ⟨R, hR⟩ : ∃ R, r * r = R := ⟨_, rfl⟩;obtain ⟨NR, hNR⟩ : ∃ NR, n * r = NR := ⟨_, rfl⟩;have h1 : R <= NR := by rw [<- hR, <- hNR]; exact hf.1
     have h2 : NR <= hc := by rw [<- hNR]; exact hq.1.2
     have h3 : R <= 4096 := by rw [<- hR]; exact hrr
     have h4 : ¬ (NR : Int) < (R : Int) := by omega
     have HE := Lib.hid (And.intro e1 (And.intro e2 hR));rw [hR, hNR];clear hf e1 e2 hrr hNR hR hq;refine rW [] ?_;refine dW ?_;refine dB false ?_;refine dW ?_;refine dG ?_;refine mf false ?_;refine dW ?_;refine dW ?_;refine dG ?_;refine mf false ?_;refine dW ?_;refine dW ?_;refine dG ?_;refine dG ?_;refine dG ?_;refine dG ?_;refine dG ?_;refine dGE (mulS HE.out.2.2 h3) ?_;refine mf false ?_;refine dW ?_;refine eW ?_;refine ae ?_;refine cd ?_;refine ae ?_;refine rW [] ?_;refine dW ?_;refine dW ?_;refine dW ?_;refine dW ?_;refine dW ?_;refine dW ?_;refine dE (mulS HE.out.2.2 h3) ?_;refine slhW ho NR hc R (by omega) ?_;refine dW ?_;refine aW fun g17 => ?_;refine sG ?_;refine eW ?_;refine ae ?_;refine rW [] ?_;refine dW ?_;refine dW ?_;refine cV (v := .bool true) (fun w' H => by have := HC.out.2.2.2.2.2.1 d zo ho zc hc zs hs w' HZ.out HD.out.2.2.1 HE.out.1 (H.all (.gI zo zs) (by simp)) (H.all (.gI ho hs) (by simp)); rw [HE.out.2.2] at this; exact this) ?_;refine dW ?_;refine dG ?_;refine dG ?_;refine xr (v := .bool true) (fun w' H => by have := HC.out.2.2.2.2.2.1 xw yo ho yc hc ys hs w' HY.out HWr.out.2.1 HE.out.2.1 (H.all (.gI yo ys) (by simp)) (H.all (.gI ho hs) (by simp)); rw [HE.out.2.2] at this; exact this) ?_;refine dW ?_;refine dW ?_;refine eW ?_;refine ae ?_;refine dt fun w' H => ?_;exact ⟨_, dA, rfl, H.below⟩
 · have hrm2 : ¬ (r : Int) = (m : Int) := by omega
   refine dW ?_;refine dB false ?_;refine dW ?_;refine dG ?_;refine dG ?_;refine dG ?_;refine mf true ?_;refine dW ?_;refine dW ?_;refine uG ?_;refine uC ?_;refine uG ?_;refine dW ?_;refine eW ?_;refine ae ?_;refine eB ?_;refine ae ?_;refine rW [] ?_;refine dW ?_;refine eW ?_;refine ae ?_;refine dt fun w' H => ?_;exact ⟨_, dA, rfl, H.below⟩
end Go.Proofs.Ytjjlmfmoihooiaa
namespace Go.Proofs.Ytjjlmfmoihooiaa
open Go.ChangeShapes Go.WideShapes Go.ChangeAt Go.RowKit Go.Deep
set_option maxRecDepth 100000 in
theorem open_int {H : Type} {enc : TypeId × Value -> H} {w : World} {base : Nat} {sp : Nat -> Bool} {held : Bool} {r : Reach} {b0 : Nat} {v : Value} {d : DataW H} {p : List MemPlace} (hv : Value.okWide Try.prog w r b0 27 v) (h : DataW.Trod enc Try.prog w base sp held 27 v d p) : ∃ z : Int, aw w (Rows.uptoBulk d) v z := by
 obtain ⟨v0, v1, y0, y1, n, rfl, rfl, rfl, h0, h1⟩ := Joins.open_agg2 Try.underlying27 (by kernel_rfl) (by kernel_rfl) hv h;obtain ⟨b, hb, hy0⟩ := DataW.trod_bool Try.underlying4 h0;obtain ⟨ao, len, cap, ws, hc, hlen, hcap, hW, hbk⟩ := lC h1;simp at hb hc;subst hb hc;refine ⟨zi b (aa ws), b, ao, len, cap, ws, rfl, hW, hlen, ?_, hcap, rfl⟩;rw [lH]; simp only [Rows.uptoBulkAll]; omega
namespace lawFo
theorem own : ownKnob Try.prog.godebug = none := by kernel_rfl
set_option maxRecDepth 100000 in
theorem contract (H : Type) (enc : TypeId × Value -> H) (Wd : World) (base : Nat) (args : Array Value) (ds gs : List (DataW H)) (before : List MemPlace)
 (hval : ∀ (j : Nat) t v, Try.f3.params[j]? = some t -> args[j]? = some v -> Value.okWide Try.prog Wd .any base t v)
 (hW : DataW.Whole enc Try.prog Try.f3.params.toList Rows.modhnfFollowsSpec.vars false Wd args.toList ds gs before) (hk : Rows.uptoSmall H (ds ++ gs) = true) :
 Calls Try.prog 3 args Wd fun e W' => ∃ v, e = .returned v /\ Rows.modhnfFollowsSpec.post enc Try.prog Try.f3 false true false false Wd args v W' := by
 have hW' := hW;obtain ⟨p, q, hA0, hV, rfl, hfz, hnd⟩ := hW;have hA : DataW.TrodAll enc Try.prog Wd 0 (fun _ => true) true Try.f3.params.toList args.toList ds p := hA0;rw [Try.params3] at hA hval;obtain ⟨v1, vs1, d1, ds1, p1, q1, hargs, rfl, rfl, h1, r1⟩ := trodAll_cons hA;obtain ⟨v2, vs2, d2, ds2, p2, q2, rfl, rfl, rfl, h2, r2⟩ := trodAll_cons r1;obtain ⟨rfl, rfl, rfl⟩ := trodAll_nil r2;obtain rfl : args = #[v1, v2] := by cases args; simp_all
 obtain ⟨rfl, rfl⟩ := trodVars_none hV;have hbk := qA hk;simp only [List.append_nil, Rows.uptoBulkAll] at hbk;obtain ⟨m, n, ao, len, cap, xs, rfl, hlen, hcap, hL, hb⟩ := ve (hval 0 _ v1 rfl rfl) h1;have R1 := ss (hval 0 _ _ rfl rfl) h1;obtain ⟨x2, hx2⟩ := open_int (hval 1 _ v2 rfl rfl) h2;obtain ⟨L, hLe, hLm⟩ : ∃ L, max (Rows.uptoBulk d1) (Rows.uptoBulk d2) = L /\ L <= 1048576 := ⟨_, rfl, by omega⟩;have hA1 : aI Wd L ao xs := fun hl => by
  obtain ⟨b, o, e, hlt, hc⟩ := hL hl;exact ⟨b, o, e, hlt, fun i hi => by obtain ⟨p, h0, h1, hx⟩ := hc i hi; exact ⟨p, h0, h1, hx.mono (by omega)⟩⟩
 have walk : Calls Try.prog 3 #[.agg #[.int .i64 m, .int .i64 n, .slice ao len cap], v2] Wd fun e w' => e = .returned (.bool true) /\ Below Wd.heap.size Wd w' := by
  obtain ⟨pd, rfl⟩ := hx2.parts;cases hs : bE m n len with
  | false => exact Fol_u m n ao len cap pd Wd R1.1 R1.2 hs
  | true =>
   obtain ⟨r, c, rfl, rfl, hr, hc, hrc⟩ := qu hs;exact Fol_s r c len L cap ao xs x2 pd Wd hr hc hLm hA1 (hlen.symm.trans hrc) hlen.symm (hx2.mono (by omega))
 refine walk.mono fun e W' ⟨he, hg⟩ => ?_;subst he;exact ⟨_, rfl, law_post (by kernel_rfl) rfl (by kernel_rfl) hW' rfl rfl rfl hg⟩
set_option maxRecDepth 100000 in
theorem lifted (os : Os) (started : os.Started) (H : Type) (enc : TypeId × Value -> H) (F : Stop.Interp) :
 ReturnsInHanded {} Try.checked os 3 .any ((Rows.OpenSpec.upto Rows.modhnfFollowsSpec).pre6 enc Try.prog Try.f3 Rows.modhnfFollowsUptoRow.domain false) (((Rows.OpenSpec.upto Rows.modhnfFollowsSpec).at F).post enc Try.prog Try.f3 false true false false) := by
 refine returnsInHanded_of_cond (C := Try.checked) (s := Rows.OpenSpec.upto Rows.modhnfFollowsSpec) (k := Rows.uptoSmall) rfl own started (by kernel_rfl) Try.func3
  (OpenSpec.witness (enc := enc) (C := Try.checked) (s := Rows.OpenSpec.upto Rows.modhnfFollowsSpec) (k := Rows.uptoSmall) rfl false ⟨#[], #[.agg #[.int .i64 0, .int .i64 0, .slice none 0 0], .agg #[.bool false, .slice none 0 0]], []⟩ 8 (by kernel_rfl) (by kernel_rfl) (by kernel_rfl)
   (x := ([.agg [.lit (.int .i64 0), .lit (.int .i64 0), .nil], .agg [.lit (.bool false), .nil]], [], [])) (by kernel_rfl) rfl (by kernel_rfl)) ?_
 intro W base args ds gs before hval hW _ hk _;exact contract H enc W base args ds gs before hval hW hk
theorem over : Rows.modhnfFollowsUptoRow.holds Try.pinned (Rows.OpenSpec.upto Rows.modhnfFollowsSpec) :=
 OpenClaim.holds_of_cond 3 Try.f3 rfl rfl rfl rfl rfl rfl rfl ⟨rfl, rfl, rfl, rfl, rfl⟩ rfl rfl rfl rfl rfl (by kernel_rfl) Try.func3 (by kernel_rfl)
  (of_decide_eq_true (by kernel_rfl)) (by unfold Func.isWrapper; first | (rw [if_pos (by decide +kernel)]; kernel_rfl) | (rw [if_neg (by decide +kernel)]; exact ⟨rfl, rfl⟩))
  (fun os started H enc _ F => lifted os started H enc F)
theorem proved : Rows.ModhnfFollowsUptoSaid := over
end lawFo
end Go.Proofs.Ytjjlmfmoihooiaa
