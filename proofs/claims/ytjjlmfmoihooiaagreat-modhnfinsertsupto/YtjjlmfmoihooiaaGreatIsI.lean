/- Part 9 of 9 of the proof that the law ModhnfInserts returns true for every input of bulk at most 1048576 and leaves its arguments as they were: the law itself. -/
import Derived.Test.YtjjlmfmoihooiaaGreatIsH
set_option linter.all false
set_option maxRecDepth 100000
set_option maxHeartbeats 4000000
namespace Go.Proofs.YtjjlmfmoihooiaaGreat
theorem Ech.le {n c : Nat} {E : Nat -> Nat -> Int} {l : Nat -> Nat} (h : Ech n c E l) : n <= c := by
 have hk : ∀ k, k < n -> k <= l k := by
  intro k;induction k with
  | zero => intro _; exact Nat.zero_le _
  | succ k ih =>
   intro hk;have h1 := ih (by omega);have h2 := h.inc k (k + 1) (by omega) hk;omega
 by_cases e : n = 0
 · omega
 · have h1 := hk (n - 1) (by omega);have h2 := h.lt (n - 1) (by omega);omega
structure bT (c n : Nat) (E : Nat -> Nat -> Int) (hs : List Int) (k : Nat) : Prop where
 len : hs.length = k * c
 herm : ∃ l, eK k c (aE hs k c) l
 sp : ba n E k (aE hs k c)
theorem bT.le {c n k : Nat} {E : Nat -> Nat -> Int} {hs : List Int} (h : bT c n E hs k) : k <= c := by
 obtain ⟨l, hl⟩ := h.herm;exact hl.toEch.le
theorem bT.unique {c n m k k' : Nat} {E F : Nat -> Nat -> Int} {hs hs' : List Int} (h : bT c n E hs k) (h' : bT c m F hs' k') (e : ba n E m F) : hs = hs' /\ k = k' := by
 obtain ⟨l, hl⟩ := h.herm;obtain ⟨l', hl'⟩ := h'.herm;obtain ⟨h1, _, h3⟩ := hl.unique hl' ((h.sp.symm.trans e).trans h'.sp);subst h1;exact ⟨xq h.len h'.len fun i j hi hj => h3 i hi j, rfl⟩
theorem bT.hf {c n k : Nat} {E : Nat -> Nat -> Int} {hs : List Int} (h : bT c n E hs k) : HF k c (aE hs k c) := by
 obtain ⟨l, hl⟩ := h.herm;exact ⟨k, l, Nat.le_refl _, hl, fun i h1 h2 => by omega⟩
theorem bT.to {c n m k : Nat} {E F : Nat -> Nat -> Int} {hs : List Int} (h : bT c n E hs k) (e : ba m F n E) : bT c m F hs k := ⟨h.len, h.herm, e.trans h.sp⟩
def iM (n : Nat) (E : Nat -> Nat -> Int) (v : Nat -> Int) : Nat -> Nat -> Int := fun a b => if a < n then E a b else v b
theorem fk {n : Nat} {E : Nat -> Nat -> Int} {v : Nat -> Int} {a : Nat} (h : a < n) (b : Nat) : iM n E v a b = E a b := if_pos h
theorem gO (n : Nat) (E : Nat -> Nat -> Int) (v : Nat -> Int) (b : Nat) : iM n E v n b = v b := if_neg (Nat.lt_irrefl _)
theorem ba.snoc {n m : Nat} {E F : Nat -> Nat -> Int} {v : Nat -> Int} (h : ba n E m F) (hv : ∀ b, E n b = v b) : ba (n + 1) E (m + 1) (iM m F v) := by
 constructor
 · intro k hk;by_cases e : k < n
   · exact (h.1 k e).trans (fun q hq => (Sp.row (iM m F v) (show q < m + 1 by omega)).congr (fun b => (fk hq b).symm))
   · obtain rfl : k = n := by omega
     exact (Sp.row (iM m F v) (Nat.lt_succ_self m)).congr (fun b => by rw [hv b, gO])
 · intro k hk;by_cases e : k < m
   · exact ((h.2 k e).trans (fun q hq => Sp.row E (show q < n + 1 by omega))).congr (fun b => fk e b)
   · obtain rfl : k = m := by omega
     exact (Sp.row E (Nat.lt_succ_self n)).congr (fun b => by rw [hv b, gO])
theorem ba.ug {n m : Nat} {E : Nat -> Nat -> Int} {v : Nat -> Int} (h : m <= n) (hz : ∀ a, m <= a -> a < n -> ∀ b, E a b = 0) : ba (n + 1) (iM n E v) (m + 1) (iM m E v) := by
 refine ba.snoc ⟨fun k hk => ?_, fun k hk => ?_⟩ (fun b => gO _ _ _ b)
 · by_cases e : k < m
   · exact (Sp.row E e).congr (fun b => fk hk b)
   · exact (Sp.zero m E).congr (fun b => by rw [fk hk]; exact hz k (by omega) hk b)
 · exact (Sp.row (iM n E v) (show k < n by omega)).congr (fun b => (fk (show k < n by omega) b).symm)
theorem vN {R : List Hd} {k i : Nat} (hi : i < k) (j : Nat) : aw (R.take k) i j = aw R i j := by
 by_cases h : i < R.length
 · rw [bU (R := R) h, bU (R := R.take k) (by simp; omega)]; simp
 · rw [eB (R := R) (by omega), eB (R := R.take k) (by simp; omega)]
theorem vS {R R' : List Hd} {c D k : Nat} (h : tO c D R k R') : bT c R.length (aw R) ((R'.take k).map Hd.xs).flatten k /\ ∀ x ∈ ((R'.take k).map Hd.xs).flatten, x.natAbs < W ^ D := by
 obtain ⟨l, hH⟩ := h.herm;have hl : (R'.take k).length = k := by rw [List.length_take, h.len]; exact Nat.min_eq_left h.kl
 have hm := uw (r := k) hl (fun q hq => h.sh q (List.mem_of_mem_take hq));have he : ∀ i, i < k -> ∀ j, aE ((R'.take k).map Hd.xs).flatten k c i j = aw R' i j := fun i hi j => (hm.2 i j).trans (vN hi j);exact ⟨⟨hm.1, ⟨l, hH.congr (fun a ha b => he a ha b)⟩, h.sp.trans (ba.of_eq (fun i hi j => (he i hi j).symm))⟩, mA hm.1 (fun i j hi _ => by rw [he i hi]; exact h.bd i j)⟩
theorem jG.ex (n m : Nat) (A : Mx) : ∀ c, c <= m -> ∃ k nu cs R d, jG n m A c k nu cs R d
 | 0, _ => ⟨0, fun i => i, fun i => i, A, 1, jG.start _ fun _ _ _ _ => rfl⟩
 | c + 1, hc => by
  obtain ⟨k, nu, cs, R, d, h⟩ := jG.ex n m A c (by omega);by_cases h0 : ∀ i, k <= i -> i < n -> R i c = 0
  · exact ⟨k, nu, cs, R, d, h.skip (by omega) h0⟩
  · obtain ⟨p, hp⟩ := Classical.not_forall.1 h0;obtain ⟨h1, hp⟩ := Classical.not_imp.1 hp;obtain ⟨h2, hp⟩ := Classical.not_imp.1 hp;have h3 := h.swap (R' := fun i j => R (jC k p i) j) h1 h2 fun _ _ _ _ _ => rfl;exact ⟨_, _, _, _, _, h3.take (R' := fun i j => if c < j then mn (k + 1) A (fun i => nu (jC k p i)) (lJ cs k c) (nu (jC k p i)) j else 0) (by omega) (by omega) (by
     show R (jC k p k) c ≠ 0;rw [show jC k p k = p by unfold jC; rw [if_pos rfl]]; exact hp) fun _ _ _ _ _ => rfl⟩
theorem jG.indep {n m k : Nat} {A : Mx} {nu cs : Nat -> Nat} {R : Mx} {d : Int} (h : jG n m A m k nu cs R d) : oh k fun t => A (nu t) := fun x hx t ht => by
 have h1 := u5 k (fun a b => A (nu a) (cs b)) t ht x (fun l b => A (nu l) (cs b)) k;have h2 : cD (fun a b => A (nu a) (cs b)) t (fun j => sm k fun l => x l * A (nu l) (cs j)) = cD (fun a b => A (nu a) (cs b)) t fun j => 0 * (0 : Int) := by
  refine congrArg _ (funext fun j => ?_);rw [hx (cs j)]; omega
 rw [h2, jf k _ t 0 (fun _ => 0) ht, Int.zero_mul, gH t ht fun l hl hlt => by
  rw [show Go.Proofs.YtjjlmfmoihooiaaGreat.bK k (cD (fun a b => A (nu a) (cs b)) t fun b => A (nu l) (cs b)) = 0 from ll k _ hl ht hlt fun b => by rw [aT _ hlt, bP], Int.mul_zero]] at h1
 have h3 : cD (fun a b => A (nu a) (cs b)) t (fun b => A (nu t) (cs b)) = fun a b => A (nu a) (cs b) := fQ (fun a b => A (nu a) (cs b)) t;rw [h3] at h1;have h4 : (Go.Proofs.YtjjlmfmoihooiaaGreat.bK k fun a b => A (nu a) (cs b)) ≠ 0 := fun e => h.d0 (h.dE.trans e);exact (Int.mul_eq_zero.1 h1.symm).resolve_right h4
theorem bT.bdN0 {c m n k : Nat} {E : Nat -> Nat -> Int} {hs : List Int} (h : bT c n E hs k) (hc : c <= 66) (hE : ∀ i b, i < n -> (E i b).natAbs < W ^ m) (hz : ∀ i b, c <= b -> E i b = 0) : ∀ x ∈ hs, x.natAbs < W ^ hW m := by
 obtain ⟨l, hl⟩ := h.herm;obtain ⟨k', nu, cs, R, d, hb⟩ := jG.ex n c E c (Nat.le_refl _);obtain ⟨rfl, _⟩ := hb.leads hz hl.toEch h.sp.symm;have hkc := h.le;have h1 := hl.bound (M := W ^ m) (a := fun t => E (nu t)) (fun t ht => h.sp.1 _ (hb.lt t (by have := hb.kn; omega))) hb.indep fun t j ht => Nat.le_of_lt (hE _ j (hb.lt t (by have := hb.kn; omega)));exact mA h.len fun i j hi _ => Nat.lt_of_le_of_lt (h1 i j hi) (jn (by omega) (by omega))
theorem bT.bdN {c m n k : Nat} {E : Nat -> Nat -> Int} {hs : List Int} (h : bT c n E hs k) (hc : c <= 66) (hE : ∀ i b, i < n -> (E i b).natAbs < W ^ m) (hz : ∀ i b, i < n -> c <= b -> E i b = 0) : ∀ x ∈ hs, x.natAbs < W ^ hW m := by
 obtain ⟨F, hF⟩ : ∃ F : Nat -> Nat -> Int, F = fun i b => if i < n then E i b else 0 := ⟨_, rfl⟩;have e : ∀ i, i < n -> ∀ b, F i b = E i b := fun i hi b => by rw [hF]; exact if_pos hi
 have h1 : bT c n F hs k := h.to (ba.of_eq fun i hi b => e i hi b);refine h1.bdN0 hc (fun i b hi => by rw [e i hi]; exact hE i b hi) fun i b hb => ?_;by_cases hi : i < n
 · rw [e i hi]; exact hz i b hi hb
 · rw [hF]; exact if_neg hi
end Go.Proofs.YtjjlmfmoihooiaaGreat
namespace Go.Proofs.YtjjlmfmoihooiaaGreat
open Go.RowKit
theorem yP (r c m : Nat) (ao : Option Addr) (len cap : Nat) (xs : List Int) (w : World) (hr : r <= 64) (hc : c <= 64) (h : aL w 17592186044415 ao xs) (hm : ∀ x ∈ xs, x.natAbs < W ^ m) (hm1 : m <= 140000000) (hl : len = xs.length) (hs : xs.length = r * c) :
 Calls Tryz.prog 19 #[.agg #[.int .i64 (r : Int), .int .i64 (c : Int), .slice ao len cap]] w fun e w' => (∃ (b : Nat) (hs : List Int) (k : Nat), e = .returned (.tuple #[.agg #[.int .i64 (k : Int), .int .i64 (c : Int), .slice (some ⟨b, 0, none⟩) (k * c) (k * c)], .int .i64 0]) /\ w.heap.size <= b /\ aK w' b hs /\ k <= r /\ bT c r (aE xs r c) hs k /\ ∀ x ∈ hs, x.natAbs < W ^ hW m) /\ Below w.heap.size w w' := by
 subst hl;have hlad : pw 66 m <= 4000000000000 := by unfold pw fl; omega
 have hhw : hW m <= 17592186044415 := by unfold hW fl; omega
 have hwl : ∀ x ∈ xs, ag x.natAbs <= 17592186044415 := fun x hx => Nat.le_trans (au (hm x hx)) (by omega);have HXS := hi_ h; clear h;have HLad := hi_ (And.intro hlad (And.intro hhw hwl)); clear hlad hhw hwl;have HMM := hi_ hm; clear hm;have hsnd : aR (r : Int) (c : Int) xs.length = true := by
  unfold aR bJ;rw [hs]; simp; omega
 have HS := hi_ hs; clear hs;have HCK := hi_ (dC hsnd); clear hsnd;go_enter Tryz.func19, Tryz.ntmps19;go_wp2_with fail
 obtain ⟨r1, r2, hb⟩ := fe w #[.int .i64 (r : Int), .int .i64 (c : Int), .slice ao xs.length cap] #[.int .i64 0, .int .i64 0, .slice none 0 0] 24 24;generalize (w.alloc (.cells #[.int .i64 (r : Int), .int .i64 (c : Int), .slice ao xs.length cap] 24)).alloc (.cells #[.int .i64 0, .int .i64 0, .slice none 0 0] 24) = w2 at *;refine (cJ (r : Int) (c : Int) ao xs.length cap _ (by omega) (by omega)).mono ?_;rintro e w3 ⟨rfl, hb3⟩;rw [HCK.out];have R1 := hi_ (r1.below hb3 r1.lt);have R2 := hi_ (r2.below hb3 r2.lt);have L3 := hi_ ((HXS.out.below hb).below hb3);have B3 := hi_ (hb.trans (hb3.mono hb.size));have hs2 : w.heap.size + 1 < w3.heap.size := R2.out.lt;have e0 : w3.cell? ⟨w.heap.size, 0, none⟩ = some (.int .i64 (r : Int)) := R1.out.cell 0;have e1 : w3.cell? ⟨w.heap.size, 1, none⟩ = some (.int .i64 (c : Int)) := R1.out.cell 1;have e2 : w3.cell? ⟨w.heap.size, 2, none⟩ = some (.slice ao xs.length cap) := R1.out.cell 2;clear r1 r2 hb hb3;go_wp2_with fail
 refine (callsIn_wide.1 (pX r c ao xs.length cap xs w3 hr hc L3.out HLad.out.2.2 rfl HS.out)).mono ?_;rintro e w4 ⟨⟨o, R, rfl, hM, hRl, hRx, hob, hRb⟩, hb4⟩;obtain ⟨hSh, hE⟩ := kM hRl HS.out hRx;obtain ⟨k, R', hRed, hOk⟩ := o3 (N := 66) (B := 4000000000000) (m := m) hSh (fun i b => by rw [hE]; exact fV (eZ m) HMM.out i b) (by omega) (by omega) HLad.out.1;have hlR' : R'.length = r := hOk.len.trans hRl;obtain ⟨hH, hHb⟩ := vS hOk;have hH := hH.to (F := aE xs r c) (m := r) (by rw [hRl]; exact ba.of_eq (fun i _ j => (hE i j).symm));have hkr : k <= r := by rw [<- hRl]; exact hOk.kl
 have hred := oF o r 4000000000000 c k R R' w4 hM (Nat.le_refl _) hRed (by omega) (by omega);rw [hRl] at hred;have HRed := hi_ hred; clear hred;have HOk := hi_ hOk; clear hOk;have HH := hi_ (And.intro hH hHb); clear hH hHb;have R14 := hi_ (R1.out.below hb4 R1.out.lt);have R24 := hi_ (R2.out.below hb4 R2.out.lt);have B4 := hi_ (B3.out.trans (hb4.mono B3.out.size));have HRb := hi_ (And.intro hob hRb);clear hRed hM hb4 e0 e1 e2 hSh hE hRx hob hRb R1 R2 L3 B3;rw [hRl];go_wp2_with fail
 refine HRed.out.mono ?_;rintro e w5 ⟨rfl, hM5, hC5⟩;rw [hlR'];have hown : ∀ q, (q = o ∨ ∃ x ∈ R, x.blk = q) -> w3.heap.size <= q := by
  rintro q (rfl | ⟨x, hx, rfl⟩)
  · exact HRb.out.1
  · exact HRb.out.2 x hx
 have hns : ∀ q, q < w3.heap.size -> ¬ (q = o ∨ ∃ x ∈ R, x.blk = q) := fun q hq h => by have := hown q h; omega
 have R15 := hi_ (hC5.row R14.out (hns _ (by omega)));have R25 := hi_ (hC5.row R24.out (hns _ hs2));have B5 : Hid (Below w.heap.size w w5) := hi_ (B4.out.trans (hC5.kD (B := w.heap.size) (fun q hq => by have := hown q hq; omega) B4.out.size));have hrows := hM5.vD (L := 17592186044415) (fun x hx y hy => Nat.le_trans (oo HOk.out.bd x hx y hy) HLad.out.2.1) k (by omega);have HRows := hi_ hrows; clear hrows;have c1 : w5.cell? ⟨w.heap.size, 1, none⟩ = some (.int .i64 (c : Int)) := R15.out.cell 1;have hsh5 : ∀ x ∈ (R'.take k).map Hd.xs, x.length = c := fun x hx => by
  obtain ⟨q, hq, rfl⟩ := List.mem_map.1 hx; exact HOk.out.sh q (List.mem_of_mem_take hq)
 clear hM5 hC5 R14 R24 B4 HRed hown hns;have hs5 : w.heap.size <= w5.heap.size := B5.out.size;have hkr1 : ¬ r < k := by omega
 go_wp2_with fail
 refine wp_region_any (by kernel_rfl) ?_;try (change wpAny _ _ _ _ _ _ _ (World.drew _))
 refine wpAny_take (i := 0) (v := ?_) rfl (by kernel_rfl) (by kernel_rfl) (by kernel_rfl) (fun _ _ _ h => h) (Or.inl ⟨by kernel_rfl, ?_⟩) ?_;rotate_left
 · intro w; go_simp; try (with_reducible rfl)
 refine wpAny_take (i := 1) (v := ?_) rfl (by kernel_rfl) (by kernel_rfl) (by kernel_rfl) (fun _ _ _ h => h) (Or.inl ⟨by kernel_rfl, ?_⟩) ?_;rotate_left
 · intro w; go_simp; try (with_reducible rfl)
 refine wpAny_take (i := 2) (v := ?_) rfl (by kernel_rfl) (by kernel_rfl) (by kernel_rfl) (fun _ _ _ h => h) (Or.inl ⟨by kernel_rfl, ?_⟩) ?_;rotate_left
 · intro w; go_simp; try (with_reducible rfl)
 refine wpAny_take (i := 3) (v := ?_) rfl (by kernel_rfl) (by kernel_rfl) (by kernel_rfl) (fun _ _ _ h => h) (Or.inl ⟨by kernel_rfl, ?_⟩) ?_;rotate_left
 · intro w; go_simp; try (with_reducible rfl)
 refine wpAny_ready (rs := [4]) (by kernel_rfl) (by simp) ?_;refine AllReady.cons rfl (fun K hK => ?_) AllReady.nil;go_simp;refine hK _ _ ?_;clear hK K;refine wpAny_ready (rs := [5]) (by kernel_rfl) (by simp) ?_;refine AllReady.cons rfl (fun K hK => ?_) AllReady.nil;go_simp;go_wp2_with (first | (go_at_call 43; refine (qV o _ k c ((R'.take k).map Hd.xs) _ (HRows.out.below ((Below.refl _ w5).drew)) (by rw [List.length_map, List.length_take]; omega) hsh5 (by omega) (by omega)).mono ?_; rintro e w6 ⟨⟨b, rfl, hbb, hRb6⟩, hb6⟩; have hb6 := ((Below.refl w5.heap.size w5).drew).trans hb6; have R26 := hi_ (R25.out.below hb6 R25.out.lt); have B6 := hi_ (B5.out.trans (hb6.mono B5.out.size)); have HR6 := hi_ hRb6; have hbb : w5.heap.size <= b := hbb; clear hRb6 hb6; have z0 := R26.out.cell 0; have z1 := R26.out.cell 1; have z2 := R26.out.cell 2; have y0 := R26.out.free 0; have y1 := R26.out.free 1; have y2 := R26.out.free 2))
 refine wpAny_ready (rs := [6]) (by kernel_rfl) (by simp) ?_;refine AllReady.cons rfl (fun K hK => ?_) AllReady.nil;go_simp;refine hK _ _ ?_;clear hK K z0 z1 z2 y0 y1 y2;refine wpAny_take (i := 7) (v := ?_) rfl (by kernel_rfl) (by kernel_rfl) (by kernel_rfl) (fun _ _ _ h => h) (Or.inl ⟨by kernel_rfl, ?_⟩) ?_;rotate_left
 · intro w; go_simp; try (with_reducible rfl)
 refine wpAny_done (by kernel_rfl) ?_ _;go_simp;go_wp2;refine bodyPost_ret (iI (p := 2) (q := 3) (by kernel_rfl) _ _ (w.heap.size + 1) _ _ _ rfl (R26.out.yS (.int .i64 (k : Int)) (.int .i64 (c : Int)) (.slice (some ⟨b, 0, none⟩) (k * c) (k * c)))) rfl ?_;exact ⟨⟨b, _, k, rfl, by omega, HR6.out.pP R26.out (k : Int) (c : Int) _ _ _, hkr, HH.out.1, HH.out.2⟩, ((B6.out.setCell (p := ⟨w.heap.size + 1, 0, none⟩) (Nat.le_succ _) _).setCell (p := ⟨w.heap.size + 1, 1, none⟩) (Nat.le_succ _) _).setCell (p := ⟨w.heap.size + 1, 2, none⟩) (Nat.le_succ _) _⟩
theorem uH (n : Nat) : (Builtin.zeroCells (Value.slice none 0 0).cells n).toList = List.replicate n (.slice none 0 0) := by
 have e : (Value.slice none 0 0).cells = #[.slice none 0 0] := rfl;rw [e];unfold Builtin.zeroCells;refine List.ext_getElem (by simp) fun i h1 h2 => ?_;simp [Nat.mod_one]
theorem aI.rep (n : Nat) : aI (List.replicate n (.slice none 0 0)) := fun v hv k => by simp at hv; simp [hv.2]
theorem aa.Aw {w : World} {b k : Nat} {t : TypeId} {R : List Value} {v : Value} (h : aa w b t R) (hn : aI R) (hk : k < R.length) : ef (w.setCell ⟨b, k, none⟩ v) b t (R.take k ++ [v]) := by
 refine ⟨R.drop (k + 1), fun c hc => hn c (List.mem_of_mem_drop hc), ?_⟩;have := h.set k v;rw [List.set_eq_take_append_cons_drop, if_pos hk] at this;simpa using this
theorem yY {w : World} {ops : Array Oper} {rest : List Oper} {o : Oper} {a : Act} {Q : Exit -> Act -> World -> Prop} (hg : o.guard = none) (s x : Operand)
 (hop : o.op = Op.call { callee := Callee.builtin Builtin.append, args := #[s, x], argTypes := #[70, 70] })
 (b k cap : Nat) (R : List Value) (ad : Addr) (c : Nat) (v : Value) (hr : aa w b 22 R) (hl : R.length = cap) (hk : k <= cap) (hcap : cap <= 1000) (hn : aI R) (h1 : v.oneCell' = true)
 (hs : a.eval s = .slice (some ⟨b, 0, none⟩) k cap) (hx : a.eval x = .slice (some ad) 1 c) (hv : ∀ j u, [v][j]? = some u -> w.cell? (ad.add j) = some u)
 (hK : ∀ b' cap' w', ef w' b' 22 (R.take k ++ [v]) -> (b' = b ∨ b' = w.heap.size) -> k + 1 <= cap' -> aN (· = b) w w' -> wpList Tryz.prog ops Q rest (a.put o.dst (.slice (some ⟨b', 0, none⟩) (k + 1) cap')) w') :
 wpList Tryz.prog ops Q (o :: rest) a w := by
 by_cases hroom : k < cap
 · refine sB hg s x 70 hop 22 (.slice none 0 0) 1 24 Tryz.underlying70 kK b 0 k cap ad 1 c [v] hs hx rfl hv (by simpa using h1) hroom ?_ ?_ ?_
   · intro j hj;obtain rfl : j = 0 := by simpa using hj
     rw [Nat.zero_add, Nat.mul_one, Nat.add_zero, hr.cell];simp; omega
   · intro j _; exact hr.free _
   · have e : w.setCells b (0 + k * 1) [v] = w.setCell ⟨b, k, none⟩ v := by rw [Nat.zero_add, Nat.mul_one]; rfl
     rw [e];exact hK b cap _ (hr.Aw hn (by omega)) (.inl rfl) hroom ((aN.refl (· = b) w).set (p := ⟨b, k, none⟩) rfl _)
 · obtain rfl : k = cap := by omega
   refine wpList_plain hg fun K hK' => ?_;obtain ⟨i, hi, hz, hsz, hb⟩ := info_parts kK;have hrun := run_append_grow (P := Tryz.prog) (w := w) 70 o.type 22 i (.slice none 0 0) Tryz.underlying70 hi hz ⟨b, 0, none⟩ k k R (by rw [hsz, hl]; omega) (fun j u hj => by
    have e : (⟨b, 0, none⟩ : Addr).add j = ⟨b, j, none⟩ := by unfold Addr.add; simp; omega
    rw [e, hr.cell]; exact hj) ad 1 c [v] (by rw [hsz]; rfl) hv (by omega) (by omega) (growslice_fits (by omega) (by rw [hb]; omega))
   simp [Oper.wp, Oper.about, hop, resolve, Target.leads, Sem.run_pure, execOp, invoke, builtin, hs, hx, hrun, Result.andThen];refine hK' _ _ (hK w.heap.size _ _ ?_ (.inr rfl) (grownCap_ge _ _ _ _) (aN.aU ⟨rfl, rfl, rfl, by simp, fun q hq => heap_alloc_old w.drew _ hq⟩));refine ⟨List.replicate (grownCap w (k + 1) k 22 - (k + 1)) (.slice none 0 0), aI.rep _, ?_⟩;have hnew := aa.new w.drew (R.toArray ++ #[v] ++ Builtin.zeroCells (Value.slice none 0 0).cells (grownCap w (k + 1) k 22 - (k + 1))) 22;rw [List.take_of_length_le (by omega)];simp only [Array.toList_append, uH] at hnew;simpa using hnew
theorem wI {R : List Hd} {xs : List Int} {r c : Nat} (hl : R.length = r) (hx : ∀ k (h : k < R.length), R[k].xs = rowOf xs c k) (hs : xs.length = r * c) (n b : Nat) (zs : List Int) (hn : n <= r) (hz : zs.length = c) :
 Sh c (R.take n ++ [(⟨b, c, zs⟩ : Hd)]) /\ (R.take n ++ [(⟨b, c, zs⟩ : Hd)]).length = n + 1 /\ ∀ i j, i < n + 1 -> aw (R.take n ++ [(⟨b, c, zs⟩ : Hd)]) i j = iM n (aE xs r c) (fun j => zs.getD j 0) i j := by
 obtain ⟨hSh, hE⟩ := kM hl hs hx;have htl : (R.take n).length = n := by rw [List.length_take]; omega
 have hll : (R.take n ++ [(⟨b, c, zs⟩ : Hd)]).length = n + 1 := by simp [htl]
 have hS2 : Sh c (R.take n ++ [(⟨b, c, zs⟩ : Hd)]) := by
  intro q hq;rcases List.mem_append.1 hq with h | h
  · exact hSh q (List.mem_of_mem_take h)
  · simp only [List.mem_singleton] at h; subst h; exact hz
 refine ⟨hS2, hll, fun i j hi => ?_⟩;by_cases hj : j < c
 · rw [bU (by omega)];by_cases e : i < n
   · have e2 : (R.take n ++ [(⟨b, c, zs⟩ : Hd)])[i]'(by omega) = R[i]'(by omega) := by rw [List.getElem_append_left (by omega)]; simp
     rw [e2, fk e, <- hE, bU (by omega)]
   · obtain rfl : i = n := by omega
     have e2 : (R.take i ++ [(⟨b, c, zs⟩ : Hd)])[i]'(by omega) = ⟨b, c, zs⟩ := by rw [List.getElem_append_right (by omega)]; simp [htl]
     rw [e2, gO]
 · rw [hS2.wide i (by omega)];by_cases e : i < n
   · rw [fk e, ks _ (by omega)]
   · obtain rfl : i = n := by omega
     rw [gO, dY _ _ (by omega)]
theorem x7 {w w' : World} {o o' n b c : Nat} {R : List Hd} {zs : List Int} (h : dv w o R) (hz : aK w b zs) (hb : ∀ x ∈ R, x.blk < b) (hbo : o < b) (hc : aN (· = o) w w') (hw : dq (· = o) w) (hr : ef w' o' 22 ((R.map Hd.cF).take n ++ [Hd.cF ⟨b, c, zs⟩])) : dv w' o' (R.take n ++ [⟨b, c, zs⟩]) := by
 refine ⟨by rw [List.map_append, List.map_take]; exact hr, fun x hx => ?_, ?_⟩
 · rcases List.mem_append.1 hx with h1 | h1
   · have h2 := List.mem_of_mem_take h1;exact hc.uJ hw (h.row x h2) (h.ne h2)
   · simp only [List.mem_singleton] at h1; subst h1;exact hc.uJ hw hz (by show ¬ b = o; omega)
 · rw [List.map_append, List.nodup_append];refine ⟨by rw [List.map_take]; exact h.nd.sublist (List.take_sublist _ _), by simp, ?_⟩;intro x hx y hy;simp only [List.map_cons, List.map_nil, List.mem_singleton] at hy;subst hy;obtain ⟨q, hq, rfl⟩ := List.mem_map.1 hx;have := hb q (List.mem_of_mem_take hq);omega
theorem vQ (r c m : Nat) (ao : Option Addr) (len cap : Nat) (xs : List Int) (av_ : Option Addr) (kv : Nat) (vs : List Int) (w : World) (hr : r <= 64) (hc : c <= 64) (h : aL w 17592186044415 ao xs) (hm : ∀ x ∈ xs, x.natAbs < W ^ m) (hl : len = xs.length) (hs : xs.length = r * c) (hF : HF r c (aE xs r c))
 (hv : aL w 17592186044415 av_ vs) (hvl : vs.length = c) (hvm : ∀ x ∈ vs, x.natAbs < W ^ m) (hm1 : m <= 150000000) :
 Calls Tryz.prog 31 #[.agg #[.int .i64 (r : Int), .int .i64 (c : Int), .slice ao len cap], .slice av_ c kv] w fun e w' => (∃ (b : Nat) (hs : List Int) (k : Nat), e = .returned (.tuple #[.agg #[.int .i64 (k : Int), .int .i64 (c : Int), .slice (some ⟨b, 0, none⟩) (k * c) (k * c)], .int .i64 0]) /\ w.heap.size <= b /\ aK w' b hs /\ bT c (r + 1) (iM r (aE xs r c) (fun b => vs.getD b 0)) hs k) /\ Below w.heap.size w w' := by
 subst hl;have hlad : pw 66 m <= 4000000000000 := by unfold pw fl; omega
 have hhw : hW m <= 17592186044415 := by unfold hW fl; omega
 have hxw : ∀ x ∈ xs, ag x.natAbs <= m := fun x hx => au (hm x hx);have hvw : ∀ x ∈ vs, ag x.natAbs <= m := fun x hx => au (hvm x hx);have HO := hi_ (fun w2 (h2 : aL w2 17592186044415 ao xs) => zP r c m ao xs.length cap xs av_ kv w2 hr hc h2 hxw (by omega) rfl hs hF);have HLn := hi_ (fun w2 (h2 : aL w2 17592186044415 ao xs) => tY r c ao xs.length cap xs w2 hr hc h2 (fun x hx => Nat.le_trans (hxw x hx) (by omega)) rfl hs);have HXW := hi_ (And.intro hm hxw);have HVW := hi_ (And.intro hvm hvl);have HS := hi_ hs;have HLad := hi_ (And.intro hlad hhw);clear hm hxw hvm hvw hs hF hlad hhw;have HX_0 : Hid (aL w 17592186044415 ao xs) := hi_ (h);have HV_0 : Hid (aL w 17592186044415 av_ vs) := hi_ (hv);have b_0 : Hid (Below w.heap.size w w) := hi_ (Below.refl _ _);clear h hv;go_enter Tryz.func31, Tryz.ntmps31;go_wp2_with fail
 obtain ⟨r1_, r2_, hb_⟩ := fe w #[.int .i64 (r : Int), .int .i64 (c : Int), .slice ao xs.length cap] #[.int .i64 0, .int .i64 0, .slice none 0 0] 24 24;generalize (w.alloc (.cells #[.int .i64 (r : Int), .int .i64 (c : Int), .slice ao xs.length cap] 24)).alloc (.cells #[.int .i64 0, .int .i64 0, .slice none 0 0] 24) = w2 at *;have HX_1 := hi_ (aL.below (w := w) HX_0.out (hb_));have HV_1 := hi_ (aL.below (w := w) HV_0.out (hb_));have b_1 := hi_ (b_0.out.trans (Below.mono hb_ b_0.out.size));have sz_1 := (hb_).size;clear HX_0 HV_0 b_0;have A_1 : Hid (aa w2 (w.heap.size) 24 [.int .i64 (r : Int), .int .i64 (c : Int), .slice ao xs.length cap]) := hi_ (r1_);have Z_1 : Hid (aa w2 (w.heap.size + 1) 24 [.int .i64 0, .int .i64 0, .slice none 0 0]) := hi_ (r2_);clear r1_ r2_ hb_;refine (HO.out w2 HX_1.out).mono ?_;rintro e w3 ⟨⟨pv, ls, rfl, hP, hOw⟩, hb_⟩;have HX_2 := hi_ (aL.below (w := w2) HX_1.out (hb_));have HV_2 := hi_ (aL.below (w := w2) HV_1.out (hb_));have A_2 := hi_ (aa.below (w := w2) A_1.out (hb_) A_1.out.lt);have Z_2 := hi_ (aa.below (w := w2) Z_1.out (hb_) Z_1.out.lt);have b_2 := hi_ (b_1.out.trans (Below.mono hb_ b_1.out.size));have sz_2 := (hb_).size;clear HX_1 HV_1 A_1 Z_1 b_1;clear hb_;have hs3 : w.heap.size + 1 < w3.heap.size := Z_2.out.lt;obtain ⟨ap, kp, rfl, hpc⟩ := wK hOw;have HPv := hi_ hP;have hll := hP.len;clear hP hOw hpc HO;have l2_A : w.heap.size < w3.heap.size := A_2.out.lt;have c2_A0 : w3.cell? ⟨w.heap.size, 0, none⟩ = some (.int .i64 (r : Int)) := A_2.out.cell 0;have c2_A1 : w3.cell? ⟨w.heap.size, 1, none⟩ = some (.int .i64 (c : Int)) := A_2.out.cell 1;have c2_A2 : w3.cell? ⟨w.heap.size, 2, none⟩ = some (.slice ao xs.length cap) := A_2.out.cell 2;go_wp2_with fail
 clear l2_A c2_A0 c2_A1 c2_A2;refine (callsIn_wide.1 (HLn.out w3 HX_2.out)).mono ?_;rintro e w4 ⟨⟨o, R, rfl, hM, hRl, hRx, hob, hRb, hRo, _⟩, hb_⟩;have HX_3 := hi_ (aL.below (w := w3) HX_2.out (hb_));have HV_3 := hi_ (aL.below (w := w3) HV_2.out (hb_));have A_3 := hi_ (aa.below (w := w3) A_2.out (hb_) A_2.out.lt);have Z_3 := hi_ (aa.below (w := w3) Z_2.out (hb_) Z_2.out.lt);have b_3 := hi_ (b_2.out.trans (Below.mono hb_ b_2.out.size));have sz_3 := (hb_).size;clear HX_2 HV_2 A_2 Z_2 b_2;clear hb_;have hRlt : ∀ x ∈ R, x.blk < w4.heap.size := fun x hx => (hM.row x hx).lt;have hol : o < w4.heap.size := hRo.lt;have HRx := hi_ (And.intro hRx (And.intro hob (And.intro hRb hRlt)));have MR_3 : Hid (dv w4 o R) := hi_ (hM);have RO_3 : Hid (aa w4 o 22 (R.map Hd.cF)) := hi_ hRo;rw [hRl];clear hM hRx hob hRb hRo hRlt HLn;go_wp2_with (at_make; refine oT rfl _ _ rfl c c rfl rfl (by omega) (by omega) (Nat.le_refl _) (by omega) ?_; intro b1 w5 hm4)
 have hb1 : w4.heap.size <= b1 := by have := hm4.at_; omega
 have R4 := hi_ (aK.kF hm4.row);have B4 := hi_ hm4.below;have hvl1 := HVW.out.2;clear hm4;go_wp2;go_loopw [32] (fun i_ wr => ∃ (k : Nat) (zs : List Int), k <= c /\ i_ = .int .i64 (k : Int) /\ Hid (zs.length = c) /\ Hid (∀ b, b < k -> zs.getD b 0 = vs.getD b 0) /\ Hid (aK wr b1 zs) /\ Hid (Below w4.heap.size w4 wr)) (fun i_ _ => c - (intOf i_).toNat)
 case atStart => exact ⟨0, _, Nat.zero_le _, rfl, hi_ (by simp), hi_ (fun b h => by omega), R4, B4⟩
 case round =>
  obtain ⟨k, zs, hk, rfl, hzl, hz, hX, hB⟩ := hrel;by_cases hkc : k < c
  · have hkx : k < zs.length := by rw [hzl.out]; exact hkc
    have hkv : k < vs.length := by rw [HVW.out.2]; exact hkc
    have hk2 : (k : Int) < (c : Int) := by omega
    obtain ⟨ab, aoff, hao, hab, hcells⟩ := (HV_3.out.below hB.out) (by omega);subst hao;obtain ⟨px, cx0, cx1, hnx⟩ := hcells k hkv;have hve : vs[k] = vs.getD k 0 := by rw [List.getD_eq_getElem?_getD, List.getElem?_eq_getElem hkv]; rfl
    rw [hve] at hnx;have Hnx := hi_ hnx; clear hnx hcells hve hvl1;go_wp2_with fail
    clear cx0 cx1;refine (fM _ (vs.getD k 0) _ Hnx.out).mono ?_;rintro e w5 ⟨⟨vz, rfl, hvz⟩, hb5⟩;obtain ⟨pz, rfl⟩ := aH.parts hvz.num;have X5 := hi_ (hX.out.below hb5);have B5 := hi_ (hB.out.trans (hb5.mono hB.out.size));have Z5 := hi_ hvz.num;clear hvz hb5 hX hB Hnx;unfold av at *;obtain ⟨pq, q0, q1, _⟩ := X5.out.get hkx;have q2 := X5.out.free (k * 2);have q3 := X5.out.free (k * 2 + 1);go_wp2;clear q0 q1 q2 q3;go_roundw
    case rel =>
     have hBf := (B5.out.setCell (p := ⟨b1, k * 2, none⟩) hb1 (.bool pz.1)).setCell (p := ⟨b1, k * 2 + 1, none⟩) hb1 (.slice pz.2.1 pz.2.2.1 pz.2.2.2);refine ⟨k + 1, zs.set k (vs.getD k 0), by omega, by go_num, hi_ (by simpa using hzl.out), hi_ (fun b hb => ?_), hi_ (X5.out.set k (p := pz) Z5.out), hi_ hBf⟩;rw [xn hkx];split
     · rename_i e; rw [e]
     · exact hz.out b (by omega)
    case measure => simp [intOf]; omega
  · have hkc2 : k = c := by omega
    subst hkc2;obtain ⟨wo, rfl⟩ : ∃ wo : World, wo = wr := ⟨_, rfl⟩;have hb_ := hB.out;clear hB R4 B4;have HX_4 := hi_ (aL.below (w := w4) HX_3.out (hb_));have HV_4 := hi_ (aL.below (w := w4) HV_3.out (hb_));have A_4 := hi_ (aa.below (w := w4) A_3.out (hb_) A_3.out.lt);have Z_4 := hi_ (aa.below (w := w4) Z_3.out (hb_) Z_3.out.lt);have MR_4 := hi_ (dv.below (w := w4) MR_3.out (hb_));have RO_4 := hi_ (aa.below (w := w4) RO_3.out (hb_) RO_3.out.lt);have b_4 := hi_ (b_3.out.trans (Below.mono hb_ b_3.out.size));have sz_4 := (hb_).size;clear HX_3 HV_3 A_3 Z_3 MR_3 RO_3 b_3;clear hb_;have hb1l : b1 < wo.heap.size := hX.out.lt;obtain ⟨hSh, hl2, hE2⟩ := wI hRl HRx.out.1 HS.out ls.length b1 zs hll hzl.out;have hbl_ : Below wo.heap.size wo (wo.alloc (.cells #[.slice (some ⟨b1, 0, none⟩) k k] 22)) := (Below.refl _ _).alloc (Nat.le_refl _) _;have hRo2 := aa.below (w := wo) RO_4.out hbl_ RO_4.out.lt;have hM2 := dv.below (w := wo) MR_4.out hbl_;have hX2 := aK.below (w := wo) hX.out hbl_;have hzz : ∀ j, zs.getD j 0 = vs.getD j 0 := fun j => by
     by_cases hj : j < k
     · exact hz.out j hj
     · rw [dY _ _ (by have := hzl.out; omega), dY _ _ (by have := HVW.out.2; omega)]
    have hmt := fun (o' : Nat) (w' : World) (hCh : aN (· = o) (wo.alloc (.cells #[.slice (some ⟨b1, 0, none⟩) k k] 22)) w') (hRP : ef w' o' 22 ((R.map Hd.cF).take ls.length ++ [Hd.cF ⟨b1, k, zs⟩])) => x7 hM2 hX2 (fun x hx => by have := HRx.out.2.2.2 x hx; omega) (by omega) hCh (by rintro g rfl; exact ⟨_, _, hRo2, ki _⟩) hRP;clear hX2 hM2;have HRo2 := hi_ hRo2;clear hRo2;go_wp2_with (at_builtin; refine yY rfl _ _ rfl o ls.length r (R.map Hd.cF) ⟨wo.heap.size, 0, none⟩ 1 (.slice (some ⟨b1, 0, none⟩) k k) HRo2.out (by rw [List.length_map, hRl]) (by omega) (by omega) (ki _) rfl rfl rfl (cell_one_new _ _ _) ?_; intro o2 cap2 w7 hRP ho2 hcp hCh)
    have he : Hd.cF ⟨b1, k, zs⟩ = .slice (some ⟨b1, 0, none⟩) k k := by unfold Hd.cF; rw [hzl.out]
    rw [<- he] at hRP;have hM7 := hmt o2 w7 hCh hRP;obtain ⟨R2, hR2⟩ : ∃ R2, R.take ls.length ++ [(⟨b1, k, zs⟩ : Hd)] = R2 := ⟨_, rfl⟩;rw [hR2] at hM7 hSh hl2 hE2;have hv2 : (fun j => zs.getD j 0) = (fun b => vs.getD b 0) := funext hzz;rw [hv2] at hE2;have hbd : ∀ i b, (aw R2 i b).natAbs < W ^ m := fun i b => by
     by_cases hi : i < ls.length + 1
     · rw [hE2 i b hi];by_cases e : i < ls.length
       · rw [fk e]; exact fV (eZ m) HXW.out.1 i b
       · obtain rfl : i = ls.length := by omega
         rw [gO];by_cases hb : b < vs.length
         · rw [gz _ _ hb]; exact HVW.out.1 _ (List.getElem_mem hb)
         · rw [dY _ _ (by omega)]; exact eZ m
     · rw [eB (by omega)]; exact eZ m
    obtain ⟨kk, R', hRed, hOk⟩ := o3 (N := 66) (B := 4000000000000) (m := m) hSh hbd (by omega) (by omega) HLad.out.1;obtain ⟨hH, _⟩ := vS hOk;have hH2 := hH.to (F := iM r (aE xs r k) (fun b => vs.getD b 0)) (m := r + 1) ((ba.ug hll HPv.out.zero).trans (by rw [hl2]; exact ba.of_eq (fun i hi j => (hE2 i j hi).symm)));have hkr : kk <= ls.length + 1 := by rw [<- hl2]; exact hOk.kl
    have hlR' : R'.length = ls.length + 1 := hOk.len.trans hl2;have hred := oF o2 cap2 4000000000000 k kk R2 R' w7 hM7 (Nat.le_refl _) hRed (by omega) (by omega);rw [hl2] at hred;have HRed := hi_ hred;have HOk := hi_ hOk;have HH := hi_ hH2;have hown : ∀ q, (q = o2 ∨ ∃ x ∈ R2, x.blk = q) -> w3.heap.size <= q := by
     rintro q (rfl | ⟨x, hx, rfl⟩)
     · rcases ho2 with rfl | rfl
       · exact HRx.out.2.1
       · rw [World.size_alloc]; omega
     · rw [<- hR2] at hx;rcases List.mem_append.1 hx with h | h
       · exact HRx.out.2.2.1 x (List.mem_of_mem_take h)
       · simp only [List.mem_singleton] at h; subst h; show w3.heap.size <= b1; omega
    have hCo : aN (fun q => w3.heap.size <= q) wo w7 := (aN.aU hbl_).trans (hCh.mono (fun q _ e => by rw [e]; exact HRx.out.2.1));have HCo := hi_ (And.intro hown hCo);clear hRed hOk hH hH2 hred hM7 hRP hmt hbd hv2 hzz hE2 hSh hown hCo hCh ho2 hbl_ HRo2 hX;go_wp2_with fail
    refine HRed.out.mono ?_;rintro e w8 ⟨rfl, hM8, hC8⟩;have hCw : aN (fun q => w3.heap.size <= q) wo w8 := HCo.out.2.trans (hC8.mono (fun q _ e => HCo.out.1 q e));have RA := hi_ (hCw.row A_4.out (by show ¬ w3.heap.size <= w.heap.size; omega));have RZ := hi_ (hCw.row Z_4.out (by show ¬ w3.heap.size <= w.heap.size + 1; omega));have B8 : Hid (Below w.heap.size w w8) := hi_ (b_4.out.trans (hCw.kD (B := w.heap.size) (fun q hq => by omega) b_4.out.size));have hrows := hM8.vD (L := 17592186044415) (fun x hx y hy => Nat.le_trans (oo HOk.out.bd x hx y hy) HLad.out.2) kk (by omega);have HRows := hi_ hrows;have c1 : w8.cell? ⟨w.heap.size, 1, none⟩ = some (.int .i64 (k : Int)) := RA.out.cell 1;have hsh5 : ∀ x ∈ (R'.take kk).map Hd.xs, x.length = k := fun x hx => by
     obtain ⟨q, hq, rfl⟩ := List.mem_map.1 hx; exact HOk.out.sh q (List.mem_of_mem_take hq)
    rw [hlR'];have R25 := RZ;have B5 := B8;have hs8 : w.heap.size <= w8.heap.size := B8.out.size;have hkl : (k : Int) = (k : Int) := rfl;have hkr1 : ¬ cap2 < kk := by omega
    have hkr2 : kk <= cap2 := by omega
    clear hrows hM8 hC8 hCw HRed HCo RZ B8 hkl;go_wp2_with fail
    refine wp_region_any (by kernel_rfl) ?_;try (change wpAny _ _ _ _ _ _ _ (World.drew _))
    refine wpAny_take (i := 0) (v := ?_) rfl (by kernel_rfl) (by kernel_rfl) (by kernel_rfl) (fun _ _ _ h => h) (Or.inl ⟨by kernel_rfl, ?_⟩) ?_;rotate_left
    · intro w; go_simp; try (with_reducible rfl)
    refine wpAny_take (i := 1) (v := ?_) rfl (by kernel_rfl) (by kernel_rfl) (by kernel_rfl) (fun _ _ _ h => h) (Or.inl ⟨by kernel_rfl, ?_⟩) ?_;rotate_left
    · intro w; go_simp; try (with_reducible rfl)
    refine wpAny_take (i := 2) (v := ?_) rfl (by kernel_rfl) (by kernel_rfl) (by kernel_rfl) (fun _ _ _ h => h) (Or.inl ⟨by kernel_rfl, ?_⟩) ?_;rotate_left
    · intro w; go_simp; try (with_reducible rfl)
    refine wpAny_take (i := 3) (v := ?_) rfl (by kernel_rfl) (by kernel_rfl) (by kernel_rfl) (fun _ _ _ h => h) (Or.inl ⟨by kernel_rfl, ?_⟩) ?_;rotate_left
    · intro w; go_simp; try (with_reducible rfl)
    refine wpAny_ready (rs := [4]) (by kernel_rfl) (by simp) ?_;refine AllReady.cons rfl (fun K hK => ?_) AllReady.nil;go_simp;refine hK _ _ ?_;clear hK K;refine wpAny_ready (rs := [5]) (by kernel_rfl) (by simp) ?_;refine AllReady.cons rfl (fun K hK => ?_) AllReady.nil;go_simp;go_wp2_with (first | (go_at_call 43; refine (qV o2 _ kk k ((R'.take kk).map Hd.xs) _ (HRows.out.below ((Below.refl _ w8).drew)) (by rw [List.length_map, List.length_take]; omega) hsh5 (by omega) (by omega)).mono ?_; rintro e w9 ⟨⟨b, rfl, hbb, hRb6⟩, hb6⟩; have hb6 := ((Below.refl w8.heap.size w8).drew).trans hb6; have R26 := hi_ (R25.out.below hb6 R25.out.lt); have B6 := hi_ (B5.out.trans (hb6.mono B5.out.size)); have HR6 := hi_ hRb6; have hbb : w8.heap.size <= b := hbb; clear hRb6 hb6; have z0 := R26.out.cell 0; have z1 := R26.out.cell 1; have z2 := R26.out.cell 2; have y0 := R26.out.free 0; have y1 := R26.out.free 1; have y2 := R26.out.free 2))
    refine wpAny_ready (rs := [6]) (by kernel_rfl) (by simp) ?_;refine AllReady.cons rfl (fun K hK => ?_) AllReady.nil;go_simp;refine hK _ _ ?_;clear hK K z0 z1 z2 y0 y1 y2;refine wpAny_take (i := 7) (v := ?_) rfl (by kernel_rfl) (by kernel_rfl) (by kernel_rfl) (fun _ _ _ h => h) (Or.inl ⟨by kernel_rfl, ?_⟩) ?_;rotate_left
    · intro w; go_simp; try (with_reducible rfl)
    refine wpAny_done (by kernel_rfl) ?_ _;go_simp;go_wp2;refine bodyPost_ret (iI (p := 4) (q := 5) (by kernel_rfl) _ _ (w.heap.size + 1) _ _ _ rfl (R26.out.yS (.int .i64 (kk : Int)) (.int .i64 (k : Int)) (.slice (some ⟨b, 0, none⟩) (kk * k) (kk * k)))) rfl ?_;exact ⟨⟨b, _, kk, rfl, by omega, HR6.out.pP R26.out (kk : Int) (k : Int) _ _ _, HH.out⟩, ((B6.out.setCell (p := ⟨w.heap.size + 1, 0, none⟩) (Nat.le_succ _) _).setCell (p := ⟨w.heap.size + 1, 1, none⟩) (Nat.le_succ _) _).setCell (p := ⟨w.heap.size + 1, 2, none⟩) (Nat.le_succ _) _⟩
theorem bT.next {c i k k' : Nat} {E : Nat -> Nat -> Int} {us hs : List Int} {v : Nat -> Int} (h : bT c i E us k) (h' : bT c (k + 1) (iM k (aE us k c) v) hs k') (hv : ∀ b, E i b = v b) : bT c (i + 1) E hs k' := h'.to (h.sp.snoc hv)
end Go.Proofs.YtjjlmfmoihooiaaGreat
namespace Go.Proofs.YtjjlmfmoihooiaaGreat
def n6 (n : Nat) (d : Int) (A : Mx) : Mx := fun a b => if a < n then A a b else eD d (a - n) b
theorem pj {n a : Nat} {d : Int} {A : Mx} (h : a < n) : n6 n d A a = A a := by funext b; unfold n6; rw [if_pos h]
theorem rX {n i : Nat} {d : Int} {A : Mx} : n6 n d A (n + i) = eD d i := by funext b; unfold n6; rw [if_neg (by omega), Nat.add_sub_cancel_left]
theorem AT {n : Nat} {d : Int} {A : Mx} : ba n A n (n6 n d A) := ⟨fun t ht => by rw [<- pj (d := d) (A := A) ht]; exact Sp.row _ ht, fun t ht => by rw [pj ht]; exact Sp.row _ ht⟩
theorem zY {n m M : Nat} {d : Int} {A : Mx} (hA : ∀ i b, (A i b).natAbs < W ^ M) (hd : d.natAbs < W ^ M) (i b : Nat) : (n6 n d A i b).natAbs < W ^ M := by
 unfold n6 eD;split
 · exact hA i b
 · split
   · exact hd
   · exact Nat.pow_pos (by unfold W; omega)
theorem xr {n m : Nat} {d : Int} {A : Mx} (hA : ∀ i b, m <= b -> A i b = 0) {i b : Nat} (hi : i < n + m) (hb : m <= b) : n6 n d A i b = 0 := by
 unfold n6 eD;split
 · exact hA i b hb
 · rw [if_neg (by omega)]
theorem sp_cl (n : Nat) (E : Mx) : Cl (Sp n E) :=
 ⟨⟨fun _ => 0, fun i => (c9 fun t _ => Int.zero_mul _).symm⟩, fun _ _ h k => h.add k, fun s _ h => h.smul s⟩
theorem lr.isBas {m n : Nat} {d : Int} {xs zs : List Int} (h : lr m n d (aE xs n m) zs) : bT m (n + m) (n6 n d (aE xs n m)) zs m := by
 have hab : ∀ i, ∃ s : Int, (∀ b, eD d i b = s * eD ((d.natAbs : Nat) : Int) i b) /\ ∀ b, eD ((d.natAbs : Nat) : Int) i b = s * eD d i b := fun i => by
  rcases Int.natAbs_eq d with e | e
  · exact ⟨1, fun b => by rw [Int.one_mul, <- e], fun b => by rw [Int.one_mul, <- e]⟩
  · refine ⟨-1, fun b => ?_, fun b => ?_⟩
    · unfold eD; split <;> omega
    · unfold eD; split <;> omega
 refine ⟨h.1, ⟨_, h.2.1.herm⟩, fun t ht => ?_, fun t ht => ?_⟩
 · by_cases hn : t < n
   · rw [pj hn]; exact (h.2.1.sp _).2 (LD.row hn)
   · obtain ⟨i, rfl⟩ : ∃ i, t = n + i := ⟨t - n, by omega⟩;rw [rX];obtain ⟨s, h1, _⟩ := hab i;exact (((h.2.1.sp _).2 (LD.eD (show i < m by omega))).smul s).congr h1
 · refine ((h.2.1.sp _).1 (Sp.row _ ht)).least (sp_cl ..) (fun t ht => ?_) fun i hi => ?_
   · rw [<- pj (d := d) (A := aE xs n m) ht]; exact Sp.row _ (by omega)
   · obtain ⟨s, _, h2⟩ := hab i;have := (Sp.row (n6 n d (aE xs n m)) (show n + i < n + m by omega)).smul s;rw [rX] at this;exact this.congr h2
theorem xm {m i : Nat} {d : Int} {ws : List Int} (hi : i < m) (hw : ws = (c8 m eO (m * m)).map (d * ·)) (hl : ws.length = m * m) (b : Nat) : (rowOf ws m i).getD b 0 = eD d i b := by
 have hrl := bO hl hi;by_cases hb : b < m
 · rw [fK _ _ _ _ hb];have h1 : i * m + b < ws.length := by rw [hl]; exact jb hi hb
   have h2 : ws.getD (i * m + b) 0 = ws[i * m + b] := by simp [h1]
   rw [h2];subst hw;rw [List.getElem_map];have h3 : (c8 m eO (m * m))[i * m + b]'(by simpa using h1) = eO i b := by
    unfold c8;rw [List.getElem_map, List.getElem_range, show (i * m + b) / m = i by rw [Nat.mul_comm, Nat.mul_add_div (by omega), Nat.div_eq_of_lt hb]; omega, show (i * m + b) % m = b by rw [Nat.mul_comm, Nat.mul_add_mod]; exact Nat.mod_eq_of_lt hb]
   rw [h3];unfold eO eD;by_cases e : i = b
   · rw [if_pos e, if_pos e.symm]; omega
   · rw [if_neg e, if_neg fun q => e q.symm]; omega
 · have : (rowOf ws m i).getD b 0 = 0 := by simp [hrl, show m <= b by omega]
   rw [this]; unfold eD; rw [if_neg (by omega)]
end Go.Proofs.YtjjlmfmoihooiaaGreat
namespace Go.Proofs.YtjjlmfmoihooiaaGreat
open Go.RowKit
structure EaX where
 k : Nat
 ps : List P4
 zs : List Int
structure EaI (n : Nat) (f : Int -> Int) (xs : List Int) (z : EaX) : Prop where
 hk : z.k <= n
 pl : z.ps.length = n
 zl : z.zs.length = n
 val : ∀ t < n, gi z.zs t = if t < z.k then f (gi xs t) else 0
theorem xN (F : FuncId) (hF : ∀ (args : Array Value) (w : World), (callFunc F args).run Tryz.prog w = .ok (.enter F args) w) (lb : Array Value) (f : Int -> Int) (L nm cap : Nat) (ao : Option Addr) (xs : List Int) (w : World) (hA : aL w L ao xs) (hnm : xs.length = nm) (hm : nm <= 4096)
 (hf : ∀ (i : Nat) (p : P4) (w' : World), i < nm -> Below w.heap.size w w' -> ai w' L (av p) (gi xs i) -> Calls Tryz.prog F (#[av p] ++ lb) w' fun e w'' => (∃ v, e = .returned v /\ aj w'' w'.heap.size v (f (gi xs i))) /\ Below w'.heap.size w' w'') :
 Calls Tryz.prog 67 #[.slice ao nm cap, .func (.func F) #[] lb] w fun e w' => (∃ q : Nat, e = .returned (.slice (some ⟨q, 0, none⟩) nm nm) /\ ik w' (some ⟨q, 0, none⟩) (xs.map f) /\ True /\ ∀ b o, (some ⟨q, 0, none⟩ : Option Addr) = some ⟨b, o, none⟩ -> w.heap.size <= b) /\ Below w.heap.size w w' := by
 have HN := hi_ hnm;refine bS (S0 := fun _ => False) Tryz.func67 ((Fr.nil _ w).l hA (by simp)) ?_;clear hnm hA;refine ah ?_;refine rW [] ?_;refine dW ?_;refine eW ?_;refine ah ?_;refine rW [] ?_;refine dW ?_;refine dW ?_;refine mN nm nm rfl rfl (Nat.le_refl _) (by omega) fun g => ?_;refine dW ?_;refine eW ?_;refine ah ?_;refine rW [] ?_;(iterate 3 refine dW ?_);refine eW ?_;refine ah ?_;refine mQ (e := .ns (List.replicate nm p0) (List.replicate nm 0)) (fun w' _ => bQ.kF w' nm) ?_;refine cI (X := EaX) (EaI nm f xs) (fun z => nm - z.k) (fun z => [(13, .int .i64 (z.k : Int)), (12, .int .i64 (nm : Int)), (11, .slice ao nm cap), (5, .slice (some ⟨g, 0, none⟩) nm nm), (1, .func (.func F) #[] lb)])
  (fun z => [.row g 37 (rn z.ps []), .ns z.ps z.zs, .ls L ao xs]) ⟨0, List.replicate nm p0, List.replicate nm 0⟩ ⟨Nat.zero_le _, by simp, by simp, fun t ht => by rw [if_neg (by show ¬ t < 0; omega)]; show gi (List.replicate nm 0) t = 0; rw [c7 (by simpa using ht)]; simp⟩ fun z hz => ?_
 obtain ⟨k, ps, zs⟩ := z;have hk : k <= nm := hz.hk;have HM : Hid (EaI nm f xs ⟨k, ps, zs⟩) := hi_ hz;clear hz;by_cases h : k < nm
 · have h01 : (k : Int) < (nm : Int) := by omega
   refine ah ?_;refine rW [] ?_;refine dB true ?_;refine eW ?_;refine ah ?_;refine zz (L := L) (ao := ao) (xs := xs) (by simp) (by rw [HN.out]; omega) fun bx ox e => ?_;subst e;refine rO (L := L) (xs := xs) (b := bx) (o := ox) k (by simp) (by rw [HN.out]; exact h) fun p => ?_;refine fB ?_;refine ah ?_;refine rW [] ?_;(iterate 3 refine dW ?_);refine aW fun g7 => ?_;refine dW ?_;refine sG ?_;refine eW ?_;refine ah ?_;refine rW [] ?_;(iterate 4 refine dW ?_);refine cN (x := f (gi xs k)) (fun w' H => hf k p w' h H.below (H.all (.at L (av p) (gi xs k)) (by simp [av]))) fun q => ?_;refine ja (e := .ns (ps.set k q) (zs.set k (f (gi xs k)))) (fun w' H => bQ.set (H.all (.ns ps zs) (by simp)) k (H.all (.own w.heap.size (av q) (f (gi xs k))) (by simp [av]) : aj ..).num) ?_;refine dW ?_;refine sN (ps := ps) k q (by rw [show ps.length = nm from HM.out.pl]; exact h) aI.nil rfl ?_;refine eW ?_;refine ah ?_;refine rW [] ?_;refine dE (dR (a := k) (by omega)) ?_;refine dW ?_;refine eW ?_;refine ah ?_;exact cf (⟨k + 1, ps.set k q, zs.set k (f (gi xs k))⟩ : EaX) ⟨⟨h, by show (ps.set k q).length = nm; rw [List.length_set]; exact HM.out.pl, by show (zs.set k _).length = nm; rw [List.length_set]; exact HM.out.zl, fun t ht => by
    show gi (zs.set k _) t = if t < k + 1 then _ else _;rw [gE (by rw [show zs.length = nm from HM.out.zl]; exact h)];by_cases e : t = k
    · rw [if_pos e, if_pos (by omega), e]
    · rw [if_neg e];have := HM.out.val t ht;rw [this];show (if t < k then _ else _) = _;by_cases e2 : t < k
      · rw [if_pos e2, if_pos (by omega)]
      · rw [if_neg e2, if_neg (by omega)]⟩, by show nm - (k + 1) < nm - k; omega⟩
 · obtain rfl : nm = k := by omega
   have hE : zs = xs.map f := by
    have zl : zs.length = nm := HM.out.zl;refine List.ext_getElem (by rw [zl, List.length_map, HN.out]) fun t h1 h2 => ?_;have ht : t < nm := by omega
    have := HM.out.val t ht;rw [if_pos (show t < nm from ht), c7 h1, c7 (by rw [HN.out]; exact ht)] at this;rw [this, List.getElem_map]
   have HE := hi_ hE;clear hE;refine ah ?_;refine rW [] ?_;refine dB false ?_;refine eW ?_;refine ah ?_;refine dT ?_;refine ah ?_;refine rW [] ?_;refine dW ?_;refine dW ?_;refine eW ?_;refine ah ?_;refine ei fun w' H => ?_;refine ⟨_, ee, ⟨g, rfl, ?_, trivial, fun b o e => by cases e; exact (H.own _ (List.mem_cons_self ..) rfl _ rfl).elim (fun h => h.elim) id⟩, H.below⟩;have h1 : aa w' g 37 (rn ps []) := H.m0;have h2 : bQ w' ps zs := H.m1;rw [<- HE.out];exact fun _ => ⟨g, 0, rfl, h1.lt, fun i hi => ⟨gp ps i, by rw [h1.cell, Nat.zero_add]; exact rH [] (by rw [h2.1]; exact hi), by rw [h1.cell, Nat.zero_add]; exact rK [] (by rw [h2.1]; exact hi), by have := h2.2 i (by rw [h2.1]; exact hi); rw [c7 hi] at this; exact this⟩⟩
theorem xu (gk L : Nat) (pk px : P4) (k x : Int) (w : World) (h0 : w.cell? ⟨gk, 0, none⟩ = some (.bool pk.1)) (h1 : w.cell? ⟨gk, 1, none⟩ = some (.slice pk.2.1 pk.2.2.1 pk.2.2.2)) (hk : ai w L (av pk) k) (hx : ai w L (av px) x) (hL : L <= 1000000000) :
 Calls Tryz.prog 68 #[av px, .pointer (some ⟨gk, 0, none⟩)] w fun e w' => (∃ v, e = .returned v /\ aj w' w.heap.size v (k * x)) /\ Below w.heap.size w w' := by
 have HA : Fr (fun _ => False) w w [.cell ⟨gk, 0, none⟩ (.bool pk.1), .cell ⟨gk, 1, none⟩ (.slice pk.2.1 pk.2.2.1 pk.2.2.2), .at L (av px) x, .at L (av pk) k] :=
  Fr.cl (Fr.cl (((Fr.nil _ w).i hk).i hx) h1 (by simp [En.wr, En.at])) h0 (by simp [En.wr, En.at])
 clear h0 h1 hk hx;refine bS (S0 := fun _ => False) Tryz.func68 HA ?_;clear HA;refine ah ?_;refine rW [] ?_;refine aW fun g2 => ?_;refine aW fun g3 => ?_;refine eW ?_;refine ah ?_;refine rW [] ?_;refine dW ?_;refine dW ?_;refine cN (x := k * x) (fun w' H => gL (av pk) (av px) k x L L w' (H.all (.at L (av pk) k) (by simp [av])) (H.all (.at L (av px) x) (by simp [av])) (by omega)) fun q => ?_;refine sW ?_;refine eW ?_;refine ah ?_;refine ei fun w' H => ?_;exact ⟨_, jB (H.all (.row g3 37 [.bool q.1, .slice q.2.1 q.2.2.1 q.2.2.2]) (by simp)), ⟨_, rfl, H.all (.own w.heap.size (av q) (k * x)) (by simp [av])⟩, H.below⟩
theorem x8 (r n nm cap L : Nat) (ao : Option Addr) (xs : List Int) (k : Int) (pk : P4) (w : World) (hr : r <= 64) (hn : n <= 64) (hL : L <= 1000000000) (hk : ai w L (av pk) k) (hA : aL w L ao xs) (hs : xs.length = r * n) (hnm : xs.length = nm) :
 Calls Tryz.prog 30 #[av pk, .agg #[.int .i64 (r : Int), .int .i64 (n : Int), .slice ao nm cap]] w fun e w' => (∃ q : Nat, e = .returned (.tuple #[.agg #[.int .i64 (r : Int), .int .i64 (n : Int), .slice (some ⟨q, 0, none⟩) nm nm], .int .i64 0]) /\ ik w' (some ⟨q, 0, none⟩) (xs.map (k * ·)) /\ True /\ ∀ b o, (some ⟨q, 0, none⟩ : Option Addr) = some ⟨b, o, none⟩ -> w.heap.size <= b) /\ Below w.heap.size w w' := by
 have hC : ∀ w', Calls Tryz.prog 7 #[.agg #[.int .i64 (r : Int), .int .i64 (n : Int), .slice ao nm cap]] w' fun e w'' => e = .returned (.int .i64 0) /\ Below w'.heap.size w' w'' := fun w' => by
  have := cJ (r : Int) (n : Int) ao nm cap w' (by omega) (by omega);rw [dC (by unfold aR bJ; rw [<- hnm, hs]; simp; omega)] at this; exact this
 have hm : nm <= 4096 := by rw [<- hnm, hs]; exact Nat.mul_le_mul hr hn
 have HC := hi_ (And.intro hC (And.intro hnm hm));have HF := ((Fr.nil (fun _ => False) w).i hk).l hA (by simp [En.wr, En.at]);clear hC hs hnm hm hk hA;refine bS (S0 := fun _ => False) Tryz.func30 HF ?_;clear HF;refine ah ?_;refine rW [] ?_;refine aW fun g2 => ?_;refine aW fun g3 => ?_;refine aW fun g4 => ?_;refine dW ?_;refine eW ?_;refine ah ?_;refine rW [] ?_;refine dW ?_;refine cV (v := .int .i64 0) (fun w' H => HC.out.1 w') ?_;refine dW ?_;refine eW ?_;refine ah ?_;refine rW [] ?_;refine dW ?_;refine dB false ?_;refine eW ?_;refine ah ?_;refine dT ?_;refine ah ?_;refine rW [] ?_;(iterate 6 refine dW ?_);refine fW ?_;refine uP (α := Nat) (mk := fun q => .slice (some ⟨q, 0, none⟩) nm nm) (ao := fun q => some ⟨q, 0, none⟩) (xs := fun _ => xs.map (k * ·)) (A := fun _ => True) (fun w' H => xN 68 (fun _ _ => by go_simp) #[.pointer (some ⟨g2, 0, none⟩)] (k * ·) L nm cap ao xs w' (H.all (.ls L ao xs) (by simp)) HC.out.2.1 HC.out.2.2 (fun i p w2 hi hb hx => by
  have a1 : aa w' g2 37 [.bool pk.1, .slice pk.2.1 pk.2.2.1 pk.2.2.2] := H.all (.row g2 37 [.bool pk.1, .slice pk.2.1 pk.2.2.1 pk.2.2.2]) (by simp);have a2 : ai w' L (av pk) k := H.all (.at L (av pk) k) (by simp [av]);exact xu g2 L pk p k (gi xs i) w2 ((a1.below hb a1.lt).cell 0) ((a1.below hb a1.lt).cell 1) (ai.below a2 hb) hx hL)) fun q => ?_
 refine dW ?_;refine sW ?_;refine dW ?_;refine eW ?_;refine ah ?_;refine iO fun w' H => ?_;exact ⟨_, _, uK (H.all (.row g4 24 [.int .i64 (r : Int), .int .i64 (n : Int), .slice (some ⟨q, 0, none⟩) nm nm]) (by simp)), ee, ⟨q, rfl, H.m0, trivial, (show True /\ ∀ b o, (some ⟨q, 0, none⟩ : Option Addr) = some ⟨b, o, none⟩ -> w.heap.size <= b from H.m1).2⟩, H.below⟩
theorem zsI1 {x : Int} (h : x ≠ 0) : ¬ aO x = 0 := by unfold aO; (repeat' split) <;> omega
theorem v8 (r n nm B cap : Nat) (ao : Option Addr) (pd : P4) (w : World) (hr : r <= 64) (hn : n <= 64) (hnm : r * n = nm) (hD : ai w B (av pd) 0) (hB : B <= 17592186044415) :
 Calls Tryz.prog 28 #[.agg #[.int .i64 (r : Int), .int .i64 (n : Int), .slice ao nm cap], av pd] w fun e w' => e = .returned (.tuple #[.agg #[.int .i64 0, .int .i64 0, .slice none 0 0], .int .i64 4]) /\ Below w.heap.size w w' := by
 have hC : ∀ w', Calls Tryz.prog 7 #[.agg #[.int .i64 (r : Int), .int .i64 (n : Int), .slice ao nm cap]] w' fun e w'' => e = .returned (.int .i64 0) /\ Below w'.heap.size w' w'' := fun w' => by
  have := cJ (r : Int) (n : Int) ao nm cap w' (by omega) (by omega);rw [dC (by unfold aR bJ; rw [<- hnm]; simp; omega)] at this; exact this
 have HC := hi_ hC;clear hC hnm;refine bS (S0 := fun _ => False) Tryz.func28 ((Fr.nil _ w).i hD) ?_;refine ah ?_;refine rW [] ?_;refine aW fun g2 => ?_;refine aW fun g3 => ?_;refine aW fun g4 => ?_;refine dW ?_;refine eW ?_;refine ah ?_;refine rW [] ?_;refine dW ?_;refine cV (v := .int .i64 0) (fun w' H => HC.out w') ?_;refine dW ?_;refine eW ?_;refine ah ?_;refine rW [] ?_;refine dW ?_;refine dB false ?_;refine eW ?_;refine ah ?_;refine dT ?_;refine ah ?_;refine rW [] ?_;refine dW ?_;refine cV (v := .int .i64 0) (fun w' H => bN (av pd) 0 w' ((H.all (.at B (av pd) 0) (by simp [av]) : ai ..).mono (by omega))) ?_;refine dB true ?_;refine eW ?_;refine ah ?_;refine fB ?_;refine ah ?_;refine rW [] ?_;refine dW ?_;refine sW ?_;refine dW ?_;refine eW ?_;refine ah ?_;refine iO fun w' H => ?_;exact ⟨_, _, uK (H.all (.row g4 24 [.int .i64 0, .int .i64 0, .slice none 0 0]) (by simp)), ee, rfl, H.below⟩
theorem xV (r c : Int) (ao : Option Addr) (len cap : Nat) (pd : P4) (w : World) (hr : -9223372036854775808 <= r /\ r <= 9223372036854775807) (hc : -9223372036854775808 <= c /\ c <= 9223372036854775807) (hs : aR r c len = false) :
 Calls Tryz.prog 5 #[.agg #[.int .i64 r, .int .i64 c, .slice ao len cap], av pd] w fun e w' => e = .returned (.bool true) /\ Below w.heap.size w w' := by
 have hC := fun w' => cJ r c ao len cap w' hr hc;rw [gW hs] at hC;have HC := hi_ (And.intro hC (fun w' => zw r c ao len cap w' hr hc hs));clear hC hs;refine bS (S0 := fun _ => False) Tryz.func5 (Fr.nil _ w) ?_;refine ah ?_;refine rW [] ?_;refine aW fun g2 => ?_;refine aW fun g3 => ?_;refine dW ?_;refine eW ?_;refine ah ?_;refine rW [] ?_;refine cV (v := .bool true) (fun w' H => jT w') ?_;refine dW ?_;refine eW ?_;refine ah ?_;refine dT ?_;refine ah ?_;refine rW [] ?_;refine dW ?_;refine cV (v := .int .i64 1) (fun w' H => HC.out.1 w') ?_;refine dB true ?_;refine eW ?_;refine ah ?_;refine fB ?_;refine ah ?_;refine rW [] ?_;refine dW ?_;refine cV (v := .bool true) (fun w' H => HC.out.2 w') ?_;refine dW ?_;refine eW ?_;refine ah ?_;refine ei fun w' H => ?_;exact ⟨_, ee, rfl, H.below⟩
theorem yR (r n nm B cap : Nat) (ao : Option Addr) (pd : P4) (w : World) (hr : r <= 64) (hn : n <= 64) (hnm : r * n = nm) (hD : ai w B (av pd) 0) (hB : B <= 17592186044415) :
 Calls Tryz.prog 5 #[.agg #[.int .i64 (r : Int), .int .i64 (n : Int), .slice ao nm cap], av pd] w fun e w' => e = .returned (.bool true) /\ Below w.heap.size w w' := by
 have hC : ∀ w', Calls Tryz.prog 7 #[.agg #[.int .i64 (r : Int), .int .i64 (n : Int), .slice ao nm cap]] w' fun e w'' => e = .returned (.int .i64 0) /\ Below w'.heap.size w' w'' := fun w' => by
  have := cJ (r : Int) (n : Int) ao nm cap w' (by omega) (by omega);rw [dC (by unfold aR bJ; rw [<- hnm]; simp; omega)] at this; exact this
 have HC := hi_ (And.intro hC (fun w' h => v8 r n nm B cap ao pd w' hr hn hnm h hB));clear hC hnm;refine bS (S0 := fun _ => False) Tryz.func5 ((Fr.nil _ w).i hD) ?_;refine ah ?_;refine rW [] ?_;refine aW fun g2 => ?_;refine aW fun g3 => ?_;refine dW ?_;refine eW ?_;refine ah ?_;refine rW [] ?_;refine cV (v := .bool true) (fun w' H => jT w') ?_;refine dW ?_;refine eW ?_;refine ah ?_;refine dT ?_;refine ah ?_;refine rW [] ?_;refine dW ?_;refine cV (v := .int .i64 0) (fun w' H => HC.out.1 w') ?_;refine dB false ?_;refine eW ?_;refine ah ?_;refine dT ?_;refine ah ?_;refine rW [] ?_;refine dW ?_;refine dW ?_;refine cV (v := .tuple #[.agg #[.int .i64 0, .int .i64 0, .slice none 0 0], .int .i64 4]) (fun w' H => HC.out.2 w' (H.all (.at B (av pd) 0) (by simp [av]))) ?_;(iterate 3 refine dW ?_);refine aW fun g5 => ?_;refine sG ?_;refine dW ?_;refine eW ?_;refine ah ?_;refine rW [] ?_;refine dW ?_;refine cV (v := .int .i64 0) (fun w' H => bN (av pd) 0 w' ((H.all (.at B (av pd) 0) (by simp [av]) : ai ..).mono (by omega))) ?_;refine dB true ?_;refine eW ?_;refine ah ?_;refine fB ?_;refine ah ?_;refine rW [] ?_;refine dW ?_;refine dB true ?_;refine dW ?_;(iterate 3 refine dG ?_);refine rJ true ?_;refine dW ?_;refine dW ?_;refine eW ?_;refine ah ?_;refine ei fun w' H => ?_;exact ⟨_, ee, rfl, H.below⟩
theorem yH (n m nm mw cap : Nat) (ao : Option Addr) (xs : List Int) (d : Int) (pd : P4) (w : World) (hn : n <= 64) (hm : m <= 64) (hmw : mw <= 1048576) (hA : aL w mw ao xs) (hs : xs.length = n * m) (hnm : xs.length = nm) (hd0 : d ≠ 0) (hD : ai w mw (av pd) d) :
 Calls Tryz.prog 5 #[.agg #[.int .i64 (n : Int), .int .i64 (m : Int), .slice ao nm cap], av pd] w fun e w' => e = .returned (.bool true) /\ Below w.heap.size w w' := by
 have hxb := je hA;have hdb : d.natAbs < W ^ mw := Nat.lt_of_lt_of_le (bh _) (Nat.pow_le_pow_right (by decide) hD.ag);have hA2 : ∀ i b, (aE xs n m i b).natAbs < W ^ mw := fun i b => fV (Nat.pow_pos (by unfold W; omega)) hxb i b;have hFb : ∀ i b, (n6 n d (aE xs n m) i b).natAbs < W ^ mw := fun i b => zY (m := m) hA2 hdb i b;have hmM : mw <= hW mw := by unfold hW fl; omega
 have hMM : hW mw <= 150000000 := by unfold hW fl; omega
 have hbd : ∀ i k hs, i <= m -> bT m (n + i) (n6 n d (aE xs n m)) hs k -> ∀ x ∈ hs, x.natAbs < W ^ hW mw := fun i k hs hi h => h.bdN (by omega) (fun i b _ => hFb i b) (fun a b ha hb => xr (fun i b hb => ks i hb) (by omega) hb);have c0 : ∀ w', Calls Tryz.prog 7 #[.agg #[.int .i64 (n : Int), .int .i64 (m : Int), .slice ao nm cap]] w' fun e w'' => e = .returned (.int .i64 0) /\ Below w'.heap.size w' w'' := fun w' => by
  have := cJ (n : Int) (m : Int) ao nm cap w' (by omega) (by omega);rw [dC (by unfold aR bJ; rw [<- hnm, hs]; simp; omega)] at this; exact this
 have c1 := fun w' (h : aL w' mw ao xs) (hd : ai w' mw (av pd) d) => nU n m nm mw cap ao xs d pd w' hn hm (by omega) h hs hnm hd0 hd;have c2 : ∀ w', aL w' mw ao xs -> Calls Tryz.prog 19 #[.agg #[.int .i64 (n : Int), .int .i64 (m : Int), .slice ao nm cap]] w' fun e w'' => (∃ q : Nat × Nat × List Int, e = .returned (.tuple #[.agg #[.int .i64 (q.1 : Int), .int .i64 (m : Int), .slice (some ⟨q.2.1, 0, none⟩) (q.1 * m) (q.1 * m)], .int .i64 0]) /\ ik w'' (some ⟨q.2.1, 0, none⟩) q.2.2 /\ bT m (n + 0) (n6 n d (aE xs n m)) q.2.2 q.1 /\ ∀ b o, (some ⟨q.2.1, 0, none⟩ : Option Addr) = some ⟨b, o, none⟩ -> w'.heap.size <= b) /\ Below w'.heap.size w' w'' := fun w' h =>
  (yP n m mw ao nm cap xs w' hn hm (h.up (by omega)) hxb (by omega) hnm.symm hs).mono fun e w'' ⟨⟨b, hs, k, he, hf, hr, _, hB, _⟩, hb⟩ => ⟨⟨(k, b, hs), he, hr.lsN, hB.to AT.symm, fun b' o e => by cases e; exact hf⟩, hb⟩
 obtain ⟨ws, hws⟩ : ∃ ws, (c8 m eO (m * m)).map (d * ·) = ws := ⟨_, rfl⟩;have hwl : ws.length = m * m := by rw [<- hws, List.length_map, cU]
 have hrowE : ∀ i < m, ∀ b, (rowOf ws m i).getD b 0 = eD d i b := fun i hi b => xm hi hws.symm hwl b;have c3 : ∀ p cp w', ik w' p (c8 m eO (m * m)) -> ai w' mw (av pd) d -> 0 < mw -> Calls Tryz.prog 30 #[av pd, .agg #[.int .i64 (m : Int), .int .i64 (m : Int), .slice p (m * m) cp]] w' fun e w'' => (∃ q : Nat, e = .returned (.tuple #[.agg #[.int .i64 (m : Int), .int .i64 (m : Int), .slice (some ⟨q, 0, none⟩) (m * m) (m * m)], .int .i64 0]) /\ ik w'' (some ⟨q, 0, none⟩) ws /\ True /\ ∀ b o, (some ⟨q, 0, none⟩ : Option Addr) = some ⟨b, o, none⟩ -> w'.heap.size <= b) /\ Below w'.heap.size w' w'' := fun p cp w' h hd hp => by
  have := x8 m m (m * m) cp mw p (c8 m eO (m * m)) d pd w' hm hm (by omega) hd (h.po fun x hx => by
   obtain ⟨q, _, rfl⟩ := List.mem_map.1 hx;unfold eO; split
   · exact Nat.le_trans (au (k := 1) (by unfold W; decide)) hp
   · simp [aY]) (cU ..) (cU ..)
  rw [hws] at this; exact this
 have hwsb : ∀ x ∈ ws, ag x.natAbs <= mw := fun x hx => by
  rw [<- hws] at hx;obtain ⟨y, hy, rfl⟩ := List.mem_map.1 hx;obtain ⟨q, _, rfl⟩ := List.mem_map.1 hy;show ag (d * eO (q / m) (q % m)).natAbs <= mw;unfold eO; split
  · rw [Int.mul_one]; exact hD.ag
  · rw [Int.mul_zero]; simp [aY]
 have hmw0 : 0 < mw := by
  rcases Nat.eq_zero_or_pos mw with e | e
  · subst e; simp at hdb; omega
  · exact e
 have c4 : ∀ i q w', i < m -> aL w' mw (some ⟨q, 0, none⟩) ws -> Calls Tryz.prog 22 #[.agg #[.int .i64 (m : Int), .int .i64 (m : Int), .slice (some ⟨q, 0, none⟩) (m * m) (m * m)], .int .i64 (i : Int)] w' fun e w'' => (∃ z : Addr × Nat, e = .returned (.slice (some z.1) m z.2) /\ aL w'' mw (some z.1) (rowOf ws m i) /\ ∀ b o, (some z.1 : Option Addr) = some ⟨b, o, none⟩ -> ∃ o', (some ⟨q, 0, none⟩ : Option Addr) = some ⟨b, o', none⟩) /\ Below w'.heap.size w' w'' := fun i q w' hi h =>
  vV m m i mw (m * m) (m * m) (some ⟨q, 0, none⟩) ws w' hm hm h hwl hwl (Nat.le_refl _) hi (by omega)
 have c5 : ∀ i k b hs (z : Addr × Nat) w', i < m -> bT m (n + i) (n6 n d (aE xs n m)) hs k -> ik w' (some ⟨b, 0, none⟩) hs -> aL w' mw (some z.1) (rowOf ws m i) -> Calls Tryz.prog 31 #[.agg #[.int .i64 (k : Int), .int .i64 (m : Int), .slice (some ⟨b, 0, none⟩) (k * m) (k * m)], .slice (some z.1) m z.2] w' fun e w'' => (∃ q : Nat × Nat × List Int, e = .returned (.tuple #[.agg #[.int .i64 (q.1 : Int), .int .i64 (m : Int), .slice (some ⟨q.2.1, 0, none⟩) (q.1 * m) (q.1 * m)], .int .i64 0]) /\ ik w'' (some ⟨q.2.1, 0, none⟩) q.2.2 /\ bT m (n + (i + 1)) (n6 n d (aE xs n m)) q.2.2 q.1 /\ ∀ b o, (some ⟨q.2.1, 0, none⟩ : Option Addr) = some ⟨b, o, none⟩ -> w'.heap.size <= b) /\ Below w'.heap.size w' w'' := by
  intro i k b hs z w' hi hB hN hR;have hhb := hbd i k hs (by omega) hB;have hrl := bO hwl hi;have hk := hB.le;exact (vQ k m (hW mw) (some ⟨b, 0, none⟩) (k * m) (k * m) hs (some z.1) z.2 (rowOf ws m i) w' (by omega) hm (hN.po fun x hx => Nat.le_trans (au (hhb x hx)) (by omega)) hhb hB.len.symm hB.len hB.hf (hR.up (by omega)) hrl (fun x hx => by
   obtain ⟨t, ht, rfl⟩ := List.getElem_of_mem hx;have h1 := hrowE i hi t;rw [show (rowOf ws m i).getD t 0 = (rowOf ws m i)[t] by simp [ht]] at h1;rw [h1];unfold eD; split
   · exact Nat.lt_of_lt_of_le hdb (Nat.pow_le_pow_right (by decide) hmM)
   · exact Nat.pow_pos (by unfold W; omega)) hMM).mono fun e w'' ⟨⟨b', hs', k', he, hf, hr, hB'⟩, hb⟩ => ⟨⟨(k', b', hs'), he, hr.lsN, hB.next hB' fun b => by rw [rX]; exact (hrowE i hi b).symm, fun b o e => by cases e; exact hf⟩, hb⟩
 have c6 : ∀ k hs zs (p : Option Addr) b cp w', lr m n d (aE xs n m) zs -> bT m (n + m) (n6 n d (aE xs n m)) hs k -> ik w' p zs -> ik w' (some ⟨b, 0, none⟩) hs -> Calls Tryz.prog 12 #[.agg #[.int .i64 (m : Int), .int .i64 (m : Int), .slice p (m * m) cp], .agg #[.int .i64 (k : Int), .int .i64 (m : Int), .slice (some ⟨b, 0, none⟩) (k * m) (k * m)]] w' fun e w'' => e = .returned (.bool true) /\ Below w'.heap.size w' w'' := by
  intro k us zs p b cp w' hZ hB hN hN2;have hhb := hbd m k us (Nat.le_refl _) hB;obtain ⟨e1, e2⟩ := hB.unique hZ.isBas (ba.refl _ _);rw [e1] at hN2 hhb;rw [e2];have hl : zs.length = m * m := hZ.1;have hkk : m * m <= 4096 := Nat.mul_le_mul hm hm;have hw : ∀ x ∈ zs, ag x.natAbs <= 17592186044415 := fun x hx => Nat.le_trans (au (hhb x hx)) (by omega);have := rY m m p (some ⟨b, 0, none⟩) cp (m * m) zs zs w' hN hN2 (by omega) (by omega) hw hw;rw [hl, decide_eq_true rfl] at this;exact this
 have HC := hi_ (And.intro c0 (And.intro c1 (And.intro c2 (And.intro c3 (And.intro c4 (And.intro c5 c6))))));have HM := hi_ (And.intro hmw0 (And.intro hwsb hwl));have hz := zsI1 hd0;clear c0 c1 c2 c3 c4 c5 c6 hxb hdb hA2 hFb hbd hmM hMM hws hwl hrowE hwsb hmw0 hs hnm hd0;have HF := ((Fr.nil (fun _ => False) w).i hD).l hA (by simp [En.wr, En.at]);clear hA hD;refine bS (S0 := fun _ => False) Tryz.func5 HF ?_;clear HF;refine ah ?_;refine rW [] ?_;refine aW fun g2 => ?_;refine aW fun g3 => ?_;refine dW ?_;refine eW ?_;refine ah ?_;refine rW [] ?_;refine cV (v := .bool true) (fun w' H => jT w') ?_;refine dW ?_;refine eW ?_;refine ah ?_;refine dT ?_;refine ah ?_;refine rW [] ?_;refine dW ?_;refine cV (v := .int .i64 0) (fun w' H => HC.out.1 w') ?_;refine dB false ?_;refine eW ?_;refine ah ?_;refine dT ?_;refine ah ?_;refine rW [] ?_;refine dW ?_;refine dW ?_;refine uP (α := (Option Addr × Nat) × List Int) (mk := fun p => .tuple #[.agg #[.int .i64 (m : Int), .int .i64 (m : Int), .slice p.1.1 (m * m) p.1.2], .int .i64 0]) (ao := fun p => p.1.1) (xs := fun p => p.2) (A := fun p => lr m n d (aE xs n m) p.2) (hne := ⟨((none, 0), [])⟩) (fun w' H => HC.out.2.1 w' (H.all (.ls mw ao xs) (by simp)) (H.all (.at mw (av pd) d) (by simp [av]))) fun q1 => ?_;(iterate 3 refine dW ?_);refine aW fun g5 => ?_;refine sG ?_;refine dW ?_;refine eW ?_;refine ah ?_;obtain ⟨⟨zo, zc⟩, zs⟩ := q1;refine sU (A := lr m n d (aE xs n m) zs /\ ∀ b o, zo = some ⟨b, o, none⟩ -> w.heap.size <= b) (by simp) fun hq => ?_;have HZ := hi_ hq.1;clear hq;refine rW [] ?_;refine dW ?_;refine cV (v := .int .i64 (aO d)) (fun w' H => bN (av pd) d w' ((H.all (.at mw (av pd) d) (by simp [av]) : ai ..).mono (by omega))) ?_;refine dB false ?_;refine eW ?_;refine ah ?_;refine dT ?_;refine ah ?_;refine rW [] ?_;refine dW ?_;refine uP (α := Nat × Nat × List Int) (mk := fun q => .tuple #[.agg #[.int .i64 (q.1 : Int), .int .i64 (m : Int), .slice (some ⟨q.2.1, 0, none⟩) (q.1 * m) (q.1 * m)], .int .i64 0]) (ao := fun q => some ⟨q.2.1, 0, none⟩) (xs := fun q => q.2.2) (A := fun q => bT m (n + 0) (n6 n d (aE xs n m)) q.2.2 q.1) (hne := ⟨(0, 0, [])⟩) (fun w' H => HC.out.2.2.1 w' (H.all (.ls mw ao xs) (by simp))) fun q2 => ?_;(iterate 3 refine dW ?_);refine aW fun g7 => ?_;refine sG ?_;refine dW ?_;refine eW ?_;refine ah ?_;obtain ⟨k0, b0, hs0⟩ := q2;refine sU (A := bT m (n + 0) (n6 n d (aE xs n m)) hs0 k0 /\ ∀ b o, (some ⟨b0, 0, none⟩ : Option Addr) = some ⟨b, o, none⟩ -> w.heap.size <= b) (by simp) fun hq => ?_;have HB0 := hi_ hq.1;clear hq;refine rW [] ?_;refine dW ?_;refine dW ?_;refine uP (α := Option Addr × Nat) (mk := fun p => .tuple #[.agg #[.int .i64 (m : Int), .int .i64 (m : Int), .slice p.1 (m * m) p.2], .int .i64 0]) (ao := fun p => p.1) (xs := fun _ => c8 m eO (m * m)) (A := fun _ => True) (fun w' H => y5 m w' hm) fun qU => ?_;(iterate 3 refine dW ?_);refine aW fun g9 => ?_;refine sG ?_;refine dW ?_;refine eW ?_;refine ah ?_;refine rW [] ?_;refine dW ?_;refine dW ?_;refine uP (α := Nat) (mk := fun q => .tuple #[.agg #[.int .i64 (m : Int), .int .i64 (m : Int), .slice (some ⟨q, 0, none⟩) (m * m) (m * m)], .int .i64 0]) (ao := fun q => some ⟨q, 0, none⟩) (xs := fun _ => ws) (A := fun _ => True) (fun w' H => HC.out.2.2.2.1 qU.1 qU.2 w' (H.all (.kP qU.1 (c8 m eO (m * m))) (by simp)) (H.all (.at mw (av pd) d) (by simp [av])) HM.out.1) fun sq => ?_;(iterate 3 refine dW ?_);refine sW ?_;refine eW ?_;refine ah ?_;refine rW [] ?_;refine dW ?_;refine eW ?_;refine ah ?_;refine dU (es' := [.kP (some ⟨sq, 0, none⟩) ws, .row g7 24 [.int .i64 (k0 : Int), .int .i64 (m : Int), .slice (some ⟨b0, 0, none⟩) (k0 * m) (k0 * m)], .row g9 24 [.int .i64 (m : Int), .int .i64 (m : Int), .slice (some ⟨sq, 0, none⟩) (m * m) (m * m)], .row g2 24 [.int .i64 (n : Int), .int .i64 (m : Int), .slice ao nm cap], .row g5 24 [.int .i64 (m : Int), .int .i64 (m : Int), .slice zo (m * m) zc], .kP (some ⟨b0, 0, none⟩) hs0, .kP zo zs]) ?_;refine vU (es' := [.ls mw (some ⟨sq, 0, none⟩) ws, .row g7 24 [.int .i64 (k0 : Int), .int .i64 (m : Int), .slice (some ⟨b0, 0, none⟩) (k0 * m) (k0 * m)], .row g9 24 [.int .i64 (m : Int), .int .i64 (m : Int), .slice (some ⟨sq, 0, none⟩) (m * m) (m * m)], .row g2 24 [.int .i64 (n : Int), .int .i64 (m : Int), .slice ao nm cap], .row g5 24 [.int .i64 (m : Int), .int .i64 (m : Int), .slice zo (m * m) zc], .kP (some ⟨b0, 0, none⟩) hs0, .kP zo zs]) (fun w' h' => h'.conv (fun h => ik.po h HM.out.2.1) (fun b h => h) (fun q => nomatch q)) ?_;refine cI (X := Nat × Nat × Nat × List Int) (fun x => x.1 <= m /\ bT m (n + x.1) (n6 n d (aE xs n m)) x.2.2.2 x.2.1) (fun x => m - x.1) (fun x => [(11, .int .i64 (x.1 : Int)), (7, .pointer (some ⟨g7, 0, none⟩)), (9, .pointer (some ⟨g9, 0, none⟩)), (2, .pointer (some ⟨g2, 0, none⟩)), (5, .pointer (some ⟨g5, 0, none⟩)), (6, .int .i64 0)])
  (fun x => [.row g7 24 [.int .i64 (x.2.1 : Int), .int .i64 (m : Int), .slice (some ⟨x.2.2.1, 0, none⟩) (x.2.1 * m) (x.2.1 * m)], .row g9 24 [.int .i64 (m : Int), .int .i64 (m : Int), .slice (some ⟨sq, 0, none⟩) (m * m) (m * m)], .row g2 24 [.int .i64 (n : Int), .int .i64 (m : Int), .slice ao nm cap], .row g5 24 [.int .i64 (m : Int), .int .i64 (m : Int), .slice zo (m * m) zc], .kP (some ⟨x.2.2.1, 0, none⟩) x.2.2.2, .ls mw (some ⟨sq, 0, none⟩) ws, .kP zo zs]) (0, k0, b0, hs0) ⟨Nat.zero_le _, HB0.out⟩ fun x hx => ?_
 obtain ⟨i, k, b, hs⟩ := x;obtain ⟨hi, hB⟩ := hx
 replace hi : i <= m := hi
 replace hB : bT m (n + i) (n6 n d (aE xs n m)) hs k := hB
 have HB := hi_ hB;clear hB;by_cases h : i < m
 · have h01 : (i : Int) < (m : Int) := by omega
   refine ah ?_;refine rW [] ?_;(iterate 3 refine dW ?_);refine dB true ?_;refine eW ?_;refine ah ?_;refine fB ?_;refine ah ?_;refine rW [] ?_;(iterate 3 refine dW ?_);refine cR (α := Addr × Nat) (mk := fun q => .slice (some q.1) m q.2) (ens := fun q => [.ls mw (some q.1) (rowOf ws m i)]) (hne := ⟨(⟨0, 0, none⟩, 0)⟩) (fun w' H => (HC.out.2.2.2.2.1 i sq w' h (H.all (.ls mw (some ⟨sq, 0, none⟩) ws) (by simp))).mono fun e w'' ⟨⟨q, he, q1, q2⟩, hb⟩ => ⟨q, he, hb, fun e he => by
    rcases List.mem_singleton.1 he with rfl;refine ⟨q1, rfl, fun b ⟨hl, o, e⟩ => .inr ⟨.ls mw (some ⟨sq, 0, none⟩) ws, by simp, rfl, ?_⟩⟩;obtain ⟨o', e'⟩ := q2 b o e;refine ⟨?_, o', e'⟩;rw [HM.out.2.2]; exact Nat.mul_pos (by omega) (by omega)⟩) fun q => ?_
   refine uP (α := Nat × Nat × List Int) (mk := fun q => .tuple #[.agg #[.int .i64 (q.1 : Int), .int .i64 (m : Int), .slice (some ⟨q.2.1, 0, none⟩) (q.1 * m) (q.1 * m)], .int .i64 0]) (ao := fun q => some ⟨q.2.1, 0, none⟩) (xs := fun q => q.2.2) (A := fun q => bT m (n + (i + 1)) (n6 n d (aE xs n m)) q.2.2 q.1) (hne := ⟨(0, 0, [])⟩) (fun w' H => HC.out.2.2.2.2.2.1 i k b hs q w' h HB.out (H.all (.kP (some ⟨b, 0, none⟩) hs) (by simp)) (H.all (.ls mw (some q.1) (rowOf ws m i)) (by simp))) fun q2 => ?_;(iterate 3 refine dW ?_);refine sW ?_;refine eW ?_;refine ah ?_;obtain ⟨k2, b2, hs2⟩ := q2;refine sU (A := bT m (n + (i + 1)) (n6 n d (aE xs n m)) hs2 k2 /\ ∀ b o, (some ⟨b2, 0, none⟩ : Option Addr) = some ⟨b, o, none⟩ -> w.heap.size <= b) (by simp) fun hq => ?_;have HB2 := hi_ hq.1;clear hq;refine rW [] ?_;refine dW ?_;refine dE (dR (a := i) (by omega)) ?_;refine dW ?_;refine eW ?_;refine ah ?_;exact cf (i + 1, k2, b2, hs2) ⟨⟨h, HB2.out⟩, by show m - (i + 1) < m - i; omega⟩
 · obtain rfl : m = i := by omega
   refine ah ?_;refine rW [] ?_;(iterate 3 refine dW ?_);refine dB false ?_;refine eW ?_;refine ah ?_;refine dT ?_;refine ah ?_;refine rW [] ?_;refine dW ?_;refine dB true ?_;refine dW ?_;(iterate 4 refine dG ?_);refine rJ true ?_;refine dW ?_;refine dW ?_;refine dG ?_;refine dG ?_;refine AI (v := .bool true) (fun w' H => HC.out.2.2.2.2.2.2 k hs zs zo b zc w' HZ.out HB.out (H.all (.kP zo zs) (by simp)) (H.all (.kP (some ⟨b, 0, none⟩) hs) (by simp))) ?_;refine dW ?_;refine dW ?_;refine eW ?_;refine ah ?_;refine ei fun w' H => ?_;exact ⟨_, ee, rfl, H.below⟩
end Go.Proofs.YtjjlmfmoihooiaaGreat
namespace Go.Proofs.YtjjlmfmoihooiaaGreat
open Go.ChangeShapes Go.WideShapes Go.ChangeAt Go.RowKit Go.Deep
theorem open_int {H : Type} {enc : TypeId × Value -> H} {w : World} {base : Nat} {sp : Nat -> Bool} {held : Bool} {r : Reach} {b0 : Nat} {v : Value} {d : DataW H} {p : List MemPlace} (hv : Value.okWide Tryz.prog w r b0 37 v) (h : DataW.Trod enc Tryz.prog w base sp held 37 v d p) : ∃ z : Int, ai w (Rows.uptoBulk d) v z := by
 obtain ⟨v0, v1, y0, y1, n, rfl, rfl, rfl, h0, h1⟩ := Joins.open_agg2 Tryz.underlying37 (by kernel_rfl) (by kernel_rfl) hv h;obtain ⟨b, hb, hy0⟩ := DataW.trod_bool Tryz.underlying4 h0;obtain ⟨ao, len, cap, ws, hc, hlen, hcap, hW, hbk⟩ := nn h1;simp at hb hc;subst hb hc;refine ⟨zi b (ae ws), b, ao, len, cap, ws, rfl, hW, hlen, ?_, hcap, rfl⟩;rw [mD]; simp only [Rows.uptoBulkAll]; omega
namespace lawI
theorem own : ownKnob Tryz.prog.godebug = none := by kernel_rfl
theorem contract (H : Type) (enc : TypeId × Value -> H) (Wd : World) (base : Nat) (args : Array Value) (ds gs : List (DataW H)) (before : List MemPlace)
 (hval : ∀ (j : Nat) t v, Tryz.f5.params[j]? = some t -> args[j]? = some v -> Value.okWide Tryz.prog Wd .any base t v)
 (hW : DataW.Whole enc Tryz.prog Tryz.f5.params.toList Rows.modhnfInsertsSpec.vars false Wd args.toList ds gs before) (hk : Rows.uptoSmall H (ds ++ gs) = true) :
 Calls Tryz.prog 5 args Wd fun e W' => ∃ v, e = .returned v /\ Rows.modhnfInsertsSpec.post enc Tryz.prog Tryz.f5 false true false false Wd args v W' := by
 have hW' := hW;obtain ⟨p, q, hA0, hV, rfl, hfz, hnd⟩ := hW;have hA : DataW.TrodAll enc Tryz.prog Wd 0 (fun _ => true) true Tryz.f5.params.toList args.toList ds p := hA0;rw [Tryz.params5] at hA hval;obtain ⟨v1, vs1, d1, ds1, p1, q1, hargs, rfl, rfl, h1, r1⟩ := trodAll_cons hA;obtain ⟨v2, vs2, d2, ds2, p2, q2, rfl, rfl, rfl, h2, r2⟩ := trodAll_cons r1;obtain ⟨rfl, rfl, rfl⟩ := trodAll_nil r2;obtain rfl : args = #[v1, v2] := by cases args; simp_all
 obtain ⟨rfl, rfl⟩ := trodVars_none hV;have hbk := se hk;simp only [List.append_nil, Rows.uptoBulkAll] at hbk;obtain ⟨m, n, ao, len, cap, xs, rfl, hlen, hcap, hL, hb⟩ := wz (hval 0 _ v1 rfl rfl) h1;have R1 := uy (hval 0 _ _ rfl rfl) h1;obtain ⟨x2, hx2⟩ := open_int (hval 1 _ v2 rfl rfl) h2;obtain ⟨L, hLe, hLm⟩ : ∃ L, max (Rows.uptoBulk d1) (Rows.uptoBulk d2) = L /\ L <= 1048576 := ⟨_, rfl, by omega⟩;have hA1 : aL Wd L ao xs := fun hl => by
  obtain ⟨b, o, e, hlt, hc⟩ := hL hl;exact ⟨b, o, e, hlt, fun i hi => by obtain ⟨p, h0, h1, hx⟩ := hc i hi; exact ⟨p, h0, h1, hx.mono (by omega)⟩⟩
 have walk : Calls Tryz.prog 5 #[.agg #[.int .i64 m, .int .i64 n, .slice ao len cap], v2] Wd fun e w' => e = .returned (.bool true) /\ Below Wd.heap.size Wd w' := by
  obtain ⟨pd, rfl⟩ := hx2.parts;cases hs : aR m n len with
  | false => exact xV m n ao len cap pd Wd R1.1 R1.2 hs
  | true =>
   obtain ⟨r, c, rfl, rfl, hr, hc, hrc⟩ := sI hs;by_cases h0 : x2 = 0
   · subst h0;exact yR r c len L cap ao pd Wd hr hc hrc.symm (hx2.mono (by omega)) (by omega)
   · exact yH r c len L cap ao xs x2 pd Wd hr hc hLm hA1 (hlen.symm.trans hrc) hlen.symm h0 (hx2.mono (by omega))
 refine walk.mono fun e W' ⟨he, hg⟩ => ?_;subst he;exact ⟨_, rfl, law_post (by kernel_rfl) rfl (by kernel_rfl) hW' rfl rfl rfl hg⟩
theorem lifted (os : Os) (started : os.Started) (H : Type) (enc : TypeId × Value -> H) (F : Stop.Interp) :
 ReturnsInHanded {} Tryz.checked os 5 .any ((Rows.OpenSpec.upto Rows.modhnfInsertsSpec).pre6 enc Tryz.prog Tryz.f5 Rows.modhnfInsertsUptoRow.domain false) (((Rows.OpenSpec.upto Rows.modhnfInsertsSpec).at F).post enc Tryz.prog Tryz.f5 false true false false) := by
 refine returnsInHanded_of_cond (C := Tryz.checked) (s := Rows.OpenSpec.upto Rows.modhnfInsertsSpec) (k := Rows.uptoSmall) rfl own started (by kernel_rfl) Tryz.func5
  (OpenSpec.witness (enc := enc) (C := Tryz.checked) (s := Rows.OpenSpec.upto Rows.modhnfInsertsSpec) (k := Rows.uptoSmall) rfl false ⟨#[], #[.agg #[.int .i64 0, .int .i64 0, .slice none 0 0], .agg #[.bool false, .slice none 0 0]], []⟩ 8 (by kernel_rfl) (by kernel_rfl) (by kernel_rfl)
   (x := ([.agg [.lit (.int .i64 0), .lit (.int .i64 0), .nil], .agg [.lit (.bool false), .nil]], [], [])) (by kernel_rfl) rfl (by kernel_rfl)) ?_
 intro W base args ds gs before hval hW _ hk _;exact contract H enc W base args ds gs before hval hW hk
theorem over : Rows.modhnfInsertsUptoRow.holds Tryz.pinned (Rows.OpenSpec.upto Rows.modhnfInsertsSpec) :=
 OpenClaim.holds_of_cond 5 Tryz.f5 rfl rfl rfl rfl rfl rfl rfl ⟨rfl, rfl, rfl, rfl, rfl⟩ rfl rfl rfl rfl rfl (by kernel_rfl) Tryz.func5 (by kernel_rfl)
  (of_decide_eq_true (by kernel_rfl)) (by unfold Func.isWrapper; first | (rw [if_pos (by decide +kernel)]; kernel_rfl) | (rw [if_neg (by decide +kernel)]; exact ⟨rfl, rfl⟩))
  (fun os started H enc _ F => lifted os started H enc F)
theorem proved : Rows.ModhnfInsertsUptoSaid := over
end lawI
end Go.Proofs.YtjjlmfmoihooiaaGreat
